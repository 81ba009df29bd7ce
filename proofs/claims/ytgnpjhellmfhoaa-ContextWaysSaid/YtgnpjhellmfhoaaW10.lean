import Derived.Test.YtgnpjhellmfhoaaW9
import Derived.Shelf.SlSortCmp.NoneTotal
import Derived.Shelf.Small.Bits
import Derived.Ground.SlsfProg
import Derived.Ground.NamesProg
import Derived.Test.YtgnpjhellmfhoaaProg

/-
  DERIVED: THE SHELF's CONTRACTS AT THIS DUMP, IN PLAIN WORDS (tools/lay-plain.mjs out of 'YtgnpjhellmfhoaaLay0.lean', which tools/lay-shelf.mjs wrote): THE SAME DECLARATIONS UNDER THE SAME NAMES: 'import', 'namespace', 'open', 'def', 'theorem' AND NOTHING ELSE: no command of the shelf's: FOR A HAND-IN. Each laying: the table of numbers ('.._ren') and one theorem, a field a fact of the dump's own or the kernel's comparison; each contract: ONE APPLICATION.
-/
namespace Go.Proofs
open Go.Shelf
def Try.pdqL_ren : Go.Shelf.Ren := ⟨fun | 14 => 88 | 20 => 93 | 21 => 94 | 22 => 95 | 23 => 96 | 24 => 97 | 25 => 98 | 26 => 99 | 27 => 100 | 46 => 104 | 47 => 105 | 48 => 106 | 49 => 107 | 50 => 108 | 15 => 89 | 57 => 109 | 28 => 101 | 29 => 102 | n => n, fun | 24 => 125 | 22 => 120 | 3 => 3 | 25 => 142 | 4 => 4 | 0 => 0 | 46 => 162 | 45 => 161 | 50 => 51 | 66 => 172 | 39 => 157 | 55 => 170 | 70 => 176 | 76 => 178 | 77 => 179 | 53 => 168 | 5 => 5 | 9 => 9 | n => n, fun | n => n⟩
theorem Try.pdqL : Go.Proofs.SlLaysF0.n14 Try.prog Try.pdqL_ren := {
  mixed := by kernel_rfl
  f14 := ⟨Try.f88.name, by decide, Try.func88.trans (congrArg some (by kernel_rfl))⟩
  f15 := Try.func89.trans (congrArg some (by kernel_rfl))
  f20 := ⟨Try.f93.name, by decide, Try.func93.trans (congrArg some (by kernel_rfl))⟩
  f21 := ⟨Try.f94.name, by decide, Try.func94.trans (congrArg some (by kernel_rfl))⟩
  f22 := ⟨Try.f95.name, by decide, Try.func95.trans (congrArg some (by kernel_rfl))⟩
  f23 := ⟨Try.f96.name, by decide, Try.func96.trans (congrArg some (by kernel_rfl))⟩
  f24 := ⟨Try.f97.name, by decide, Try.func97.trans (congrArg some (by kernel_rfl))⟩
  f25 := ⟨Try.f98.name, by decide, Try.func98.trans (congrArg some (by kernel_rfl))⟩
  f26 := ⟨Try.f99.name, by decide, Try.func99.trans (congrArg some (by kernel_rfl))⟩
  f27 := ⟨Try.f100.name, by decide, Try.func100.trans (congrArg some (by kernel_rfl))⟩
  f28 := Try.func101.trans (congrArg some (by kernel_rfl))
  f29 := Try.func102.trans (congrArg some (by kernel_rfl))
  f46 := ⟨Try.f104.name, by decide, Try.func104.trans (congrArg some (by kernel_rfl))⟩
  f47 := Try.func105.trans (congrArg some (by kernel_rfl))
  f48 := Try.func106.trans (congrArg some (by kernel_rfl))
  f49 := ⟨Try.f107.name, by decide, Try.func107.trans (congrArg some (by kernel_rfl))⟩
  f50 := ⟨Try.f108.name, by decide, Try.func108.trans (congrArg some (by kernel_rfl))⟩
  f57 := ⟨Try.f109.name, by decide, Try.func109.trans (congrArg some (by kernel_rfl))⟩
  t0 := Try.underlying0
  a0 := Try.isAgg0
  z0 := Try.sizeOf0
  v0 := Try.zeroValue0
  t3 := Try.underlying3
  a3 := Try.isAgg3
  z3 := Try.sizeOf3
  v3 := Try.zeroValue3
  t4 := Try.underlying4
  a4 := Try.isAgg4
  z4 := Try.sizeOf4
  v4 := Try.zeroValue4
  t5 := Try.underlying5
  a5 := Try.isAgg5
  z5 := Try.sizeOf5
  v5 := Try.zeroValue5
  t9 := Try.underlying9
  a9 := Try.isAgg9
  z9 := Try.sizeOf9
  v9 := Try.zeroValue9
  t22 := Try.underlying120
  a22 := Try.isAgg120
  z22 := Try.sizeOf120
  v22 := Try.zeroValue120
  t25 := Try.underlying142
  a25 := Try.isAgg142
  z25 := Try.sizeOf142
  v25 := Try.zeroValue142
  t39 := Try.underlying157
  a39 := Try.isAgg157
  z39 := Try.sizeOf157
  v39 := Try.zeroValue157
  t45 := Try.underlying161
  a45 := Try.isAgg161
  z45 := Try.sizeOf161
  v45 := Try.zeroValue161
  t46 := Try.underlying162
  a46 := Try.isAgg162
  z46 := Try.sizeOf162
  v46 := Try.zeroValue162
  t50 := Try.underlying51
  a50 := Try.isAgg51
  z50 := Try.sizeOf51
  v50 := Try.zeroValue51
  t53 := Try.underlying168
  a53 := Try.isAgg168
  z53 := Try.sizeOf168
  v53 := Try.zeroValue168
  t55 := Try.underlying170
  a55 := Try.isAgg170
  z55 := Try.sizeOf170
  v55 := Try.zeroValue170
  t66 := Try.underlying172
  a66 := Try.isAgg172
  z66 := Try.sizeOf172
  v66 := Try.zeroValue172
  t70 := Try.underlying176
  a70 := Try.isAgg176
  z70 := Try.sizeOf176
  v70 := Try.zeroValue176
  t76 := Try.underlying178
  a76 := Try.isAgg178
  z76 := Try.sizeOf178
  v76 := Try.zeroValue178
  t77 := Try.underlying179
  a77 := Try.isAgg179
  z77 := Try.sizeOf179
  v77 := Try.zeroValue179 }
def Try.bitsL_ren : Go.Shelf.Ren := ⟨fun | 125 => 89 | 128 => 101 | 129 => 102 | n => n, fun | 46 => 157 | 3 => 3 | 51 => 168 | 53 => 170 | 4 => 4 | 5 => 5 | 9 => 9 | n => n, fun | n => n⟩
theorem Try.bitsL : Go.Proofs.Lays.n125 Try.prog Try.bitsL_ren := {
  mixed := by kernel_rfl
  f125 := Try.func89.trans (congrArg some (by kernel_rfl))
  f128 := Try.func101.trans (congrArg some (by kernel_rfl))
  f129 := Try.func102.trans (congrArg some (by kernel_rfl))
  t3 := Try.underlying3
  a3 := Try.isAgg3
  z3 := Try.sizeOf3
  v3 := Try.zeroValue3
  t4 := Try.underlying4
  a4 := Try.isAgg4
  z4 := Try.sizeOf4
  v4 := Try.zeroValue4
  t5 := Try.underlying5
  a5 := Try.isAgg5
  z5 := Try.sizeOf5
  v5 := Try.zeroValue5
  t9 := Try.underlying9
  a9 := Try.isAgg9
  z9 := Try.sizeOf9
  v9 := Try.zeroValue9
  t46 := Try.underlying157
  a46 := Try.isAgg157
  z46 := Try.sizeOf157
  v46 := Try.zeroValue157
  t51 := Try.underlying168
  a51 := Try.isAgg168
  z51 := Try.sizeOf168
  v51 := Try.zeroValue168
  t53 := Try.underlying170
  a53 := Try.isAgg170
  z53 := Try.sizeOf170
  v53 := Try.zeroValue170 }
end Go.Proofs

/-
  Context: what fits a model; comparing and sorting nodes.
-/
namespace Go.Proofs.Ytgnpjhellmfhoaa
open Go.RowKit Sy Go.Sort Go.Shelf


def fitsC (x : Lat) (n : Nat) (p : Int) : Bool := okX x && decide (-1 ≤ p ∧ p < n) && wordsIn x n
theorem wordsIn_any (x : Lat) (n : Nat) : (!x.Edges.any fun e => decide ((n : Int) ≤ e.Word)) = wordsIn x n := by
  unfold wordsIn
  rw [Bool.eq_iff_iff]; simp
set_option maxRecDepth 100000 in
theorem cfits_c (x : Lat) (m : Mdl) (p : Int) (hsm : ∀ e ∈ x.Edges, -1099511627776 ≤ e.To ∧ e.To ≤ 1099511627776) (a0 a1 a2 : Option Addr) (c0 c1 c2 : Nat) (a3 : Option Addr) (c3 : Nat) (μ : Mem) (w : World) (hμ : Imm μ w) (hx : Sl μ a3 c3 x.Edges) (hm0 : Sl μ a0 c0 m.Words) (hm1 : Sl μ a1 c1 m.Counts) (hm2 : Sl μ a2 c2 m.Pairs) :
    Calls Try.prog 40 #[.agg #[.int .i64 x.N, .slice a3 x.Edges.length c3], .agg #[.slice a0 m.Words.length c0, .slice a1 m.Counts.length c1, .slice a2 m.Pairs.length c2, .int .i64 m.Back], .int .i64 p] w (RetS w (.bool (fitsC x m.Words.length p))) := by
  have hS := St.start w μ hμ
  refine calls_start 29 [.agg #[.int .i64 x.N, .slice a3 x.Edges.length c3], .agg #[.slice a0 m.Words.length c0, .slice a1 m.Counts.length c1, .slice a2 m.Pairs.length c2, .int .i64 m.Back], .int .i64 p] Try.func40 rfl Try.ntmps40 rfl rfl ?_
  refine CW.seq fun K1 hK1 => ?_
  refine CW.region [0, 1, 2] rfl ?_
  refine LW.hv rfl rfl rfl rfl (Hv.boxS hS rfl rfl) fun v w3 ⟨b3, hv, hb3, hS⟩ => ?_
  subst hv
  refine LW.hv rfl rfl rfl rfl (Hv.boxS hS rfl rfl) fun v w4 ⟨b4, hv, hb4, hS⟩ => ?_
  subst hv
  refine LW.ex rfl rfl rfl rfl (Ex.assign rfl) hS.rd ?_
  refine LW.nil fun aa ha => hK1 _ _ _ ?_ aa ha
  refine CW.seq fun K2 hK2 => ?_
  refine CW.region [0, 1] rfl ?_
  refine LW.ex rfl rfl rfl rfl (Ex.makeFunc rfl) hS.rd ?_
  refine LW.ex rfl rfl rfl rfl (Ex.assign rfl) hS.rd ?_
  refine LW.nil fun aa ha => hK2 _ _ _ ?_ aa ha
  refine CW.seq fun K3 hK3 => ?_
  refine CW.region [0, 1, 2, 3, 4, 5, 6, 7, 8, 9, 10, 11, 12, 13, 14, 15, 16, 17, 18, 19, 20] rfl ?_
  refine LW.ex rfl rfl rfl rfl (Ex.load2c ti38 rfl rfl (by first | exact obT rfl | exact Rd.imm ‹_› | exact slT ‹_›) (by first | exact obT rfl | exact Rd.imm ‹_› | exact slT ‹_›)) hS.rd ?_
  refine LW.hv rfl rfl rfl rfl (Hv.callS hS rfl rfl rfl cb67 (xvalid_c x hsm _ _ μ _ hS.imm hx)) fun v w10 ⟨hv, hS⟩ => ?_
  subst hv
  refine LW.splitB (fun h2_1 => ?_) (fun h2_1 => ?_)
  · skip
    refine LW.ex rfl rfl rfl rfl (Ex.move rfl) hS.rd ?_
    refine LW.ex rfl rfl rfl rfl (Ex.move rfl) hS.rd ?_
    refine LW.ex rfl rfl rfl rfl (Ex.geq rfl rfl rfl) hS.rd ?_
    refine LW.splitB (fun h2_4 => ?_) (fun h2_4 => ?_)
    · have h2_4 := of_decide_eq_true h2_4
      refine LW.ex rfl rfl rfl rfl (by first | exact Ex.pick_yes rfl rfl | exact Ex.pick_no rfl rfl) hS.rd ?_
      refine LW.ex rfl rfl rfl rfl (Ex.move rfl) hS.rd ?_
      refine LW.ex rfl rfl rfl rfl (Ex.move rfl) hS.rd ?_
      refine LW.ex rfl rfl rfl rfl (Ex.fieldO 0 Try.underlying34 rfl rfl ti30 rfl) hS.rd ?_
      refine LW.ex rfl rfl rfl rfl (Ex.load1 ti30 rfl rfl (by first | exact obT rfl | exact Rd.imm ‹_› | exact slT ‹_›)) hS.rd ?_
      refine LW.ex rfl rfl rfl rfl (Ex.lenSl rfl Try.underlying30 rfl) hS.rd ?_
      refine LW.ex rfl rfl rfl rfl (Ex.lss rfl rfl rfl) hS.rd ?_
      refine LW.splitB (fun h2_11 => ?_) (fun h2_11 => ?_)
      · have h2_11 := of_decide_eq_true h2_11
        refine LW.ex rfl rfl rfl rfl (by first | exact Ex.pick_yes rfl rfl | exact Ex.pick_no rfl rfl) hS.rd ?_
        refine LW.ex rfl rfl rfl rfl (Ex.move rfl) hS.rd ?_
        refine LW.ex rfl rfl rfl rfl (Ex.fieldO 1 Try.underlying38 rfl rfl ti36 rfl) hS.rd ?_
        refine LW.ex rfl rfl rfl rfl (Ex.load1 ti36 rfl rfl (by first | exact obT rfl | exact Rd.imm ‹_› | exact slT ‹_›)) hS.rd ?_
        refine LW.ex rfl rfl rfl rfl (Ex.move rfl) hS.rd ?_
        refine LW.hv rfl rfl rfl rfl (Hv.callS hS rfl rfl rfl cb68 (containsEd_c x.Edges (fun e => decide ((m.Words.length : Int) ≤ e.Word)) 66 #[.pointer (some ⟨b4, 0, none⟩)] cb66 _ _ (memOf _) _ (imm_memOf _) (hx.mono hS.imm.ext) (fun e _ w' hw' => fits1_c e b4 m a0 a1 a2 c0 c1 c2 _ w' hw' (memOf_cell (Rd.obj (k := 0) rfl rfl _ hS.rd))))) fun v w26 ⟨hv, hS⟩ => ?_
        subst hv
        refine LW.ex rfl rfl rfl rfl (Ex.not rfl rfl) hS.rd ?_
        refine LW.ex rfl rfl rfl rfl (by first | exact Ex.pick_yes rfl rfl | exact Ex.pick_no rfl rfl) hS.rd ?_
        refine LW.ex rfl rfl rfl rfl (Ex.assign rfl) hS.rd ?_
        refine LW.nil fun aa ha => hK3 _ _ _ ?_ aa ha
        refine CW.ret fun aa ha => ?_
        refine ret_one ha Try.results40 rfl ?_
        refine hS.retB ?_
        unfold fitsC
        rw [← wordsIn_any]
        simp_all <;> (intros; exfalso; omega)
      · have h2_11 := of_decide_eq_false h2_11
        refine LW.ex rfl rfl rfl rfl (by first | exact Ex.pick_yes rfl rfl | exact Ex.pick_no rfl rfl) hS.rd ?_
        refine LW.ex rfl rfl rfl rfl (Ex.move rfl) hS.rd ?_
        refine LW.skip rfl rfl rfl rfl ?_
        refine LW.skip rfl rfl rfl rfl ?_
        refine LW.skip rfl rfl rfl rfl ?_
        refine LW.skip rfl rfl rfl rfl ?_
        refine LW.skip rfl rfl rfl rfl ?_
        refine LW.ex rfl rfl rfl rfl (by first | exact Ex.pick_yes rfl rfl | exact Ex.pick_no rfl rfl) hS.rd ?_
        refine LW.ex rfl rfl rfl rfl (Ex.assign rfl) hS.rd ?_
        refine LW.nil fun aa ha => hK3 _ _ _ ?_ aa ha
        refine CW.ret fun aa ha => ?_
        refine ret_one ha Try.results40 rfl ?_
        refine hS.retB ?_
        unfold fitsC
        rw [← wordsIn_any]
        simp_all <;> (intros; exfalso; omega)
    · have h2_4 := of_decide_eq_false h2_4
      refine LW.ex rfl rfl rfl rfl (by first | exact Ex.pick_yes rfl rfl | exact Ex.pick_no rfl rfl) hS.rd ?_
      refine LW.ex rfl rfl rfl rfl (Ex.move rfl) hS.rd ?_
      refine LW.skip rfl rfl rfl rfl ?_
      refine LW.skip rfl rfl rfl rfl ?_
      refine LW.skip rfl rfl rfl rfl ?_
      refine LW.skip rfl rfl rfl rfl ?_
      refine LW.skip rfl rfl rfl rfl ?_
      refine LW.ex rfl rfl rfl rfl (by first | exact Ex.pick_yes rfl rfl | exact Ex.pick_no rfl rfl) hS.rd ?_
      refine LW.ex rfl rfl rfl rfl (Ex.move rfl) hS.rd ?_
      refine LW.skip rfl rfl rfl rfl ?_
      refine LW.skip rfl rfl rfl rfl ?_
      refine LW.skip rfl rfl rfl rfl ?_
      refine LW.skip rfl rfl rfl rfl ?_
      refine LW.skip rfl rfl rfl rfl ?_
      refine LW.ex rfl rfl rfl rfl (by first | exact Ex.pick_yes rfl rfl | exact Ex.pick_no rfl rfl) hS.rd ?_
      refine LW.ex rfl rfl rfl rfl (Ex.assign rfl) hS.rd ?_
      refine LW.nil fun aa ha => hK3 _ _ _ ?_ aa ha
      refine CW.ret fun aa ha => ?_
      refine ret_one ha Try.results40 rfl ?_
      refine hS.retB ?_
      unfold fitsC
      rw [← wordsIn_any]
      simp_all <;> (intros; exfalso; omega)
  · skip
    refine LW.ex rfl rfl rfl rfl (Ex.move rfl) hS.rd ?_
    refine LW.skip rfl rfl rfl rfl ?_
    refine LW.skip rfl rfl rfl rfl ?_
    refine LW.ex rfl rfl rfl rfl (by first | exact Ex.pick_yes rfl rfl | exact Ex.pick_no rfl rfl) hS.rd ?_
    refine LW.ex rfl rfl rfl rfl (Ex.move rfl) hS.rd ?_
    refine LW.skip rfl rfl rfl rfl ?_
    refine LW.skip rfl rfl rfl rfl ?_
    refine LW.skip rfl rfl rfl rfl ?_
    refine LW.skip rfl rfl rfl rfl ?_
    refine LW.skip rfl rfl rfl rfl ?_
    refine LW.ex rfl rfl rfl rfl (by first | exact Ex.pick_yes rfl rfl | exact Ex.pick_no rfl rfl) hS.rd ?_
    refine LW.ex rfl rfl rfl rfl (Ex.move rfl) hS.rd ?_
    refine LW.skip rfl rfl rfl rfl ?_
    refine LW.skip rfl rfl rfl rfl ?_
    refine LW.skip rfl rfl rfl rfl ?_
    refine LW.skip rfl rfl rfl rfl ?_
    refine LW.skip rfl rfl rfl rfl ?_
    refine LW.ex rfl rfl rfl rfl (by first | exact Ex.pick_yes rfl rfl | exact Ex.pick_no rfl rfl) hS.rd ?_
    refine LW.ex rfl rfl rfl rfl (Ex.assign rfl) hS.rd ?_
    refine LW.nil fun aa ha => hK3 _ _ _ ?_ aa ha
    refine CW.ret fun aa ha => ?_
    refine ret_one ha Try.results40 rfl ?_
    refine hS.retB ?_
    unfold fitsC
    rw [← wordsIn_any]
    simp_all <;> (intros; exfalso; omega)

/-! ### Comparing -/
def cmpL : List Int → List Int → Int
  | [], [] => 0
  | [], _ :: _ => -1
  | _ :: _, [] => 1
  | a :: r, b :: s => if cmpI a b = 0 then cmpL r s else cmpI a b
theorem cmpL_nil (l : List Int) : cmpL [] l = if 0 < l.length then -1 else 0 := by cases l <;> simp [cmpL]
theorem compare_c (a b : List Int) (ada adb : Option Addr) (ca cb : Nat) (μ : Mem) (w : World) (hμ : Imm μ w) (hla : Sl μ ada ca a) (hlb : Sl μ adb cb b) :
    Calls Try.prog 50 #[.slice ada a.length ca, .slice adb b.length cb] w (RetS w (.int .i64 (cmpL a b))) := by
  have h1 := hla.1
  have h2 := hla.2.1
  have h3 := hlb.1
  have h4 := hlb.2.1
  simp only [maxLen] at h2 h4
  have hS := St.start w μ hμ
  refine calls_start 36 [.slice ada a.length ca, .slice adb b.length cb] Try.func50 rfl Try.ntmps50 rfl rfl ?_
  refine CW.seq fun K4 hK4 => ?_
  refine CW.region [0] rfl ?_
  refine LW.ex rfl rfl rfl rfl (Ex.assign rfl) hS.rd ?_
  refine LW.nil fun aa ha => hK4 _ _ _ ?_ aa ha
  refine CW.seq fun K5 hK5 => ?_
  refine CW.seq fun K6 hK6 => ?_
  refine CW.region [0, 1, 2] rfl ?_
  refine LW.ex rfl rfl rfl rfl (Ex.move rfl) hS.rd ?_
  refine LW.ex rfl rfl rfl rfl (Ex.lenSl rfl Try.underlying31 rfl) hS.rd ?_
  refine LW.ex rfl rfl rfl rfl (Ex.move rfl) hS.rd ?_
  refine LW.nil fun aa ha => hK6 _ _ _ ?_ aa ha
  refine CW.block ?_
  refine CW.loop (fun qq frm wl2 => ∃ (i : Nat), i ≤ a.length ∧ i ≤ b.length ∧ qq = a.length - i ∧ frm = [(0, .slice ada a.length ca), (1, .slice adb b.length cb), (9, .slice ada a.length ca), (10, .int .i64 ((a.length : Nat) : Int)), (11, .int .i64 i)] ∧ St w wl2 μ [] ∧ (cmpL a b = cmpL (a.drop i) (b.drop i))) _ ⟨0, (by first | omega | (simp; done) | (simp; omega)), (by first | omega | (simp; done) | (simp; omega)), rfl, rfl, hS, rfl⟩ ⟨rfl, rfl, rfl, rfl, rfl, trivial⟩ ?_
  clear hS
  rintro qq frm wl2 ⟨i, hi, hj, hq, rfl, hS, he⟩
  refine CW.seq fun K7 hK7 => ?_
  refine CW.region [0] rfl ?_
  refine LW.ex rfl rfl rfl rfl (Ex.lss rfl rfl rfl) hS.rd ?_
  refine LW.splitB (fun h2_0 => ?_) (fun h2_0 => ?_)
  · have h2_0 := of_decide_eq_true h2_0
    refine LW.nil fun aa ha => hK7 _ _ _ ?_ aa ha
    refine CW.seq fun K8 hK8 => ?_
    refine CW.yes rfl ?_
    refine CW.skip fun aa ha => hK8 _ _ _ ?_ aa ha
    refine CW.seq fun K9 hK9 => ?_
    refine CW.block ?_
    refine CW.seq fun K10 hK10 => ?_
    have hi2 : i < a.length := by omega
    rw [drop_cons hi2] at he
    obtain ⟨bl, ol, rfl, k0⟩ := hla.at hi2
    refine CW.region [0, 1, 2, 3, 4] rfl ?_
    refine LW.ex rfl rfl rfl rfl (Ex.move rfl) hS.rd ?_
    refine LW.ex rfl rfl rfl rfl (Ex.indexSl Try.underlying31 ti3 rfl rfl rfl (by omega)) hS.rd ?_
    refine LW.ex rfl rfl rfl rfl (Ex.load1 ti3 rfl rfl (by first | exact obT rfl | exact Rd.imm ‹_› | exact slT ‹_›)) hS.rd ?_
    refine LW.ex rfl rfl rfl rfl (Ex.assign rfl) hS.rd ?_
    refine LW.ex rfl rfl rfl rfl (Ex.assign rfl) hS.rd ?_
    refine LW.nil fun aa ha => hK10 _ _ _ ?_ aa ha
    refine CW.seq fun K11 hK11 => ?_
    refine CW.seq fun K12 hK12 => ?_
    refine CW.region [0, 1, 2, 3] rfl ?_
    refine LW.ex rfl rfl rfl rfl (Ex.move rfl) hS.rd ?_
    refine LW.ex rfl rfl rfl rfl (Ex.move rfl) hS.rd ?_
    refine LW.ex rfl rfl rfl rfl (Ex.lenSl rfl Try.underlying31 rfl) hS.rd ?_
    refine LW.ex rfl rfl rfl rfl (Ex.geq rfl rfl rfl) hS.rd ?_
    refine LW.splitB (fun h4_3 => ?_) (fun h4_3 => ?_)
    · have h4_3 := of_decide_eq_true h4_3
      refine LW.nil fun aa ha => hK12 _ _ _ ?_ aa ha
      refine CW.yes rfl ?_
      refine CW.seq fun K13 hK13 => ?_
      refine CW.region [0] rfl ?_
      refine LW.ex rfl rfl rfl rfl (Ex.assign rfl) hS.rd ?_
      refine LW.nil fun aa ha => hK13 _ _ _ ?_ aa ha
      refine CW.ret fun aa ha => ?_
      refine ret_one ha Try.results50 rfl ?_
      exact hS.retE (by rw [he, List.drop_of_length_le (show b.length ≤ i by omega)]; rfl)
    · have h4_3 := of_decide_eq_false h4_3
      refine LW.nil fun aa ha => hK12 _ _ _ ?_ aa ha
      refine CW.no rfl ?_
      refine CW.skip fun aa ha => hK11 _ _ _ ?_ aa ha
      refine CW.seq fun K14 hK14 => ?_
      have hj2 : i < b.length := by omega
      rw [drop_cons hj2, cmpL] at he
      obtain ⟨bl2, ol2, rfl, j0⟩ := hlb.at hj2
      refine CW.region [0, 1, 2, 3, 4] rfl ?_
      refine LW.ex rfl rfl rfl rfl (Ex.move rfl) hS.rd ?_
      refine LW.ex rfl rfl rfl rfl (Ex.move rfl) hS.rd ?_
      refine LW.ex rfl rfl rfl rfl (Ex.indexSl Try.underlying31 ti3 rfl rfl rfl (by omega)) hS.rd ?_
      refine LW.ex rfl rfl rfl rfl (Ex.load1 ti3 rfl rfl (by first | exact obT rfl | exact Rd.imm ‹_› | exact slT ‹_›)) hS.rd ?_
      refine LW.ex rfl rfl rfl rfl (Ex.assign rfl) hS.rd ?_
      refine LW.nil fun aa ha => hK14 _ _ _ ?_ aa ha
      refine CW.seq fun K15 hK15 => ?_
      refine CW.region [0, 1, 2, 3] rfl ?_
      refine LW.ex rfl rfl rfl rfl (Ex.move rfl) hS.rd ?_
      refine LW.ex rfl rfl rfl rfl (Ex.move rfl) hS.rd ?_
      refine LW.hv rfl rfl rfl rfl (Hv.callS hS rfl rfl rfl cb72 (cmp_c a[i] b[i] _)) fun v w26 ⟨hv, hS⟩ => ?_
      subst hv
      refine LW.ex rfl rfl rfl rfl (Ex.assign rfl) hS.rd ?_
      refine LW.nil fun aa ha => hK15 _ _ _ ?_ aa ha
      refine CW.seq fun K16 hK16 => ?_
      refine CW.region [0, 1] rfl ?_
      refine LW.ex rfl rfl rfl rfl (Ex.move rfl) hS.rd ?_
      refine LW.ex rfl rfl rfl rfl (Ex.neq rfl rfl rfl) hS.rd ?_
      refine LW.splitB (fun h8_1 => ?_) (fun h8_1 => ?_)
      · have h8_1 := of_decide_eq_true h8_1
        refine LW.nil fun aa ha => hK16 _ _ _ ?_ aa ha
        refine CW.yes rfl ?_
        refine CW.seq fun K17 hK17 => ?_
        refine CW.region [0, 1] rfl ?_
        refine LW.ex rfl rfl rfl rfl (Ex.move rfl) hS.rd ?_
        refine LW.ex rfl rfl rfl rfl (Ex.assign rfl) hS.rd ?_
        refine LW.nil fun aa ha => hK17 _ _ _ ?_ aa ha
        refine CW.ret fun aa ha => ?_
        refine ret_one ha Try.results50 rfl ?_
        exact hS.retE (by rw [he, if_neg h8_1])
      · have h8_1 := of_decide_eq_false h8_1
        refine LW.nil fun aa ha => hK16 _ _ _ ?_ aa ha
        refine CW.no rfl ?_
        refine CW.skip fun aa ha => hK9 _ _ _ ?_ aa ha
        refine CW.region [0, 1] rfl ?_
        refine LW.ex rfl rfl rfl rfl (Ex.add rfl rfl (by first | exact inc64 (by omega) | exact addN (by omega) | exact w64 (by omega) (by omega))) hS.rd ?_
        refine LW.ex rfl rfl rfl rfl (Ex.move rfl) hS.rd ?_
        refine LW.nil fun aa ha => ?_
        refine ⟨_, _, ?m2, ⟨i + 1, (by first | omega | (simp; done) | (simp; omega)), (by first | omega | (simp; done) | (simp; omega)), rfl, rfl, hS, by rw [he, if_pos (by omega)]⟩, ha.sub ⟨rfl, rfl, rfl, rfl, rfl, trivial⟩⟩
        case m2 => omega
  · have h2_0 := of_decide_eq_false h2_0
    refine LW.nil fun aa ha => hK7 _ _ _ ?_ aa ha
    refine CW.seq fun K18 hK18 => ?_
    refine CW.no rfl ?_
    refine CW.exit fun aa ha => hK5 _ _ _ ?_ aa ha
    refine CW.seq fun K19 hK19 => ?_
    refine CW.seq fun K20 hK20 => ?_
    refine CW.region [0, 1, 2, 3, 4] rfl ?_
    refine LW.ex rfl rfl rfl rfl (Ex.move rfl) hS.rd ?_
    refine LW.ex rfl rfl rfl rfl (Ex.lenSl rfl Try.underlying31 rfl) hS.rd ?_
    refine LW.ex rfl rfl rfl rfl (Ex.move rfl) hS.rd ?_
    refine LW.ex rfl rfl rfl rfl (Ex.lenSl rfl Try.underlying31 rfl) hS.rd ?_
    refine LW.ex rfl rfl rfl rfl (Ex.lss rfl rfl rfl) hS.rd ?_
    refine LW.splitB (fun h11_4 => ?_) (fun h11_4 => ?_)
    · have h11_4 := of_decide_eq_true h11_4
      refine LW.nil fun aa ha => hK20 _ _ _ ?_ aa ha
      refine CW.yes rfl ?_
      refine CW.seq fun K21 hK21 => ?_
      refine CW.region [0] rfl ?_
      refine LW.ex rfl rfl rfl rfl (Ex.assign rfl) hS.rd ?_
      refine LW.nil fun aa ha => hK21 _ _ _ ?_ aa ha
      refine CW.ret fun aa ha => ?_
      refine ret_one ha Try.results50 rfl ?_
      exact hS.retE (by rw [he, List.drop_of_length_le (show a.length ≤ i by omega), cmpL_nil, if_pos (by rw [List.length_drop]; omega)])
    · have h11_4 := of_decide_eq_false h11_4
      refine LW.nil fun aa ha => hK20 _ _ _ ?_ aa ha
      refine CW.no rfl ?_
      refine CW.skip fun aa ha => hK19 _ _ _ ?_ aa ha
      refine CW.seq fun K22 hK22 => ?_
      refine CW.region [0] rfl ?_
      refine LW.ex rfl rfl rfl rfl (Ex.assign rfl) hS.rd ?_
      refine LW.nil fun aa ha => hK22 _ _ _ ?_ aa ha
      refine CW.ret fun aa ha => ?_
      refine ret_one ha Try.results50 rfl ?_
      exact hS.retE (by rw [he, List.drop_of_length_le (show a.length ≤ i by omega), cmpL_nil, if_neg (by rw [List.length_drop]; omega)])
def ndCmp (x y : I2) : Int := cmpL [x.a, x.b] [y.a, y.b]
def ndLt (x y : I2) : Prop := x.a < y.a ∨ (x.a = y.a ∧ x.b < y.b)
instance (x y : I2) : Decidable (ndLt x y) := by unfold ndLt; infer_instance
theorem cmpI_z {a b : Int} : cmpI a b = 0 ↔ a = b := by unfold cmpI; split <;> (try split) <;> omega
theorem cmpI_n {a b : Int} : cmpI a b < 0 ↔ a < b := by unfold cmpI; split <;> (try split) <;> omega
theorem ndCmp_lt {x y : I2} : ndCmp x y < 0 ↔ ndLt x y := by
  simp only [ndCmp, cmpL, ndLt]
  by_cases h1 : cmpI x.a y.a = 0
  · rw [if_pos h1]
    have e1 := cmpI_z.1 h1
    by_cases h2 : cmpI x.b y.b = 0
    · rw [if_pos h2]; have e2 := cmpI_z.1 h2; omega
    · rw [if_neg h2, cmpI_n]; omega
  · rw [if_neg h1, cmpI_n]
    have e1 := (not_congr cmpI_z).1 h1
    omega
theorem ndLtOf (x y : I2) : ltOf ndCmp x y = decide (ndLt x y) := by
  unfold ltOf
  by_cases h : ndLt x y
  · rw [decide_eq_true h]; exact decide_eq_true (ndCmp_lt.2 h)
  · rw [decide_eq_false h]; exact decide_eq_false (fun e => h (ndCmp_lt.1 e))
theorem swoNd : SWO (ltOf ndCmp) where
  irrefl x := by rw [ndLtOf]; exact decide_eq_false (by unfold ndLt; omega)
  trans x y z h1 h2 := by rw [ndLtOf, decide_eq_true_eq] at *; unfold ndLt at *; omega
  ntrans x y z h1 h2 := by rw [ndLtOf, decide_eq_false_iff_not] at *; unfold ndLt at *; omega
set_option maxRecDepth 100000 in
theorem ndCmp_c (x y : I2) (w : World) : Calls Try.prog 74 #[i2V x, i2V y] w (RetS w (.int .i64 (ndCmp x y))) := by
  have hS := St.start w (fun _ => none) (fun _ _ h => by cases h)
  refine calls_start 8 [i2V x, i2V y] Try.func74 rfl Try.ntmps74 rfl rfl ?_
  refine CW.seq fun K23 hK23 => ?_
  refine CW.region [0, 1, 2] rfl ?_
  refine LW.hv rfl rfl rfl rfl (Hv.boxS hS rfl rfl) fun v w2 ⟨b2, hv, hb2, hS⟩ => ?_
  subst hv
  refine LW.hv rfl rfl rfl rfl (Hv.boxS hS rfl rfl) fun v w3 ⟨b3, hv, hb3, hS⟩ => ?_
  subst hv
  refine LW.ex rfl rfl rfl rfl (Ex.assign rfl) hS.rd ?_
  refine LW.nil fun aa ha => hK23 _ _ _ ?_ aa ha
  refine CW.seq fun K24 hK24 => ?_
  have hS := hS.drew
  refine CW.draw 4 (.ex 0 <| .ex 1 <| .one 2 <| .ex 3 <| .done) [] (Rd _ _) mixed (by kernel_rfl) rfl rfl hS.rd ?_
  refine PW.ex rfl rfl rfl rfl (Ex.sliceArr Try.underlying125 ti3 rfl) ?_
  refine PW.ex rfl rfl rfl rfl (Ex.sliceArr Try.underlying125 ti3 rfl) ?_
  refine PW.hv rfl rfl rfl rfl (Hv.callS hS rfl rfl rfl cb50 (compare_c [x.a, x.b] [y.a, y.b] _ _ _ _ (memOf _) _ (imm_memOf _) (hS.lend_obj (k := 1) rfl (RepL.ints2 _ _ _) (by simp [maxLen])) (hS.lend_obj (k := 0) rfl (RepL.ints2 _ _ _) (by simp [maxLen])))) (fun _ _ h => h.2.rd) fun v w7 ⟨hv, hS⟩ => ?_
  subst hv
  refine PW.ex rfl rfl rfl rfl (Ex.assign rfl) ?_
  refine PW.nil ?_
  refine LW.nil fun aa ha => hK24 _ _ _ ?_ aa ha
  refine CW.ret fun aa ha => ?_
  refine ret_one ha Try.results74 rfl ?_
  exact hS.retS
theorem sortNd_c (blk cap : Nat) (d : Array I2) (w : World) (hH : HoldsK i2L 2 w blk 0 d) (hblk : blk < w.heap.size) (hsz : d.size < 4611686018427387904) :
    Calls Try.prog 73 #[.slice (some ⟨blk, 0, none⟩) d.size cap, .func (.func 74) #[] #[]] w fun e w' => e = .returned (.tuple #[]) ∧ ∃ d' n os, PermIn 0 d.size d d' ∧ SortedIn (ltOf ndCmp) 0 d.size d' ∧ w' = sortWorldK i2L 2 w blk 0 n d' os := by
  have hlim : Lib.bitLen d.size < 4611686018427387904 := Nat.lt_of_le_of_lt (Lib.bitLen_le d.size 62 (by omega) (by omega)) (by omega)
  have hp := AnyQ.pdqsortCmpFunc_all (P := Try.prog) (ρ := Try.pdqL_ren) Try.pdqL 2 Try.isAgg125 Try.sizeOf125 i2L ndCmp 74 #[] swoNd blk 0 cap d w (fun args w => cb74.run args w) (cmpLays_of ndCmp_c) ⟨fun _ => rfl, fun x v hv => by simp [i2L] at hv; rcases hv with rfl | rfl <;> rfl, hH, hblk⟩
    (d.size + 1) 0 d.size (Lib.bitLen d.size) d w (by omega) rfl (SWK.start hH) (Nat.zero_le _) (Nat.le_refl _) hsz hlim (Or.inl rfl)
  have hb : Calls Try.prog 89 #[.int .u64 (d.size : Int)] w fun e w' => ∃ v, e = .returned v ∧ (v = .int .i64 (Lib.bitLen d.size) ∧ w' = w) := by
    have h := Any.bits_Len Try.bitsL (d.size : Int) w (by omega) (by omega)
    rw [Int.toNat_natCast] at h
    exact h.mono fun e w' ⟨he, hw⟩ => ⟨_, he, rfl, hw⟩
  have hq : Calls Try.prog 88 #[.slice (some ⟨blk, 0, none⟩) d.size cap, .int .i64 0, .int .i64 d.size, .int .i64 (Lib.bitLen d.size), .func (.func 74) #[] #[]] w fun e w' => ∃ v, e = .returned v ∧ (v = .tuple #[] ∧ ∃ d' n os, PermIn 0 d.size d d' ∧ SortedIn (ltOf ndCmp) 0 d.size d' ∧ w' = sortWorldK i2L 2 w blk 0 n d' os) := by
    refine hp.mono fun e w' ⟨he, n, os, hw⟩ => ⟨_, he, rfl, ?_⟩
    have h := pdq_sorts (ltOf ndCmp) swoNd d 0 d.size (Lib.bitLen d.size) true true (Nat.zero_le _) (Nat.le_refl _) (Or.inl rfl)
    exact ⟨_, n, os, h.1, h.2, hw⟩
  have hS := St.start w (fun _ => none) (fun _ _ h => by cases h)
  refine calls_start 14 [.slice (some ⟨blk, 0, none⟩) d.size cap, .func (.func 74) #[] #[]] Try.func73 rfl Try.ntmps73 rfl rfl ?_
  refine CW.seq fun K0 hK0 => ?_
  refine CW.region [0, 1, 2] rfl ?_
  refine LW.ex rfl rfl rfl rfl (Ex.move rfl) hS.rd ?_
  refine LW.ex rfl rfl rfl rfl (Ex.lenSl rfl Try.underlying120 rfl) hS.rd ?_
  refine LW.ex rfl rfl rfl rfl (Ex.assign rfl) hS.rd ?_
  refine LW.nil fun aa ha => hK0 _ _ _ ?_ aa ha
  refine CW.region [0, 1, 2, 3, 4, 5, 6] rfl ?_
  refine LW.ex rfl rfl rfl rfl (Ex.move rfl) hS.rd ?_
  refine LW.ex rfl rfl rfl rfl (Ex.move rfl) hS.rd ?_
  refine LW.ex rfl rfl rfl rfl (Ex.move rfl) hS.rd ?_
  refine LW.ex rfl rfl rfl rfl (Ex.conv Try.underlying3 Try.underlying157 rfl (wrapU hsz)) hS.rd ?_
  refine LW.hv rfl rfl rfl rfl (Hv.call rfl rfl rfl cb89 hb) fun v w11 hv => ?_
  obtain ⟨rfl, rfl⟩ := hv
  refine LW.ex rfl rfl rfl rfl (Ex.move rfl) hS.rd ?_
  refine LW.hv rfl rfl rfl rfl (Hv.call rfl rfl rfl cb88 hq) fun v w13 hv => ?_
  obtain ⟨rfl, hv⟩ := hv
  refine LW.nil fun aa ha => ?_
  exact end_none ha Try.results73 ⟨rfl, hv⟩
end Go.Proofs.Ytgnpjhellmfhoaa
