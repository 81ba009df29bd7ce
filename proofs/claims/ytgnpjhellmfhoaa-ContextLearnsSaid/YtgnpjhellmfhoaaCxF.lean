/-
  Context: the walks of the searches for pairs, the pairs after a word, their numbers.
-/
import Derived.Test.YtgnpjhellmfhoaaCxE
namespace Go.Proofs.Ytgnpjhellmfhoaa
open Go.RowKit Sy

def keyCmp (a b : Int) (p : Pr) : Int := orL [cmpI p.A a, cmpI p.B b]
theorem keyCmp_lt {a b : Int} {p : Pr} : keyCmp a b p < 0 ↔ p.A < a ∨ (p.A = a ∧ p.B < b) := by
  simp only [keyCmp, orL, cmpI]; split <;> split <;> (try split) <;> (try split) <;> (try split) <;> omega
theorem keyCmp_eq {a b : Int} {p : Pr} : keyCmp a b p = 0 ↔ p.A = a ∧ p.B = b := by
  simp only [keyCmp, orL, cmpI]; split <;> split <;> (try split) <;> (try split) <;> (try split) <;> omega
theorem keyCmp_ge {a b : Int} {p : Pr} : 0 ≤ keyCmp a b p ↔ ¬ (p.A < a ∨ (p.A = a ∧ p.B < b)) := by rw [← keyCmp_lt]; omega
theorem keyCmp_c (a b n : Int) (p : Pr) (w : World) : Calls Try.prog 63 #[.agg #[.int .i64 a, .int .i64 b, .int .i64 n], prV p] w (RetS w (.int .i64 (keyCmp a b p))) := by
  have hS := St.start w (fun _ => none) (fun _ _ h => by cases h)
  refine calls_start 19 [.agg #[.int .i64 a, .int .i64 b, .int .i64 n], prV p] Try.func63 rfl Try.ntmps63 rfl rfl ?_
  refine CW.seq fun K1 hK1 => ?_
  refine CW.region [0, 1, 2] rfl ?_
  refine LW.hv rfl rfl rfl rfl (Hv.boxS hS rfl rfl) fun v w2 ⟨b2, hv, hb2, hS⟩ => ?_
  subst hv
  refine LW.hv rfl rfl rfl rfl (Hv.boxS hS rfl rfl) fun v w3 ⟨b3, hv, hb3, hS⟩ => ?_
  subst hv
  refine LW.ex rfl rfl rfl rfl (Ex.assign rfl) hS.rd ?_
  refine LW.nil fun aa ha => hK1 _ _ _ ?_ aa ha
  refine CW.seq fun K2 hK2 => ?_
  have hS := hS.drew
  refine CW.draw 15 (.ex 0 <| .ex 1 <| .ex 2 <| .ex 3 <| .ex 4 <| .ex 6 <| .ex 7 <| .ex 8 <| .ex 9 <| .ex 10 <| .one 5 <| .one 11 <| .one 12 <| .one 13 <| .ex 14 <| .done) [] (Rd _ _) mixed (by kernel_rfl) rfl rfl hS.rd ?_
  refine PW.ex rfl rfl rfl rfl (Ex.fieldO 0 Try.underlying87 rfl rfl ti3 rfl) ?_
  refine PW.ex rfl rfl rfl rfl (Ex.load1 ti3 rfl rfl (by first | exact obT rfl | exact Rd.imm ‹_› | exact slT ‹_›)) ?_
  refine PW.ex rfl rfl rfl rfl (Ex.fieldO 0 Try.underlying132 rfl rfl ti87 rfl) ?_
  refine PW.ex rfl rfl rfl rfl (Ex.fieldO 0 Try.underlying87 rfl rfl ti3 rfl) ?_
  refine PW.ex rfl rfl rfl rfl (Ex.load1 ti3 rfl rfl (by first | exact obT rfl | exact Rd.imm ‹_› | exact slT ‹_›)) ?_
  refine PW.ex rfl rfl rfl rfl (Ex.fieldO 1 Try.underlying87 rfl rfl ti3 rfl) ?_
  refine PW.ex rfl rfl rfl rfl (Ex.load1 ti3 rfl rfl (by first | exact obT rfl | exact Rd.imm ‹_› | exact slT ‹_›)) ?_
  refine PW.ex rfl rfl rfl rfl (Ex.fieldO 0 Try.underlying132 rfl rfl ti87 rfl) ?_
  refine PW.ex rfl rfl rfl rfl (Ex.fieldO 1 Try.underlying87 rfl rfl ti3 rfl) ?_
  refine PW.ex rfl rfl rfl rfl (Ex.load1 ti3 rfl rfl (by first | exact obT rfl | exact Rd.imm ‹_› | exact slT ‹_›)) ?_
  refine PW.hv rfl rfl rfl rfl (Hv.callS hS rfl rfl rfl cb72 (cmp_c _ _ _)) (fun _ _ h => h.2.rd) fun v w10 ⟨hv, hS⟩ => ?_
  subst hv
  refine PW.hv rfl rfl rfl rfl (Hv.callS hS rfl rfl rfl cb72 (cmp_c _ _ _)) (fun _ _ h => h.2.rd) fun v w16 ⟨hv, hS⟩ => ?_
  subst hv
  refine PW.hv rfl rfl rfl rfl (Hv.buildSl hS Try.underlying31 ti3 rfl rfl rfl rfl rfl rfl) (fun _ _ ⟨_, _, _, h⟩ => h.rd.tail) fun v w17 ⟨b17, hv, hb17, hS⟩ => ?_
  subst hv
  refine PW.hv rfl rfl rfl rfl (Hv.callS hS rfl rfl rfl cb81 (or_c [cmpI p.A a, cmpI p.B b] _ _ (memOf _) _ (imm_memOf _) (hS.lend_obj (k := 0) rfl (RepL.ints2 _ _ _) (by simp [maxLen])))) (fun _ _ h => h.2.rd.tail) fun v w18 ⟨hv, hS⟩ => ?_
  subst hv
  refine PW.ex rfl rfl rfl rfl (Ex.assign rfl) ?_
  refine PW.nil ?_
  refine LW.nil fun aa ha => hK2 _ _ _ ?_ aa ha
  refine CW.ret fun aa ha => ?_
  refine ret_one ha Try.results63 rfl ?_
  exact hS.retS
theorem find1_c (a b n z : Int) (p : Pr) (b8 : Nat) (μ : Mem) (w : World) (hμ : Imm μ w) (hb : μ.cell b8 0 = some (.func (.func 63) #[.agg #[.int .i64 a, .int .i64 b, .int .i64 n]] #[])) :
    Calls Try.prog 86 #[prV p, .int .i64 z, .pointer (some ⟨b8, 0, none⟩)] w (RetS w (.int .i64 (keyCmp a b p))) := by
  have hS := St.start w μ hμ
  refine calls_start 9 [prV p, .int .i64 z, .pointer (some ⟨b8, 0, none⟩)] Try.func86 rfl Try.ntmps86 rfl rfl ?_
  refine CW.seq fun K3 hK3 => ?_
  refine CW.region [0, 1] rfl ?_
  refine LW.hv rfl rfl rfl rfl (Hv.boxS hS rfl rfl) fun v w3 ⟨b3, hv, hb3, hS⟩ => ?_
  subst hv
  refine LW.ex rfl rfl rfl rfl (Ex.assign rfl) hS.rd ?_
  refine LW.nil fun aa ha => hK3 _ _ _ ?_ aa ha
  refine CW.seq fun K4 hK4 => ?_
  refine CW.region [0, 1, 2, 3] rfl ?_
  refine LW.ex rfl rfl rfl rfl (Ex.load1 ti133 rfl rfl (by first | exact obT rfl | exact Rd.imm ‹_› | exact slT ‹_›)) hS.rd ?_
  refine LW.ex rfl rfl rfl rfl (Ex.load3c ti87 rfl rfl (by first | exact obT rfl | exact Rd.imm ‹_› | exact slT ‹_›) (by first | exact obT rfl | exact Rd.imm ‹_› | exact slT ‹_›) (by first | exact obT rfl | exact Rd.imm ‹_› | exact slT ‹_›)) hS.rd ?_
  refine LW.hv rfl rfl rfl rfl (Hv.callFS hS rfl rfl rfl cb63 (keyCmp_c a b n p _)) fun v w8 ⟨hv, hS⟩ => ?_
  subst hv
  refine LW.ex rfl rfl rfl rfl (Ex.assign rfl) hS.rd ?_
  refine LW.nil fun aa ha => hK4 _ _ _ ?_ aa ha
  refine CW.ret fun aa ha => ?_
  refine ret_one ha Try.results86 rfl ?_
  exact hS.retS
def PrSort (l : List Pr) : Prop := l.Pairwise fun p q => prLess p q = true
theorem prLess_iff {p q : Pr} : prLess p q = true ↔ p.A < q.A ∨ (p.A = q.A ∧ p.B < q.B) := by unfold prLess; rw [decide_eq_true_eq]
theorem keyCmp_mono {l : List Pr} (h : PrSort l) (a b : Int) : l.Pairwise fun x y => 0 ≤ keyCmp a b x → 0 ≤ keyCmp a b y := h.imp fun {x y} hxy => by
  rw [keyCmp_ge, keyCmp_ge]; rw [prLess_iff] at hxy; omega
theorem find_c (l : List Pr) (a b : Int) (hs : PrSort l) (hbig : l.length < 1099511627776) (ad : Option Addr) (c : Nat) (μ : Mem) (w : World) (hμ : Imm μ w) (hl : Sl μ ad c l) :
    Calls Try.prog 70 #[.slice ad l.length c, .int .i64 a, .int .i64 b] w (RetS w (.tuple #[.int .i64 (lbL (keyCmp a b) l : Nat), .bool (hitL (keyCmp a b) l)])) := by
  have hS := St.start w μ hμ
  refine calls_start 19 [.slice ad l.length c, .int .i64 a, .int .i64 b] Try.func70 rfl Try.ntmps70 rfl rfl ?_
  refine CW.seq fun K5 hK5 => ?_
  refine CW.region [0, 1] rfl ?_
  refine LW.ex rfl rfl rfl rfl (Ex.assign rfl) hS.rd ?_
  refine LW.ex rfl rfl rfl rfl (Ex.assign rfl) hS.rd ?_
  refine LW.nil fun aa ha => hK5 _ _ _ ?_ aa ha
  refine CW.seq fun K6 hK6 => ?_
  refine CW.region [0, 1, 2, 3, 4, 5, 6] rfl ?_
  refine LW.ex rfl rfl rfl rfl (Ex.move rfl) hS.rd ?_
  refine LW.ex rfl rfl rfl rfl (Ex.move rfl) hS.rd ?_
  refine LW.ex rfl rfl rfl rfl (Ex.buildS st87 rfl rfl rfl) hS.rd ?_
  refine LW.ex rfl rfl rfl rfl (Ex.buildS st132 rfl rfl rfl) hS.rd ?_
  refine LW.ex rfl rfl rfl rfl (Ex.makeFuncF rfl rfl) hS.rd ?_
  refine LW.hv rfl rfl rfl rfl (Hv.alloc ti133 hS) fun v w8 ⟨b8, hv, hb8, hS⟩ => ?_
  subst hv
  refine LW.hu rfl rfl rfl (Hv.storeObj (k := 0) ti133 hS rfl rfl rfl rfl (by first | assumption | (simp; done) | omega | exact Nat.zero_lt_succ _)) fun _ w_6 hS => ?_
  dsimp only [List.set] at hS
  refine LW.nil fun aa ha => hK6 _ _ _ ?_ aa ha
  refine CW.seq fun K7 hK7 => ?_
  refine CW.region [0, 1, 2, 3, 4, 5, 6] rfl ?_
  refine LW.ex rfl rfl rfl rfl (Ex.move rfl) hS.rd ?_
  refine LW.ex rfl rfl rfl rfl (Ex.makeFunc rfl) hS.rd ?_
  refine LW.hv rfl rfl rfl rfl (Hv.callS hS rfl rfl rfl cb85 (bsearchPr_c l _ _ _ (keyCmp a b) cb86 _ _ (memOf _) _ (imm_memOf _) (hl.mono hS.imm.ext) hbig (keyCmp_mono hs a b) (fun x hx w' hw' => find1_c a b 0 0 x b8 _ w' hw' (memOf_cell (Rd.obj (k := 0) rfl rfl _ hS.rd))))) fun v w16 ⟨hv, hS⟩ => ?_
  subst hv
  refine LW.ex rfl rfl rfl rfl (Ex.extract rfl rfl) hS.rd ?_
  refine LW.ex rfl rfl rfl rfl (Ex.extract rfl rfl) hS.rd ?_
  refine LW.ex rfl rfl rfl rfl (Ex.assign rfl) hS.rd ?_
  refine LW.ex rfl rfl rfl rfl (Ex.assign rfl) hS.rd ?_
  refine LW.nil fun aa ha => hK7 _ _ _ ?_ aa ha
  refine CW.ret fun aa ha => ?_
  refine ret_two ha Try.results70 rfl rfl ?_
  exact hS.retS
def afterL (l : List Pr) (a : Int) : List Pr := l.filter fun p => decide (p.A = a)
/-- What lies between the two places: the pairs after the word. -/
theorem after_part {l : List Pr} (h : PrSort l) (a : Int) : lbL (keyCmp a (-1)) l ≤ lbL (keyCmp (a + 1) (-1)) l ∧ ((∀ p ∈ l, 0 ≤ p.B) → (l.drop (lbL (keyCmp a (-1)) l)).take (lbL (keyCmp (a + 1) (-1)) l - lbL (keyCmp a (-1)) l) = afterL l a) := by
  have m1 := keyCmp_mono h a (-1)
  have m2 := keyCmp_mono h (a + 1) (-1)
  have hle : lbL (keyCmp a (-1)) l ≤ lbL (keyCmp (a + 1) (-1)) l := by
    unfold lbL
    exact List.countP_mono_left fun x _ hx => by
      rw [decide_eq_true_eq, keyCmp_lt] at *; omega
  refine ⟨hle, fun hB => ?_⟩
  obtain ⟨i, hi⟩ : ∃ i, i = lbL (keyCmp a (-1)) l := ⟨_, rfl⟩
  obtain ⟨j, hj⟩ : ∃ j, j = lbL (keyCmp (a + 1) (-1)) l := ⟨_, rfl⟩
  rw [← hi, ← hj] at hle ⊢
  have hjl : j ≤ l.length := by rw [hj]; exact lbL_le _ _
  have e : l = l.take i ++ ((l.drop i).take (j - i) ++ l.drop j) := by
    conv => lhs; rw [← List.take_append_drop i l]
    congr 1
    conv => lhs; rw [← List.take_append_drop (j - i) (l.drop i)]
    rw [List.drop_drop, show i + (j - i) = j by omega]
  unfold afterL
  conv => rhs; rw [e]
  rw [List.filter_append, List.filter_append]
  have f1 : (l.take i).filter (fun p => decide (p.A = a)) = [] := by
    rw [List.filter_eq_nil_iff]
    intro x hx
    obtain ⟨k, hk, rfl⟩ := List.getElem_of_mem hx
    rw [List.length_take] at hk
    rw [List.getElem_take, decide_eq_true_eq]
    have := (lbL_lt m1 (k := k) (by omega)).1 (by omega)
    rw [keyCmp_lt] at this
    have hB' := hB l[k] (List.getElem_mem (by omega))
    omega
  have f2 : (l.drop j).filter (fun p => decide (p.A = a)) = [] := by
    rw [List.filter_eq_nil_iff]
    intro x hx
    obtain ⟨k, hk, rfl⟩ := List.getElem_of_mem hx
    rw [List.length_drop] at hk
    rw [List.getElem_drop, decide_eq_true_eq]
    have := (not_congr (lbL_lt m2 (k := j + k) (by omega))).1 (by omega)
    rw [keyCmp_lt] at this
    omega
  have f3 : ((l.drop i).take (j - i)).filter (fun p => decide (p.A = a)) = (l.drop i).take (j - i) := by
    rw [List.filter_eq_self]
    intro x hx
    obtain ⟨k, hk, rfl⟩ := List.getElem_of_mem hx
    rw [List.length_take, List.length_drop] at hk
    rw [List.getElem_take, List.getElem_drop, decide_eq_true_eq]
    have h1 := (not_congr (lbL_lt m1 (k := i + k) (by omega))).1 (by omega)
    have h2 := (lbL_lt m2 (k := i + k) (by omega)).1 (by omega)
    rw [keyCmp_lt] at h1 h2
    have hB' := hB l[i + k] (List.getElem_mem (by omega))
    omega
  rw [f1, f2, f3, List.nil_append, List.append_nil]
theorem after_c (l : List Pr) (a : Int) (hs : PrSort l) (hB : ∀ p ∈ l, 0 ≤ p.B) (hbig : l.length < 1099511627776) (ha : -1 ≤ a ∧ a ≤ 1099511627776) (ad : Option Addr) (c : Nat) (μ : Mem) (w : World) (hμ : Imm μ w) (hl : Sl μ ad c l) :
    Calls Try.prog 65 #[.slice ad l.length c, .int .i64 a] w (RetV w μ (IsSl (afterL l a))) := by
  obtain ⟨hle, hpart⟩ := after_part hs a
  have hpart := hpart hB
  have hc := hl.1
  have hj := lbL_le (keyCmp (a + 1) (-1)) l
  have hS := St.start w μ hμ
  refine calls_start 26 [.slice ad l.length c, .int .i64 a] Try.func65 rfl Try.ntmps65 rfl rfl ?_
  refine CW.seq fun K8 hK8 => ?_
  refine CW.region [0] rfl ?_
  refine LW.ex rfl rfl rfl rfl (Ex.assign rfl) hS.rd ?_
  refine LW.nil fun aa ha => hK8 _ _ _ ?_ aa ha
  refine CW.seq fun K9 hK9 => ?_
  refine CW.region [0, 1, 2, 3, 4, 5, 6, 7] rfl ?_
  refine LW.ex rfl rfl rfl rfl (Ex.move rfl) hS.rd ?_
  refine LW.ex rfl rfl rfl rfl (Ex.move rfl) hS.rd ?_
  refine LW.hv rfl rfl rfl rfl (Hv.callS hS rfl rfl rfl cb70 (find_c l a (-1) hs hbig _ _ _ _ hS.imm hl)) fun v w12 ⟨hv, hS⟩ => ?_
  subst hv
  refine LW.ex rfl rfl rfl rfl (Ex.move rfl) hS.rd ?_
  refine LW.ex rfl rfl rfl rfl (Ex.extract rfl rfl) hS.rd ?_
  refine LW.ex rfl rfl rfl rfl (Ex.extract rfl rfl) hS.rd ?_
  refine LW.ex rfl rfl rfl rfl (Ex.assign rfl) hS.rd ?_
  refine LW.ex rfl rfl rfl rfl (Ex.assign rfl) hS.rd ?_
  refine LW.nil fun aa ha => hK9 _ _ _ ?_ aa ha
  refine CW.seq fun K10 hK10 => ?_
  refine CW.region [0, 1, 2, 3, 4, 5, 6, 7, 8] rfl ?_
  refine LW.ex rfl rfl rfl rfl (Ex.move rfl) hS.rd ?_
  refine LW.ex rfl rfl rfl rfl (Ex.move rfl) hS.rd ?_
  refine LW.ex rfl rfl rfl rfl (Ex.add rfl rfl (by first | exact inc64 (by omega) | exact addN (by omega) | exact w64 (by omega) (by omega))) hS.rd ?_
  refine LW.hv rfl rfl rfl rfl (Hv.callS hS rfl rfl rfl cb70 (find_c l (a + 1) (-1) hs hbig _ _ _ _ hS.imm hl)) fun v w19 ⟨hv, hS⟩ => ?_
  subst hv
  refine LW.ex rfl rfl rfl rfl (Ex.move rfl) hS.rd ?_
  refine LW.ex rfl rfl rfl rfl (Ex.extract rfl rfl) hS.rd ?_
  refine LW.ex rfl rfl rfl rfl (Ex.extract rfl rfl) hS.rd ?_
  refine LW.ex rfl rfl rfl rfl (Ex.assign rfl) hS.rd ?_
  refine LW.ex rfl rfl rfl rfl (Ex.assign rfl) hS.rd ?_
  refine LW.nil fun aa ha => hK10 _ _ _ ?_ aa ha
  refine CW.seq fun K11 hK11 => ?_
  refine CW.region [0, 1, 2, 3, 4] rfl ?_
  refine LW.ex rfl rfl rfl rfl (Ex.move rfl) hS.rd ?_
  refine LW.ex rfl rfl rfl rfl (Ex.move rfl) hS.rd ?_
  refine LW.ex rfl rfl rfl rfl (Ex.move rfl) hS.rd ?_
  refine LW.ex rfl rfl rfl rfl (Ex.sliceLH Try.underlying32 ti87 rfl rfl rfl rfl rfl hle (by omega)) hS.rd ?_
  refine LW.ex rfl rfl rfl rfl (Ex.assign rfl) hS.rd ?_
  refine LW.nil fun aa ha => hK11 _ _ _ ?_ aa ha
  refine CW.ret fun aa ha => ?_
  refine ret_one ha Try.results65 rfl ?_
  obtain ⟨ys, hy1, hy2, hy3⟩ := hl.part hle hj
  rw [hpart] at hy1
  subst hy1
  refine ⟨_, μ, rfl, hS.below, Mem.ext.refl _ _, hS.imm, _, _, ?_, hy3⟩
  rw [hy2]; rfl
theorem made_ints (n : Nat) : (madeCells (Value.cells (.int .i64 0)) (n * 1)).toList = (List.replicate n (0 : Int)).map fun x => Value.int .i64 x := by
  rw [Nat.mul_one, show Value.cells (.int .i64 0) = #[.int .i64 0] from rfl, toList_madeCells_one]; simp
theorem numbers_c (l : List Pr) (hbig : l.length < 1000000) (ad : Option Addr) (c : Nat) (μ : Mem) (w : World) (hμ : Imm μ w) (hl : Sl μ ad c l) :
    Calls Try.prog 64 #[.slice ad l.length c] w (RetV w μ (IsSl (l.map (·.N)))) := by
  have hS := St.start w μ hμ
  refine calls_start 23 [.slice ad l.length c] Try.func64 rfl Try.ntmps64 rfl rfl ?_
  refine CW.seq fun K12 hK12 => ?_
  refine CW.region [0] rfl ?_
  refine LW.ex rfl rfl rfl rfl (Ex.assign rfl) hS.rd ?_
  refine LW.nil fun aa ha => hK12 _ _ _ ?_ aa ha
  refine CW.seq fun K13 hK13 => ?_
  refine CW.region [0, 1, 2, 3] rfl ?_
  refine LW.ex rfl rfl rfl rfl (Ex.move rfl) hS.rd ?_
  refine LW.ex rfl rfl rfl rfl (Ex.lenSl rfl Try.underlying32 rfl) hS.rd ?_
  refine LW.hv rfl rfl rfl rfl (Hv.makeSlice Try.underlying31 ti3 hS rfl rfl rfl rfl (by omega) (by unfold maxLen; omega)) fun v w8 ⟨b8, hv, hb8, hS⟩ => ?_
  subst hv
  refine LW.ex rfl rfl rfl rfl (Ex.assign rfl) hS.rd ?_
  refine LW.nil fun aa ha => hK13 _ _ _ ?_ aa ha
  refine CW.seq fun K14 hK14 => ?_
  refine CW.seq fun K15 hK15 => ?_
  refine CW.region [0, 1, 2] rfl ?_
  refine LW.ex rfl rfl rfl rfl (Ex.move rfl) hS.rd ?_
  refine LW.ex rfl rfl rfl rfl (Ex.lenSl rfl Try.underlying32 rfl) hS.rd ?_
  refine LW.ex rfl rfl rfl rfl (Ex.move rfl) hS.rd ?_
  refine LW.nil fun aa ha => hK15 _ _ _ ?_ aa ha
  refine CW.block ?_
  rw [made_ints] at hS
  refine CW.loop (fun qq frm wl3 => ∃ (i : Nat) (cs : List Int), i ≤ l.length ∧ cs.length = l.length ∧ qq = l.length - i ∧ frm = [(3, .slice (some ⟨b8, 0, none⟩) l.length l.length), (9, .slice ad l.length c), (10, .int .i64 ((l.length : Nat) : Int)), (11, .int .i64 i)] ∧ St w wl3 μ [Own.sl (some ⟨b8, 0, none⟩) l.length l.length 3 1 (cs.map fun x => Value.int .i64 x)] ∧ (cs.take i = (l.take i).map (·.N))) _ ⟨0, List.replicate l.length 0, (by first | omega | (simp; done) | (simp; omega)), (by first | omega | (simp; done) | (simp; omega)), rfl, rfl, hS, by simp⟩ ⟨rfl, rfl, rfl, rfl, trivial⟩ ?_
  clear hS
  rintro qq frm wl3 ⟨i, cs, hi, hcl, hq, rfl, hS, hcs⟩
  refine CW.seq fun K16 hK16 => ?_
  refine CW.region [0] rfl ?_
  refine LW.ex rfl rfl rfl rfl (Ex.lss rfl rfl rfl) hS.rd ?_
  refine LW.splitB (fun h3_0 => ?_) (fun h3_0 => ?_)
  · have h3_0 := of_decide_eq_true h3_0
    refine LW.nil fun aa ha => hK16 _ _ _ ?_ aa ha
    refine CW.seq fun K17 hK17 => ?_
    refine CW.yes rfl ?_
    refine CW.skip fun aa ha => hK17 _ _ _ ?_ aa ha
    refine CW.seq fun K18 hK18 => ?_
    refine CW.block ?_
    refine CW.seq fun K19 hK19 => ?_
    have hi2 : i < l.length := by omega
    obtain ⟨bl, ol, rfl, k0, k1, k2⟩ := hl.at hi2
    refine CW.region [0, 1, 2, 3, 4, 5] rfl ?_
    refine LW.ex rfl rfl rfl rfl (Ex.move rfl) hS.rd ?_
    refine LW.ex rfl rfl rfl rfl (Ex.indexSl Try.underlying32 ti87 rfl rfl rfl (by omega)) hS.rd ?_
    refine LW.ex rfl rfl rfl rfl (Ex.load3c ti87 rfl rfl (by first | exact obT rfl | exact Rd.imm ‹_› | exact slT ‹_›) (by first | exact obT rfl | exact Rd.imm ‹_› | exact slT ‹_›) (by first | exact obT rfl | exact Rd.imm ‹_› | exact slT ‹_›)) hS.rd ?_
    refine LW.hv rfl rfl rfl rfl (Hv.alloc ti87 hS) fun v w5 ⟨b5, hv, hb5, hS⟩ => ?_
    subst hv
    refine LW.ex rfl rfl rfl rfl (Ex.assign rfl) hS.rd ?_
    refine LW.hu rfl rfl rfl (Hv.storeN (k := 0) ti87 hS rfl rfl rfl rfl (by simp [Value.oneCell'])) fun _ w_5 hS => ?_
    dsimp only [List.set] at hS
    refine LW.nil fun aa ha => hK19 _ _ _ ?_ aa ha
    refine CW.region [0, 1, 2, 3, 4, 5] rfl ?_
    refine LW.ex rfl rfl rfl rfl (Ex.move rfl) hS.rd ?_
    refine LW.ex rfl rfl rfl rfl (Ex.move rfl) hS.rd ?_
    refine LW.ex rfl rfl rfl rfl (Ex.fieldO 2 Try.underlying87 rfl rfl ti3 rfl) hS.rd ?_
    refine LW.ex rfl rfl rfl rfl (Ex.load1 ti3 rfl rfl (by first | exact obT rfl | exact Rd.imm ‹_› | exact slT ‹_›)) hS.rd ?_
    refine LW.ex rfl rfl rfl rfl (Ex.indexSl Try.underlying31 ti3 rfl rfl rfl (by omega)) hS.rd ?_
    have hb5 : 0 + i * 1 < (cs.map fun x => Value.int .i64 x).length := by rw [List.length_map]; omega
    refine LW.hu rfl rfl rfl (Hv.storeSl (k := 1) ti3 hS rfl rfl rfl rfl (by first | assumption | (simp; done) | omega | exact Nat.zero_lt_succ _)) fun _ w_5 hS => ?_
    dsimp only [List.set] at hS
    rw [show 0 + i * 1 = i by omega, show (cs.map fun x => Value.int .i64 x).set i (.int .i64 l[i].N) = (cs.set i l[i].N).map fun x => Value.int .i64 x from (List.map_set ..).symm] at hS
    refine LW.nil fun aa ha => hK18 _ _ _ ?_ aa ha
    refine CW.region [0, 1] rfl ?_
    refine LW.ex rfl rfl rfl rfl (Ex.add rfl rfl (by first | exact inc64 (by omega) | exact addN (by omega) | exact w64 (by omega) (by omega))) hS.rd ?_
    refine LW.ex rfl rfl rfl rfl (Ex.move rfl) hS.rd ?_
    refine LW.nil fun aa ha => ?_
    have hS := hS.drop 0 rfl
    dsimp only [List.eraseIdx] at hS
    refine ⟨_, _, ?m3, ⟨i + 1, cs.set i l[i].N, (by first | omega | (simp; done) | (simp; omega)), (by first | omega | (simp; done) | (simp; omega)), rfl, rfl, hS, ?_⟩, ha.sub ⟨rfl, rfl, rfl, rfl, trivial⟩⟩
    case m3 => omega
    rw [List.take_succ_eq_append_getElem (by rw [List.length_set]; omega), List.take_succ_eq_append_getElem hi2, List.map_append, List.getElem_set_self, List.take_set_of_le (Nat.le_refl _), hcs]; rfl
  · have h3_0 := of_decide_eq_false h3_0
    refine LW.nil fun aa ha => hK16 _ _ _ ?_ aa ha
    refine CW.seq fun K20 hK20 => ?_
    refine CW.no rfl ?_
    refine CW.exit fun aa ha => hK14 _ _ _ ?_ aa ha
    refine CW.seq fun K21 hK21 => ?_
    refine CW.region [0, 1] rfl ?_
    refine LW.ex rfl rfl rfl rfl (Ex.move rfl) hS.rd ?_
    refine LW.ex rfl rfl rfl rfl (Ex.assign rfl) hS.rd ?_
    refine LW.nil fun aa ha => hK21 _ _ _ ?_ aa ha
    refine CW.ret fun aa ha => ?_
    refine ret_one ha Try.results64 rfl ?_
    have hi3 : i = l.length := by omega
    have e : cs = l.map (·.N) := by
      rw [hi3, List.take_length, ← hcl, List.take_length] at hcs; exact hcs
    obtain ⟨bs, μ', hm, hS, hφ⟩ := hS.shut 0 rfl
    refine ⟨_, μ', rfl, hS.below, hm, hS.imm, _, _, ?_, Sl.of_own hφ (by rw [← e]; exact RepL.ints _ _) (by rw [List.length_map])⟩
    rw [List.length_map]
end Go.Proofs.Ytgnpjhellmfhoaa

