/-
  Context: the walks of the two Valids of lattices; what fits a model.
-/
import Derived.Test.YtgnpjhellmfhoaaCxJ
namespace Go.Proofs.Ytgnpjhellmfhoaa
open Go.RowKit Sy

def isUp : List Int → Bool
  | a :: b :: r => decide (a ≤ b) && isUp (b :: r)
  | _ => true
theorem isUp_iff : ∀ {l : List Int}, isUp l = true ↔ ∀ i (h : i + 1 < l.length), l[i] ≤ l[i + 1]
  | [] => by simp [isUp]
  | [a] => by simp [isUp]
  | a :: b :: r => by
    simp only [isUp, Bool.and_eq_true, decide_eq_true_eq, isUp_iff (l := b :: r)]
    constructor
    · rintro ⟨h1, h2⟩ i hi
      cases i with
      | zero => exact h1
      | succ i => exact h2 i (by simpa using hi)
    · intro h
      exact ⟨h 0 (by simp), fun i hi => h (i + 1) (by simpa using hi)⟩
theorem less_c (a b : Int) (w : World) : Calls Try.prog 103 #[.int .i64 a, .int .i64 b] w (RetS w (.bool (decide (a < b)))) := by
  have hS := St.start w (fun _ => none) (fun _ _ h => by cases h)
  refine calls_start 17 [.int .i64 a, .int .i64 b] Try.func103 rfl Try.ntmps103 rfl rfl ?_
  refine CW.seq fun K1 hK1 => ?_
  refine CW.region [0] rfl ?_
  refine LW.ex rfl rfl rfl rfl (Ex.assign rfl) hS.rd ?_
  refine LW.nil fun aa ha => hK1 _ _ _ ?_ aa ha
  refine CW.seq fun K2 hK2 => ?_
  refine CW.region [0, 1, 2, 3, 4, 5, 6, 7, 8, 9, 10, 11, 12] rfl ?_
  refine LW.ex rfl rfl rfl rfl (Ex.move rfl) hS.rd ?_
  refine LW.hv rfl rfl rfl rfl (Hv.callS hS rfl rfl rfl cb87 (nan_c _ _)) fun v w6 ⟨hv, hS⟩ => ?_
  subst hv
  refine LW.ex rfl rfl rfl rfl (Ex.move rfl) hS.rd ?_
  refine LW.skip rfl rfl rfl rfl ?_
  refine LW.skip rfl rfl rfl rfl ?_
  refine LW.skip rfl rfl rfl rfl ?_
  refine LW.ex rfl rfl rfl rfl (by first | exact Ex.pick_yes rfl rfl | exact Ex.pick_no rfl rfl) hS.rd ?_
  refine LW.ex rfl rfl rfl rfl (Ex.move rfl) hS.rd ?_
  refine LW.ex rfl rfl rfl rfl (Ex.move rfl) hS.rd ?_
  refine LW.ex rfl rfl rfl rfl (Ex.move rfl) hS.rd ?_
  refine LW.ex rfl rfl rfl rfl (Ex.lss rfl rfl (by first | exact decide_eq_true (by omega) | exact decide_eq_false (by omega) | rfl)) hS.rd ?_
  refine LW.ex rfl rfl rfl rfl (by first | exact Ex.pick_yes rfl rfl | exact Ex.pick_no rfl rfl) hS.rd ?_
  refine LW.ex rfl rfl rfl rfl (Ex.assign rfl) hS.rd ?_
  refine LW.nil fun aa ha => hK2 _ _ _ ?_ aa ha
  refine CW.ret fun aa ha => ?_
  refine ret_one ha Try.results103 rfl ?_
  refine hS.retB ?_
  simp_all
set_option maxRecDepth 100000 in
theorem sorted_c (l : List Int) (hl0 : l.length ≤ 1099511627776) (ad : Option Addr) (c : Nat) (μ : Mem) (w : World) (hμ : Imm μ w) (hl : Sl μ ad c l) :
    Calls Try.prog 92 #[.slice ad l.length c] w (RetS w (.bool (isUp l))) := by
  have hS := St.start w μ hμ
  refine calls_start 21 [.slice ad l.length c] Try.func92 rfl Try.ntmps92 rfl rfl ?_
  refine CW.seq fun K3 hK3 => ?_
  refine CW.region [0] rfl ?_
  refine LW.ex rfl rfl rfl rfl (Ex.assign rfl) hS.rd ?_
  refine LW.nil fun aa ha => hK3 _ _ _ ?_ aa ha
  refine CW.seq fun K4 hK4 => ?_
  refine CW.seq fun K5 hK5 => ?_
  refine CW.region [0, 1, 2, 3] rfl ?_
  refine LW.ex rfl rfl rfl rfl (Ex.move rfl) hS.rd ?_
  refine LW.ex rfl rfl rfl rfl (Ex.lenSl rfl Try.underlying31 rfl) hS.rd ?_
  refine LW.ex rfl rfl rfl rfl (Ex.sub rfl rfl (w64 (by omega) (by omega))) hS.rd ?_
  refine LW.ex rfl rfl rfl rfl (Ex.assign rfl) hS.rd ?_
  refine LW.nil fun aa ha => hK5 _ _ _ ?_ aa ha
  refine CW.block ?_
  refine CW.loop (fun qq frm wl2 => ∃ (k : Nat), k ≤ l.length ∧ qq = k ∧ frm = [(0, .slice ad l.length c), (3, .int .i64 ((k : Int) - 1))] ∧ St w wl2 μ [] ∧ (∀ j (h : j + 1 < l.length), k ≤ j + 1 → l[j] ≤ l[j + 1])) _ ⟨l.length, (by first | omega | (simp; done) | (simp; omega)), rfl, rfl, hS, fun j h hj => by omega⟩ ⟨rfl, rfl, trivial⟩ ?_
  clear hS
  rintro qq frm wl2 ⟨k, hi, hq, rfl, hS, he⟩
  refine CW.seq fun K6 hK6 => ?_
  refine CW.seq fun K7 hK7 => ?_
  refine CW.region [0, 1] rfl ?_
  refine LW.ex rfl rfl rfl rfl (Ex.move rfl) hS.rd ?_
  refine LW.ex rfl rfl rfl rfl (Ex.gtr rfl rfl rfl) hS.rd ?_
  refine LW.splitB (fun h2_1 => ?_) (fun h2_1 => ?_)
  · have h2_1 := of_decide_eq_true h2_1
    refine LW.nil fun aa ha => hK7 _ _ _ ?_ aa ha
    refine CW.yes rfl ?_
    refine CW.skip fun aa ha => hK6 _ _ _ ?_ aa ha
    refine CW.seq fun K8 hK8 => ?_
    refine CW.block ?_
    refine CW.seq fun K9 hK9 => ?_
    obtain ⟨i, rfl⟩ : ∃ i, k = i + 2 := ⟨k - 2, by omega⟩
    have hx1 : i + 1 < l.length := by omega
    have hx0 : i < l.length := by omega
    obtain ⟨bl, ol, rfl, k0⟩ := hl.at hx1
    obtain ⟨bl', ol', e', j0⟩ := hl.at hx0
    cases e'
    rw [show (((i + 2 : Nat) : Int) - 1) = ((i + 1 : Nat) : Int) by omega]
    have hS := hS.drew
    refine CW.draw 10 (.ex 0 <| .ex 1 <| .ex 2 <| .ex 3 <| .ex 4 <| .ex 5 <| .ex 6 <| .ex 7 <| .ex 8 <| .one 9 <| .done) [] (Rd _ _) mixed (by kernel_rfl) rfl rfl hS.rd ?_
    refine PW.ex rfl rfl rfl rfl (Ex.move rfl) ?_
    refine PW.ex rfl rfl rfl rfl (Ex.move rfl) ?_
    refine PW.ex rfl rfl rfl rfl (Ex.indexSl Try.underlying31 ti3 rfl rfl rfl (by omega)) ?_
    refine PW.ex rfl rfl rfl rfl (Ex.load1 ti3 rfl rfl (by first | exact obT rfl | exact Rd.imm ‹_› | exact slT ‹_›)) ?_
    refine PW.ex rfl rfl rfl rfl (Ex.move rfl) ?_
    refine PW.ex rfl rfl rfl rfl (Ex.move rfl) ?_
    refine PW.ex rfl rfl rfl rfl (Ex.sub (r := (i : Int)) rfl rfl (by rw [w64 (by omega) (by omega)]; omega)) ?_
    refine PW.ex rfl rfl rfl rfl (Ex.indexSl Try.underlying31 ti3 rfl rfl rfl (by omega)) ?_
    refine PW.ex rfl rfl rfl rfl (Ex.load1 ti3 rfl rfl (by first | exact obT rfl | exact Rd.imm ‹_› | exact slT ‹_›)) ?_
    refine PW.hv rfl rfl rfl rfl (Hv.callS hS rfl rfl rfl cb103 (less_c l[i + 1] l[i] _)) (fun _ _ h => h.2.rd) fun v w20 ⟨hv, hS⟩ => ?_
    subst hv
    refine PW.splitB (fun h4_9 => ?_) (fun h4_9 => ?_)
    · have h4_9 := of_decide_eq_true h4_9
      refine PW.nil ?_
      refine LW.nil fun aa ha => hK9 _ _ _ ?_ aa ha
      refine CW.yes rfl ?_
      refine CW.seq fun K10 hK10 => ?_
      refine CW.region [0] rfl ?_
      refine LW.ex rfl rfl rfl rfl (Ex.assign rfl) hS.rd ?_
      refine LW.nil fun aa ha => hK10 _ _ _ ?_ aa ha
      refine CW.ret fun aa ha => ?_
      refine ret_one ha Try.results92 rfl ?_
      have e : isUp l = false := by rw [Bool.eq_false_iff]; intro h; have := isUp_iff.1 h i hx1; omega
      rw [e]; exact hS.retS
    · have h4_9 := of_decide_eq_false h4_9
      refine PW.nil ?_
      refine LW.nil fun aa ha => hK9 _ _ _ ?_ aa ha
      refine CW.no rfl ?_
      refine CW.skip fun aa ha => hK8 _ _ _ ?_ aa ha
      refine CW.region [0, 1, 2] rfl ?_
      refine LW.ex rfl rfl rfl rfl (Ex.move rfl) hS.rd ?_
      refine LW.ex rfl rfl rfl rfl (Ex.sub (r := (((i + 1 : Nat) : Int) - 1)) rfl rfl (w64 (by omega) (by omega))) hS.rd ?_
      refine LW.ex rfl rfl rfl rfl (Ex.assign rfl) hS.rd ?_
      refine LW.nil fun aa ha => ?_
      refine ⟨_, _, ?m2, ⟨i + 1, (by first | omega | (simp; done) | (simp; omega)), rfl, rfl, hS, fun j hj hij => by by_cases hji : j = i; (· subst hji; omega); (· exact he j hj (by omega))⟩, ha.sub ⟨rfl, rfl, trivial⟩⟩
      case m2 => omega
  · have h2_1 := of_decide_eq_false h2_1
    refine LW.nil fun aa ha => hK7 _ _ _ ?_ aa ha
    refine CW.no rfl ?_
    refine CW.exit fun aa ha => hK4 _ _ _ ?_ aa ha
    refine CW.seq fun K11 hK11 => ?_
    refine CW.region [0] rfl ?_
    refine LW.ex rfl rfl rfl rfl (Ex.assign rfl) hS.rd ?_
    refine LW.nil fun aa ha => hK11 _ _ _ ?_ aa ha
    refine CW.ret fun aa ha => ?_
    refine ret_one ha Try.results92 rfl ?_
    have e : isUp l = true := isUp_iff.2 fun j hj => he j hj (by omega)
    rw [e]; exact hS.retS
theorem rising_c (l : List Int) (hl0 : l.length ≤ 1099511627776) (ad : Option Addr) (c : Nat) (μ : Mem) (w : World) (hμ : Imm μ w) (hl : Sl μ ad c l) :
    Calls Try.prog 82 #[.slice ad l.length c] w (RetS w (.bool (isUp l))) := by
  have hS := St.start w μ hμ
  refine calls_start 5 [.slice ad l.length c] Try.func82 rfl Try.ntmps82 rfl rfl ?_
  refine CW.seq fun K12 hK12 => ?_
  refine CW.region [0] rfl ?_
  refine LW.ex rfl rfl rfl rfl (Ex.assign rfl) hS.rd ?_
  refine LW.nil fun aa ha => hK12 _ _ _ ?_ aa ha
  refine CW.seq fun K13 hK13 => ?_
  refine CW.region [0, 1, 2] rfl ?_
  refine LW.ex rfl rfl rfl rfl (Ex.move rfl) hS.rd ?_
  refine LW.hv rfl rfl rfl rfl (Hv.callS hS rfl rfl rfl cb92 (sorted_c l hl0 _ _ _ _ hS.imm hl)) fun v w4 ⟨hv, hS⟩ => ?_
  subst hv
  refine LW.ex rfl rfl rfl rfl (Ex.assign rfl) hS.rd ?_
  refine LW.nil fun aa ha => hK13 _ _ _ ?_ aa ha
  refine CW.ret fun aa ha => ?_
  refine ret_one ha Try.results82 rfl ?_
  exact hS.retS
def edCmp (a b : Edge) : Int := orL [cmpI a.From b.From, cmpI a.To b.To, cmpI a.Word b.Word]
theorem edLess_iff {a b : Edge} : edLess a b = true ↔ (a.From < b.From ∨ (a.From = b.From ∧ (a.To < b.To ∨ (a.To = b.To ∧ a.Word < b.Word)))) := by unfold edLess; exact decide_eq_true_iff
theorem edCmp_lt {a b : Edge} : edCmp a b < 0 ↔ edLess a b = true := by
  rw [edLess_iff]
  unfold edCmp
  simp only [orL, cmpI]
  by_cases h1 : a.From < b.From
  · simp [h1]
  · by_cases h2 : b.From < a.From
    · simp [h1, h2]; omega
    · by_cases h3 : a.To < b.To
      · simp [h1, h2, h3]; omega
      · by_cases h4 : b.To < a.To
        · simp [h1, h2, h3, h4]; try omega
        · by_cases h5 : a.Word < b.Word
          · simp [h1, h2, h3, h4, h5]; omega
          · by_cases h6 : b.Word < a.Word
            · simp [h1, h2, h3, h4, h5, h6]; try omega
            · simp [h1, h2, h3, h4, h5, h6]
set_option maxRecDepth 100000 in
theorem edCmp_c (a b : Edge) (w : World) : Calls Try.prog 83 #[edgeV a, edgeV b] w (RetS w (.int .i64 (edCmp a b))) := by
  have hS := St.start w (fun _ => none) (fun _ _ h => by cases h)
  refine calls_start 22 [edgeV a, edgeV b] Try.func83 rfl Try.ntmps83 rfl rfl ?_
  refine CW.seq fun K14 hK14 => ?_
  refine CW.region [0, 1, 2] rfl ?_
  refine LW.hv rfl rfl rfl rfl (Hv.boxS hS rfl rfl) fun v w2 ⟨b2, hv, hb2, hS⟩ => ?_
  subst hv
  refine LW.hv rfl rfl rfl rfl (Hv.boxS hS rfl rfl) fun v w3 ⟨b3, hv, hb3, hS⟩ => ?_
  subst hv
  refine LW.ex rfl rfl rfl rfl (Ex.assign rfl) hS.rd ?_
  refine LW.nil fun aa ha => hK14 _ _ _ ?_ aa ha
  refine CW.seq fun K15 hK15 => ?_
  have hS := hS.drew
  refine CW.draw 18 (.ex 0 <| .ex 1 <| .ex 2 <| .ex 3 <| .ex 5 <| .ex 6 <| .ex 7 <| .ex 8 <| .ex 10 <| .ex 11 <| .ex 12 <| .ex 13 <| .one 4 <| .one 9 <| .one 14 <| .one 15 <| .one 16 <| .ex 17 <| .done) [] (Rd _ _) mixed (by kernel_rfl) rfl rfl hS.rd ?_
  refine PW.ex rfl rfl rfl rfl (Ex.fieldO 0 Try.underlying43 rfl rfl ti3 rfl) ?_
  refine PW.ex rfl rfl rfl rfl (Ex.load1 ti3 rfl rfl (by first | exact obT rfl | exact Rd.imm ‹_› | exact slT ‹_›)) ?_
  refine PW.ex rfl rfl rfl rfl (Ex.fieldO 0 Try.underlying43 rfl rfl ti3 rfl) ?_
  refine PW.ex rfl rfl rfl rfl (Ex.load1 ti3 rfl rfl (by first | exact obT rfl | exact Rd.imm ‹_› | exact slT ‹_›)) ?_
  refine PW.ex rfl rfl rfl rfl (Ex.fieldO 1 Try.underlying43 rfl rfl ti3 rfl) ?_
  refine PW.ex rfl rfl rfl rfl (Ex.load1 ti3 rfl rfl (by first | exact obT rfl | exact Rd.imm ‹_› | exact slT ‹_›)) ?_
  refine PW.ex rfl rfl rfl rfl (Ex.fieldO 1 Try.underlying43 rfl rfl ti3 rfl) ?_
  refine PW.ex rfl rfl rfl rfl (Ex.load1 ti3 rfl rfl (by first | exact obT rfl | exact Rd.imm ‹_› | exact slT ‹_›)) ?_
  refine PW.ex rfl rfl rfl rfl (Ex.fieldO 2 Try.underlying43 rfl rfl ti3 rfl) ?_
  refine PW.ex rfl rfl rfl rfl (Ex.load1 ti3 rfl rfl (by first | exact obT rfl | exact Rd.imm ‹_› | exact slT ‹_›)) ?_
  refine PW.ex rfl rfl rfl rfl (Ex.fieldO 2 Try.underlying43 rfl rfl ti3 rfl) ?_
  refine PW.ex rfl rfl rfl rfl (Ex.load1 ti3 rfl rfl (by first | exact obT rfl | exact Rd.imm ‹_› | exact slT ‹_›)) ?_
  refine PW.hv rfl rfl rfl rfl (Hv.callS hS rfl rfl rfl cb72 (cmp_c _ _ _)) (fun _ _ h => h.2.rd) fun v w9 ⟨hv, hS⟩ => ?_
  subst hv
  refine PW.hv rfl rfl rfl rfl (Hv.callS hS rfl rfl rfl cb72 (cmp_c _ _ _)) (fun _ _ h => h.2.rd) fun v w14 ⟨hv, hS⟩ => ?_
  subst hv
  refine PW.hv rfl rfl rfl rfl (Hv.callS hS rfl rfl rfl cb72 (cmp_c _ _ _)) (fun _ _ h => h.2.rd) fun v w19 ⟨hv, hS⟩ => ?_
  subst hv
  refine PW.hv rfl rfl rfl rfl (Hv.buildSl hS Try.underlying31 ti3 rfl rfl rfl rfl rfl rfl) (fun _ _ ⟨_, _, _, h⟩ => h.rd.tail) fun v w20 ⟨b20, hv, hb20, hS⟩ => ?_
  subst hv
  refine PW.hv rfl rfl rfl rfl (Hv.callS hS rfl rfl rfl cb81 (or_c [cmpI a.From b.From, cmpI a.To b.To, cmpI a.Word b.Word] _ _ (memOf _) _ (imm_memOf _) (hS.lend_obj (k := 0) rfl (RepL.ints3 _ _ _ _) (by simp [maxLen])))) (fun _ _ h => h.2.rd.tail) fun v w21 ⟨hv, hS⟩ => ?_
  subst hv
  refine PW.ex rfl rfl rfl rfl (Ex.assign rfl) ?_
  refine PW.nil ?_
  refine LW.nil fun aa ha => hK15 _ _ _ ?_ aa ha
  refine CW.ret fun aa ha => ?_
  refine ret_one ha Try.results83 rfl ?_
  exact hS.retS
def edIn (N : Int) (e : Edge) : Bool := decide (0 ≤ e.From ∧ e.From < e.To ∧ e.To ≤ N ∧ 0 ≤ e.Word ∧ e.Word ≤ 199 ∧ 0 ≤ e.Cost ∧ e.Cost ≤ 1000000)
theorem edIn_iff {N : Int} {e : Edge} : edIn N e = true ↔ (0 ≤ e.From ∧ e.From < e.To ∧ e.To ≤ N ∧ 0 ≤ e.Word ∧ e.Word ≤ 199 ∧ 0 ≤ e.Cost ∧ e.Cost ≤ 1000000) := by unfold edIn; exact decide_eq_true_iff
def okX (x : Lat) : Bool := decide (0 ≤ x.N ∧ x.N ≤ 40 ∧ x.Edges.length ≤ 20000) && rises (edIn x.N) edLess none x.Edges
theorem isUp3 {a b c : Int} : isUp [a, b, c] = true ↔ a ≤ b ∧ b ≤ c := by simp [isUp]
theorem isUp4 {a b c d : Int} : isUp [a, b, c, d] = true ↔ a ≤ b ∧ b ≤ c ∧ c ≤ d := by simp [isUp]
theorem isUp3n {a b c : Int} (h : isUp [a, b, c] = false) : ¬ (a ≤ b ∧ b ≤ c) := fun e => by rw [isUp3.2 e] at h; cases h
theorem isUp4n {a b c d : Int} (h : isUp [a, b, c, d] = false) : ¬ (a ≤ b ∧ b ≤ c ∧ c ≤ d) := fun e => by rw [isUp4.2 e] at h; cases h
theorem okX_no1 {x : Lat} (h : ¬ (0 ≤ x.N ∧ x.N ≤ 40 ∧ x.Edges.length ≤ 20000)) : okX x = false := by unfold okX; rw [decide_eq_false h]; rfl
theorem okX_no2 {x : Lat} (h : rises (edIn x.N) edLess none x.Edges = false) : okX x = false := by unfold okX; rw [h, Bool.and_false]
set_option maxRecDepth 100000 in
set_option maxHeartbeats 1000000 in
theorem xvalid_c (x : Lat) (hsm : ∀ e ∈ x.Edges, -1099511627776 ≤ e.To ∧ e.To ≤ 1099511627776) (a3 : Option Addr) (c3 : Nat) (μ : Mem) (w : World) (hμ : Imm μ w) (hx : Sl μ a3 c3 x.Edges) :
    Calls Try.prog 67 #[.agg #[.int .i64 x.N, .slice a3 x.Edges.length c3]] w (RetS w (.bool (okX x))) := by
  have hS := St.start w μ hμ
  refine calls_start 65 [.agg #[.int .i64 x.N, .slice a3 x.Edges.length c3]] Try.func67 rfl Try.ntmps67 rfl rfl ?_
  refine CW.seq fun K16 hK16 => ?_
  refine CW.region [0, 1] rfl ?_
  refine LW.hv rfl rfl rfl rfl (Hv.boxS hS rfl rfl) fun v w1 ⟨b1, hv, hb1, hS⟩ => ?_
  subst hv
  refine LW.ex rfl rfl rfl rfl (Ex.assign rfl) hS.rd ?_
  refine LW.nil fun aa ha => hK16 _ _ _ ?_ aa ha
  refine CW.seq fun K17 hK17 => ?_
  refine CW.seq fun K18 hK18 => ?_
  refine CW.region [0, 1, 2, 3, 4, 5, 6, 7, 8, 9, 10] rfl ?_
  refine LW.ex rfl rfl rfl rfl (Ex.fieldO 0 Try.underlying38 rfl rfl ti3 rfl) hS.rd ?_
  refine LW.ex rfl rfl rfl rfl (Ex.load1 ti3 rfl rfl (by first | exact obT rfl | exact Rd.imm ‹_› | exact slT ‹_›)) hS.rd ?_
  refine LW.hv rfl rfl rfl rfl (Hv.buildSl hS Try.underlying31 ti3 rfl rfl rfl rfl rfl rfl) fun v w7 ⟨b7, hv, hb7, hS⟩ => ?_
  subst hv
  refine LW.hv rfl rfl rfl rfl (Hv.callS hS rfl rfl rfl cb82 (rising_c [0, x.N, 40] (by simp) _ _ (memOf _) _ (imm_memOf _) (hS.lend_obj (k := 0) rfl (RepL.ints3 _ _ _ _) (by simp [maxLen])))) fun v w8 ⟨hv, hS⟩ => ?_
  subst hv
  refine LW.splitB (fun h1_3 => ?_) (fun h1_3 => ?_)
  · have h1_3 := isUp3.1 h1_3
    refine LW.ex rfl rfl rfl rfl (Ex.not rfl rfl) hS.rd ?_
    refine LW.ex rfl rfl rfl rfl (Ex.move rfl) hS.rd ?_
    refine LW.ex rfl rfl rfl rfl (Ex.fieldO 1 Try.underlying38 rfl rfl ti36 rfl) hS.rd ?_
    refine LW.ex rfl rfl rfl rfl (Ex.load1 ti36 rfl rfl (by first | exact obT rfl | exact Rd.imm ‹_› | exact slT ‹_›)) hS.rd ?_
    refine LW.ex rfl rfl rfl rfl (Ex.lenSl rfl Try.underlying36 rfl) hS.rd ?_
    refine LW.ex rfl rfl rfl rfl (Ex.gtr rfl rfl rfl) hS.rd ?_
    refine LW.splitB (fun h1_9 => ?_) (fun h1_9 => ?_)
    · have h1_9 := of_decide_eq_true h1_9
      refine LW.ex rfl rfl rfl rfl (by first | exact Ex.pick_yes rfl rfl | exact Ex.pick_no rfl rfl) hS.rd ?_
      refine LW.nil fun aa ha => hK18 _ _ _ ?_ aa ha
      refine CW.yes rfl ?_
      refine CW.seq fun K19 hK19 => ?_
      refine CW.region [0] rfl ?_
      refine LW.ex rfl rfl rfl rfl (Ex.assign rfl) hS.rd ?_
      refine LW.nil fun aa ha => hK19 _ _ _ ?_ aa ha
      refine CW.ret fun aa ha => ?_
      refine ret_one ha Try.results67 rfl ?_
      exact hS.retB (okX_no1 (by omega)).symm
    · have h1_9 := of_decide_eq_false h1_9
      refine LW.ex rfl rfl rfl rfl (by first | exact Ex.pick_yes rfl rfl | exact Ex.pick_no rfl rfl) hS.rd ?_
      refine LW.nil fun aa ha => hK18 _ _ _ ?_ aa ha
      refine CW.no rfl ?_
      refine CW.skip fun aa ha => hK17 _ _ _ ?_ aa ha
      refine CW.seq fun K20 hK20 => ?_
      refine CW.seq fun K21 hK21 => ?_
      refine CW.region [0, 1, 2, 3] rfl ?_
      refine LW.ex rfl rfl rfl rfl (Ex.fieldO 1 Try.underlying38 rfl rfl ti36 rfl) hS.rd ?_
      refine LW.ex rfl rfl rfl rfl (Ex.load1 ti36 rfl rfl (by first | exact obT rfl | exact Rd.imm ‹_› | exact slT ‹_›)) hS.rd ?_
      refine LW.ex rfl rfl rfl rfl (Ex.lenSl rfl Try.underlying36 rfl) hS.rd ?_
      refine LW.ex rfl rfl rfl rfl (Ex.move rfl) hS.rd ?_
      refine LW.nil fun aa ha => hK21 _ _ _ ?_ aa ha
      refine CW.block ?_
      have hS := hS.drop 0 rfl
      dsimp only [List.eraseIdx] at hS
      refine CW.loop (fun qq frm wl4 => ∃ (i : Nat), i ≤ x.Edges.length ∧ qq = x.Edges.length - i ∧ frm = [(1, .pointer (some ⟨b1, 0, none⟩)), (17, .slice a3 x.Edges.length c3), (18, .int .i64 x.Edges.length), (19, .int .i64 i)] ∧ St w wl4 μ [Own.obj b1 [.int .i64 x.N, .slice a3 x.Edges.length c3] 38] ∧ (rises (edIn x.N) edLess none x.Edges = rises (edIn x.N) edLess (prevOf x.Edges i) (x.Edges.drop i))) _ ⟨0, (by first | omega | (simp; done) | (simp; omega)), rfl, rfl, hS, rfl⟩ ⟨rfl, rfl, rfl, rfl, trivial⟩ ?_
      clear hS
      rintro qq frm wl4 ⟨i, hi, hq, rfl, hS, he⟩
      refine CW.seq fun K22 hK22 => ?_
      refine CW.region [0] rfl ?_
      refine LW.ex rfl rfl rfl rfl (Ex.lss rfl rfl rfl) hS.rd ?_
      refine LW.splitB (fun h4_0 => ?_) (fun h4_0 => ?_)
      · have h4_0 := of_decide_eq_true h4_0
        refine LW.nil fun aa ha => hK22 _ _ _ ?_ aa ha
        refine CW.seq fun K23 hK23 => ?_
        refine CW.yes rfl ?_
        refine CW.skip fun aa ha => hK23 _ _ _ ?_ aa ha
        refine CW.seq fun K24 hK24 => ?_
        refine CW.block ?_
        refine CW.seq fun K25 hK25 => ?_
        have hi2 : i < x.Edges.length := by omega
        have hnn : i - 1 < x.Edges.length := by omega
        have hto := hsm _ (List.getElem_mem hi2)
        obtain ⟨bl, ol, rfl, k0, k1, k2, k3⟩ := hx.at hi2
        obtain ⟨bl', ol', e', j0, j1, j2, j3⟩ := hx.at hnn
        cases e'
        refine CW.region [0, 1, 2, 3, 4, 5] rfl ?_
        refine LW.ex rfl rfl rfl rfl (Ex.move rfl) hS.rd ?_
        refine LW.ex rfl rfl rfl rfl (Ex.indexSl Try.underlying36 ti43 rfl rfl rfl (by omega)) hS.rd ?_
        refine LW.ex rfl rfl rfl rfl (Ex.load4c ti43 rfl rfl (by first | exact obT rfl | exact Rd.imm ‹_› | exact slT ‹_›) (by first | exact obT rfl | exact Rd.imm ‹_› | exact slT ‹_›) (by first | exact obT rfl | exact Rd.imm ‹_› | exact slT ‹_›) (by first | exact obT rfl | exact Rd.imm ‹_› | exact slT ‹_›)) hS.rd ?_
        refine LW.hv rfl rfl rfl rfl (Hv.alloc ti43 hS) fun v w4 ⟨b4, hv, hb4, hS⟩ => ?_
        subst hv
        refine LW.ex rfl rfl rfl rfl (Ex.assign rfl) hS.rd ?_
        refine LW.hu rfl rfl rfl (Hv.storeN (k := 0) ti43 hS rfl rfl rfl rfl (by simp [Value.oneCell'])) fun _ w_5 hS => ?_
        dsimp only [List.set] at hS
        refine LW.nil fun aa ha => hK25 _ _ _ ?_ aa ha
        refine CW.seq fun K26 hK26 => ?_
        have hS := hS.drew
        refine CW.draw 40 (.ex 0 <| .ex 1 <| .ex 2 <| .ex 3 <| .ex 4 <| .ex 5 <| .ex 6 <| .ex 7 <| .one 8 <| .one 9 <| .ex 10 <| .ex 11 <| .ex 12 <| .ex 13 <| .one 14 <| .one 15 <| .ex 16 <| .ex 17 <| .ex 18 <| .ex 19 <| .ex 20 <| .one 21 <| .one 22 <| .ex 23 <| .ex 24 <| .ex 25 <| .ex 26 <| .ex 27 <| .ex 28 <| .ex 29 <| .ex 30 <| .ex 31 <| .ex 32 <| .ex 33 <| .ex 34 <| .ex 35 <| .one 36 <| .ex 37 <| .ex 38 <| .ex 39 <| .done) [] (Rd _ _) mixed (by kernel_rfl) rfl rfl hS.rd ?_
        refine PW.ex rfl rfl rfl rfl (Ex.fieldO 0 Try.underlying43 rfl rfl ti3 rfl) ?_
        refine PW.ex rfl rfl rfl rfl (Ex.load1 ti3 rfl rfl (by first | exact obT rfl | exact Rd.imm ‹_› | exact slT ‹_›)) ?_
        refine PW.ex rfl rfl rfl rfl (Ex.fieldO 1 Try.underlying43 rfl rfl ti3 rfl) ?_
        refine PW.ex rfl rfl rfl rfl (Ex.load1 ti3 rfl rfl (by first | exact obT rfl | exact Rd.imm ‹_› | exact slT ‹_›)) ?_
        refine PW.ex rfl rfl rfl rfl (Ex.sub (r := (x.Edges[i].To - 1)) rfl rfl (w64 (by omega) (by omega))) ?_
        refine PW.ex rfl rfl rfl rfl (Ex.fieldO 0 Try.underlying38 rfl rfl ti3 rfl) ?_
        refine PW.ex rfl rfl rfl rfl (Ex.load1 ti3 rfl rfl (by first | exact obT rfl | exact Rd.imm ‹_› | exact slT ‹_›)) ?_
        refine PW.ex rfl rfl rfl rfl (Ex.sub (r := (x.N - 1)) rfl rfl (w64 (by omega) (by omega))) ?_
        refine PW.hv rfl rfl rfl rfl (Hv.buildSl hS Try.underlying31 ti3 rfl rfl rfl rfl rfl rfl) (fun _ _ ⟨_, _, _, h⟩ => h.rd.tail) fun v w32 ⟨b32, hv, hb32, hS⟩ => ?_
        subst hv
        refine PW.hv rfl rfl rfl rfl (Hv.callS hS rfl rfl rfl cb82 (rising_c [0, x.Edges[i].From, x.Edges[i].To - 1, x.N - 1] (by simp) _ _ (memOf _) _ (imm_memOf _) (hS.lend_obj (k := 0) rfl (RepL.ints _ [0, x.Edges[i].From, x.Edges[i].To - 1, x.N - 1]) (by simp [maxLen])))) (fun _ _ h => h.2.rd.tail) fun v w33 ⟨hv, hS⟩ => ?_
        subst hv
        refine PW.splitB (fun h6_9 => ?_) (fun h6_9 => ?_)
        · have h6_9 := isUp4.1 h6_9
          refine PW.ex rfl rfl rfl rfl (Ex.not rfl rfl) ?_
          refine PW.ex rfl rfl rfl rfl (Ex.move rfl) ?_
          refine PW.ex rfl rfl rfl rfl (Ex.fieldO 2 Try.underlying43 rfl rfl ti3 rfl) ?_
          refine PW.ex rfl rfl rfl rfl (Ex.load1 ti3 rfl rfl (by first | exact obT rfl | exact Rd.imm ‹_› | exact slT ‹_›)) ?_
          refine PW.hv rfl rfl rfl rfl (Hv.buildSl hS Try.underlying31 ti3 rfl rfl rfl rfl rfl rfl) (fun _ _ ⟨_, _, _, h⟩ => h.rd.tail.tail) fun v w38 ⟨b38, hv, hb38, hS⟩ => ?_
          subst hv
          refine PW.hv rfl rfl rfl rfl (Hv.callS hS rfl rfl rfl cb82 (rising_c [0, x.Edges[i].Word, 199] (by simp) _ _ (memOf _) _ (imm_memOf _) (hS.lend_obj (k := 0) rfl (RepL.ints3 _ _ _ _) (by simp [maxLen])))) (fun _ _ h => h.2.rd.tail.tail) fun v w39 ⟨hv, hS⟩ => ?_
          subst hv
          refine PW.splitB (fun h6_15 => ?_) (fun h6_15 => ?_)
          · have h6_15 := isUp3.1 h6_15
            refine PW.ex rfl rfl rfl rfl (Ex.not rfl rfl) ?_
            refine PW.ex rfl rfl rfl rfl (by first | exact Ex.pick_yes rfl rfl | exact Ex.pick_no rfl rfl) ?_
            refine PW.ex rfl rfl rfl rfl (Ex.move rfl) ?_
            refine PW.ex rfl rfl rfl rfl (Ex.fieldO 3 Try.underlying43 rfl rfl ti3 rfl) ?_
            refine PW.ex rfl rfl rfl rfl (Ex.load1 ti3 rfl rfl (by first | exact obT rfl | exact Rd.imm ‹_› | exact slT ‹_›)) ?_
            refine PW.hv rfl rfl rfl rfl (Hv.buildSl hS Try.underlying31 ti3 rfl rfl rfl rfl rfl rfl) (fun _ _ ⟨_, _, _, h⟩ => h.rd.tail.tail.tail) fun v w45 ⟨b45, hv, hb45, hS⟩ => ?_
            subst hv
            refine PW.hv rfl rfl rfl rfl (Hv.callS hS rfl rfl rfl cb82 (rising_c [0, x.Edges[i].Cost, 1000000] (by simp) _ _ (memOf _) _ (imm_memOf _) (hS.lend_obj (k := 0) rfl (RepL.ints3 _ _ _ _) (by simp [maxLen])))) (fun _ _ h => h.2.rd.tail.tail.tail) fun v w46 ⟨hv, hS⟩ => ?_
            subst hv
            refine PW.splitB (fun h6_22 => ?_) (fun h6_22 => ?_)
            · have h6_22 := isUp3.1 h6_22
              refine PW.ex rfl rfl rfl rfl (Ex.not rfl rfl) ?_
              refine PW.ex rfl rfl rfl rfl (by first | exact Ex.pick_yes rfl rfl | exact Ex.pick_no rfl rfl) ?_
              refine PW.ex rfl rfl rfl rfl (Ex.move rfl) ?_
              refine PW.ex rfl rfl rfl rfl (Ex.move rfl) ?_
              refine PW.ex rfl rfl rfl rfl (Ex.gtr rfl rfl rfl) ?_
              refine PW.splitB (fun h6_27 => ?_) (fun h6_27 => ?_)
              · have h6_27 := of_decide_eq_true h6_27
                refine PW.ex rfl rfl rfl rfl (Ex.move rfl) ?_
                refine PW.ex rfl rfl rfl rfl (Ex.fieldO 1 Try.underlying38 rfl rfl ti36 rfl) ?_
                refine PW.ex rfl rfl rfl rfl (Ex.load1 ti36 rfl rfl (by first | exact obT rfl | exact Rd.imm ‹_› | exact slT ‹_›)) ?_
                refine PW.ex rfl rfl rfl rfl (Ex.move rfl) ?_
                refine PW.ex rfl rfl rfl rfl (Ex.sub rfl rfl (by first | exact dec64 (by omega) (by omega) | exact subN (by omega) (by omega) | exact w64 (by omega) (by omega))) ?_
                refine PW.ex rfl rfl rfl rfl (Ex.indexSl Try.underlying36 ti43 rfl rfl rfl (by omega)) ?_
                refine PW.ex rfl rfl rfl rfl (Ex.load4c ti43 rfl rfl (by first | exact obT rfl | exact Rd.imm ‹_› | exact slT ‹_›) (by first | exact obT rfl | exact Rd.imm ‹_› | exact slT ‹_›) (by first | exact obT rfl | exact Rd.imm ‹_› | exact slT ‹_›) (by first | exact obT rfl | exact Rd.imm ‹_› | exact slT ‹_›)) ?_
                refine PW.ex rfl rfl rfl rfl (Ex.load4c ti43 rfl rfl (by first | exact obT rfl | exact Rd.imm ‹_› | exact slT ‹_›) (by first | exact obT rfl | exact Rd.imm ‹_› | exact slT ‹_›) (by first | exact obT rfl | exact Rd.imm ‹_› | exact slT ‹_›) (by first | exact obT rfl | exact Rd.imm ‹_› | exact slT ‹_›)) ?_
                refine PW.hv rfl rfl rfl rfl (Hv.callS hS rfl rfl rfl cb83 (edCmp_c x.Edges[i - 1] x.Edges[i] _)) (fun _ _ h => h.2.rd.tail.tail.tail) fun v w60 ⟨hv, hS⟩ => ?_
                subst hv
                refine PW.ex rfl rfl rfl rfl (Ex.geq rfl rfl rfl) ?_
                refine PW.splitB (fun h6_37 => ?_) (fun h6_37 => ?_)
                · have h6_37 := of_decide_eq_true h6_37
                  refine PW.ex rfl rfl rfl rfl (by first | exact Ex.pick_yes rfl rfl | exact Ex.pick_no rfl rfl) ?_
                  refine PW.ex rfl rfl rfl rfl (by first | exact Ex.pick_yes rfl rfl | exact Ex.pick_no rfl rfl) ?_
                  refine PW.nil ?_
                  refine LW.nil fun aa ha => hK26 _ _ _ ?_ aa ha
                  refine CW.yes rfl ?_
                  refine CW.seq fun K27 hK27 => ?_
                  refine CW.region [0] rfl ?_
                  refine LW.ex rfl rfl rfl rfl (Ex.assign rfl) hS.rd ?_
                  refine LW.nil fun aa ha => hK27 _ _ _ ?_ aa ha
                  refine CW.ret fun aa ha => ?_
                  refine ret_one ha Try.results67 rfl ?_
                  exact hS.retB (okX_no2 (by rw [he, rises_not2 _ _ _ _ hi2 (by omega) (by rw [Bool.eq_false_iff, ne_eq, ← edCmp_lt]; omega)])).symm
                · have h6_37 := of_decide_eq_false h6_37
                  refine PW.ex rfl rfl rfl rfl (by first | exact Ex.pick_yes rfl rfl | exact Ex.pick_no rfl rfl) ?_
                  refine PW.ex rfl rfl rfl rfl (by first | exact Ex.pick_yes rfl rfl | exact Ex.pick_no rfl rfl) ?_
                  refine PW.nil ?_
                  refine LW.nil fun aa ha => hK26 _ _ _ ?_ aa ha
                  refine CW.no rfl ?_
                  refine CW.skip fun aa ha => hK24 _ _ _ ?_ aa ha
                  refine CW.region [0, 1] rfl ?_
                  refine LW.ex rfl rfl rfl rfl (Ex.add rfl rfl (by first | exact inc64 (by omega) | exact addN (by omega) | exact w64 (by omega) (by omega))) hS.rd ?_
                  refine LW.ex rfl rfl rfl rfl (Ex.move rfl) hS.rd ?_
                  refine LW.nil fun aa ha => ?_
                  have hS := hS.drop 0 rfl
                  dsimp only [List.eraseIdx] at hS
                  have hS := hS.drop 0 rfl
                  dsimp only [List.eraseIdx] at hS
                  have hS := hS.drop 0 rfl
                  dsimp only [List.eraseIdx] at hS
                  have hS := hS.drop 0 rfl
                  dsimp only [List.eraseIdx] at hS
                  refine ⟨_, _, ?m4, ⟨i + 1, (by first | omega | (simp; done) | (simp; omega)), rfl, rfl, hS, ?_⟩, ha.sub ⟨rfl, rfl, rfl, rfl, trivial⟩⟩
                  case m4 => omega
                  rw [he]; exact rises_step _ _ _ _ hi2 (edIn_iff.2 (by omega)) (fun _ => edCmp_lt.1 (by omega))
              · have h6_27 := of_decide_eq_false h6_27
                refine PW.ex rfl rfl rfl rfl (Ex.move rfl) ?_
                refine PW.skip rfl rfl rfl rfl ?_
                refine PW.skip rfl rfl rfl rfl ?_
                refine PW.skip rfl rfl rfl rfl ?_
                refine PW.skip rfl rfl rfl rfl ?_
                refine PW.skip rfl rfl rfl rfl ?_
                refine PW.skip rfl rfl rfl rfl ?_
                refine PW.skip rfl rfl rfl rfl ?_
                refine PW.skip1 rfl rfl rfl rfl ?_
                refine PW.skip rfl rfl rfl rfl ?_
                refine PW.ex rfl rfl rfl rfl (by first | exact Ex.pick_yes rfl rfl | exact Ex.pick_no rfl rfl) ?_
                refine PW.ex rfl rfl rfl rfl (by first | exact Ex.pick_yes rfl rfl | exact Ex.pick_no rfl rfl) ?_
                refine PW.nil ?_
                refine LW.nil fun aa ha => hK26 _ _ _ ?_ aa ha
                refine CW.no rfl ?_
                refine CW.skip fun aa ha => hK24 _ _ _ ?_ aa ha
                refine CW.region [0, 1] rfl ?_
                refine LW.ex rfl rfl rfl rfl (Ex.add rfl rfl (by first | exact inc64 (by omega) | exact addN (by omega) | exact w64 (by omega) (by omega))) hS.rd ?_
                refine LW.ex rfl rfl rfl rfl (Ex.move rfl) hS.rd ?_
                refine LW.nil fun aa ha => ?_
                have hS := hS.drop 0 rfl
                dsimp only [List.eraseIdx] at hS
                have hS := hS.drop 0 rfl
                dsimp only [List.eraseIdx] at hS
                have hS := hS.drop 0 rfl
                dsimp only [List.eraseIdx] at hS
                have hS := hS.drop 0 rfl
                dsimp only [List.eraseIdx] at hS
                refine ⟨_, _, ?m4, ⟨i + 1, (by first | omega | (simp; done) | (simp; omega)), rfl, rfl, hS, ?_⟩, ha.sub ⟨rfl, rfl, rfl, rfl, trivial⟩⟩
                case m4 => omega
                rw [he]; exact rises_step _ _ _ _ hi2 (edIn_iff.2 (by omega)) (fun h0 => by omega)
            · have h6_22 := isUp3n h6_22
              refine PW.ex rfl rfl rfl rfl (Ex.not rfl rfl) ?_
              refine PW.ex rfl rfl rfl rfl (by first | exact Ex.pick_yes rfl rfl | exact Ex.pick_no rfl rfl) ?_
              refine PW.ex rfl rfl rfl rfl (Ex.move rfl) ?_
              refine PW.skip rfl rfl rfl rfl ?_
              refine PW.skip rfl rfl rfl rfl ?_
              refine PW.skip rfl rfl rfl rfl ?_
              refine PW.skip rfl rfl rfl rfl ?_
              refine PW.skip rfl rfl rfl rfl ?_
              refine PW.skip rfl rfl rfl rfl ?_
              refine PW.skip rfl rfl rfl rfl ?_
              refine PW.skip rfl rfl rfl rfl ?_
              refine PW.skip rfl rfl rfl rfl ?_
              refine PW.skip rfl rfl rfl rfl ?_
              refine PW.skip1 rfl rfl rfl rfl ?_
              refine PW.skip rfl rfl rfl rfl ?_
              refine PW.skip rfl rfl rfl rfl ?_
              refine PW.ex rfl rfl rfl rfl (by first | exact Ex.pick_yes rfl rfl | exact Ex.pick_no rfl rfl) ?_
              refine PW.nil ?_
              refine LW.nil fun aa ha => hK26 _ _ _ ?_ aa ha
              refine CW.yes rfl ?_
              refine CW.seq fun K28 hK28 => ?_
              refine CW.region [0] rfl ?_
              refine LW.ex rfl rfl rfl rfl (Ex.assign rfl) hS.rd ?_
              refine LW.nil fun aa ha => hK28 _ _ _ ?_ aa ha
              refine CW.ret fun aa ha => ?_
              refine ret_one ha Try.results67 rfl ?_
              exact hS.retB (okX_no2 (by rw [he, rises_not _ _ _ _ hi2 (by rw [Bool.eq_false_iff, ne_eq, edIn_iff]; omega)])).symm
          · have h6_15 := isUp3n h6_15
            refine PW.ex rfl rfl rfl rfl (Ex.not rfl rfl) ?_
            refine PW.ex rfl rfl rfl rfl (by first | exact Ex.pick_yes rfl rfl | exact Ex.pick_no rfl rfl) ?_
            refine PW.ex rfl rfl rfl rfl (Ex.move rfl) ?_
            refine PW.skip rfl rfl rfl rfl ?_
            refine PW.skip rfl rfl rfl rfl ?_
            refine PW.skip1 rfl rfl rfl rfl ?_
            refine PW.skip1 rfl rfl rfl rfl ?_
            refine PW.skip rfl rfl rfl rfl ?_
            refine PW.ex rfl rfl rfl rfl (by first | exact Ex.pick_yes rfl rfl | exact Ex.pick_no rfl rfl) ?_
            refine PW.ex rfl rfl rfl rfl (Ex.move rfl) ?_
            refine PW.skip rfl rfl rfl rfl ?_
            refine PW.skip rfl rfl rfl rfl ?_
            refine PW.skip rfl rfl rfl rfl ?_
            refine PW.skip rfl rfl rfl rfl ?_
            refine PW.skip rfl rfl rfl rfl ?_
            refine PW.skip rfl rfl rfl rfl ?_
            refine PW.skip rfl rfl rfl rfl ?_
            refine PW.skip rfl rfl rfl rfl ?_
            refine PW.skip rfl rfl rfl rfl ?_
            refine PW.skip rfl rfl rfl rfl ?_
            refine PW.skip1 rfl rfl rfl rfl ?_
            refine PW.skip rfl rfl rfl rfl ?_
            refine PW.skip rfl rfl rfl rfl ?_
            refine PW.ex rfl rfl rfl rfl (by first | exact Ex.pick_yes rfl rfl | exact Ex.pick_no rfl rfl) ?_
            refine PW.nil ?_
            refine LW.nil fun aa ha => hK26 _ _ _ ?_ aa ha
            refine CW.yes rfl ?_
            refine CW.seq fun K29 hK29 => ?_
            refine CW.region [0] rfl ?_
            refine LW.ex rfl rfl rfl rfl (Ex.assign rfl) hS.rd ?_
            refine LW.nil fun aa ha => hK29 _ _ _ ?_ aa ha
            refine CW.ret fun aa ha => ?_
            refine ret_one ha Try.results67 rfl ?_
            exact hS.retB (okX_no2 (by rw [he, rises_not _ _ _ _ hi2 (by rw [Bool.eq_false_iff, ne_eq, edIn_iff]; omega)])).symm
        · have h6_9 := isUp4n h6_9
          refine PW.ex rfl rfl rfl rfl (Ex.not rfl rfl) ?_
          refine PW.ex rfl rfl rfl rfl (Ex.move rfl) ?_
          refine PW.skip rfl rfl rfl rfl ?_
          refine PW.skip rfl rfl rfl rfl ?_
          refine PW.skip1 rfl rfl rfl rfl ?_
          refine PW.skip1 rfl rfl rfl rfl ?_
          refine PW.skip rfl rfl rfl rfl ?_
          refine PW.ex rfl rfl rfl rfl (by first | exact Ex.pick_yes rfl rfl | exact Ex.pick_no rfl rfl) ?_
          refine PW.ex rfl rfl rfl rfl (Ex.move rfl) ?_
          refine PW.skip rfl rfl rfl rfl ?_
          refine PW.skip rfl rfl rfl rfl ?_
          refine PW.skip1 rfl rfl rfl rfl ?_
          refine PW.skip1 rfl rfl rfl rfl ?_
          refine PW.skip rfl rfl rfl rfl ?_
          refine PW.ex rfl rfl rfl rfl (by first | exact Ex.pick_yes rfl rfl | exact Ex.pick_no rfl rfl) ?_
          refine PW.ex rfl rfl rfl rfl (Ex.move rfl) ?_
          refine PW.skip rfl rfl rfl rfl ?_
          refine PW.skip rfl rfl rfl rfl ?_
          refine PW.skip rfl rfl rfl rfl ?_
          refine PW.skip rfl rfl rfl rfl ?_
          refine PW.skip rfl rfl rfl rfl ?_
          refine PW.skip rfl rfl rfl rfl ?_
          refine PW.skip rfl rfl rfl rfl ?_
          refine PW.skip rfl rfl rfl rfl ?_
          refine PW.skip rfl rfl rfl rfl ?_
          refine PW.skip rfl rfl rfl rfl ?_
          refine PW.skip1 rfl rfl rfl rfl ?_
          refine PW.skip rfl rfl rfl rfl ?_
          refine PW.skip rfl rfl rfl rfl ?_
          refine PW.ex rfl rfl rfl rfl (by first | exact Ex.pick_yes rfl rfl | exact Ex.pick_no rfl rfl) ?_
          refine PW.nil ?_
          refine LW.nil fun aa ha => hK26 _ _ _ ?_ aa ha
          refine CW.yes rfl ?_
          refine CW.seq fun K30 hK30 => ?_
          refine CW.region [0] rfl ?_
          refine LW.ex rfl rfl rfl rfl (Ex.assign rfl) hS.rd ?_
          refine LW.nil fun aa ha => hK30 _ _ _ ?_ aa ha
          refine CW.ret fun aa ha => ?_
          refine ret_one ha Try.results67 rfl ?_
          exact hS.retB (okX_no2 (by rw [he, rises_not _ _ _ _ hi2 (by rw [Bool.eq_false_iff, ne_eq, edIn_iff]; omega)])).symm
      · have h4_0 := of_decide_eq_false h4_0
        refine LW.nil fun aa ha => hK22 _ _ _ ?_ aa ha
        refine CW.seq fun K31 hK31 => ?_
        refine CW.no rfl ?_
        refine CW.exit fun aa ha => hK20 _ _ _ ?_ aa ha
        refine CW.seq fun K32 hK32 => ?_
        refine CW.region [0] rfl ?_
        refine LW.ex rfl rfl rfl rfl (Ex.assign rfl) hS.rd ?_
        refine LW.nil fun aa ha => hK32 _ _ _ ?_ aa ha
        refine CW.ret fun aa ha => ?_
        refine ret_one ha Try.results67 rfl ?_
        have hdr : okX x = true := by unfold okX; rw [he, rises_end _ _ _ _ (by omega), decide_eq_true (by omega)]; rfl
        rw [hdr]; exact hS.retS
  · have h1_3 := isUp3n h1_3
    refine LW.ex rfl rfl rfl rfl (Ex.not rfl rfl) hS.rd ?_
    refine LW.ex rfl rfl rfl rfl (Ex.move rfl) hS.rd ?_
    refine LW.skip rfl rfl rfl rfl ?_
    refine LW.skip rfl rfl rfl rfl ?_
    refine LW.skip rfl rfl rfl rfl ?_
    refine LW.skip rfl rfl rfl rfl ?_
    refine LW.ex rfl rfl rfl rfl (by first | exact Ex.pick_yes rfl rfl | exact Ex.pick_no rfl rfl) hS.rd ?_
    refine LW.nil fun aa ha => hK18 _ _ _ ?_ aa ha
    refine CW.yes rfl ?_
    refine CW.seq fun K33 hK33 => ?_
    refine CW.region [0] rfl ?_
    refine LW.ex rfl rfl rfl rfl (Ex.assign rfl) hS.rd ?_
    refine LW.nil fun aa ha => hK33 _ _ _ ?_ aa ha
    refine CW.ret fun aa ha => ?_
    refine ret_one ha Try.results67 rfl ?_
    exact hS.retB (okX_no1 (by omega)).symm
end Go.Proofs.Ytgnpjhellmfhoaa

