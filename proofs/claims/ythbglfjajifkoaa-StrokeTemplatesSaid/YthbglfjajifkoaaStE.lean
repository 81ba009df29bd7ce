/-
  Strokes: the walks of IndexFunc, ContainsFunc, and of both functions Valid.
-/
import Derived.Test.YthbglfjajifkoaaStD
namespace Go.Proofs.Ythbglfjajifkoaa
open Go.RowKit Sy

def idxOut (l : List Pt) : Int := if l.any (fun p => !inP p) then (l.findIdx (fun p => !inP p) : Int) else -1
def validP (l : List Pt) : Bool := decide (2 ≤ l.length ∧ l.length ≤ 12) && l.all inP

theorem indexOut_c (l : List Pt) (ad : Option Addr) (c : Nat) (μ : Mem) (w : World) (hμ : Imm μ w) (hl : Sl μ ad c l) :
    Calls Try.prog 39 #[.slice ad l.length c, .func (.func 33) #[] #[]] w (RetS w (.int .i64 (idxOut l))) := by
  have hS := St.start w μ hμ
  have hlc : l.length ≤ 9223372036854775807 := by have := hl.1; have := hl.2.1; simp only [maxLen] at this; omega
  refine calls_start 19 [.slice ad l.length c, .func (.func 33) #[] #[]] Try.func39 rfl Try.ntmps39 rfl rfl ?_
  refine CW.seq fun K0 hK0 => ?_
  refine CW.region [0] rfl ?_
  refine LW.ex rfl rfl rfl rfl (Ex.assign rfl) hS.rd ?_
  refine LW.nil fun aa ha => hK0 _ _ _ ?_ aa ha
  refine CW.seq fun K1o hK1o => ?_
  refine CW.seq fun K1 hK1 => ?_
  refine CW.region [0, 1, 2] rfl ?_
  refine LW.ex rfl rfl rfl rfl (Ex.move rfl) hS.rd ?_
  refine LW.ex rfl rfl rfl rfl (Ex.lenSl rfl Try.underlying26 rfl) hS.rd ?_
  refine LW.ex rfl rfl rfl rfl (Ex.move rfl) hS.rd ?_
  refine LW.nil fun aa ha => hK1 _ _ _ ?_ aa ha
  refine CW.block ?_
  refine CW.loop (fun q m w1 => ∃ (i : Nat), i ≤ l.length ∧ q = l.length - i ∧ m = [(0, .slice ad l.length c), (1, .func (.func 33) #[] #[]), (7, .int .i64 l.length), (8, .int .i64 i)] ∧ St w w1 μ [] ∧ ∀ j (h : j < l.length), j < i → inP l[j] = true) l.length
    ⟨0, by omega, by omega, rfl, hS, fun j _ hj => by omega⟩ ⟨rfl, rfl, rfl, rfl, trivial⟩ ?_
  clear hS
  rintro q m w1 ⟨i, hi, hq, rfl, hS, hin⟩
  by_cases h1 : i < l.length
  · skip
    refine CW.seq fun K2 hK2 => ?_
    refine CW.region [0] rfl ?_
    refine LW.ex rfl rfl rfl rfl (Ex.lss rfl rfl (by first | exact decide_eq_true (by omega) | exact decide_eq_false (by omega) | rfl)) hS.rd ?_
    refine LW.nil fun aa ha => hK2 _ _ _ ?_ aa ha
    refine CW.seq fun Kc hKc => ?_
    refine CW.yes rfl ?_
    refine CW.skip fun aa ha => hKc _ _ _ ?_ aa ha
    obtain ⟨bl, ol, rfl, hx, hy⟩ := hl.at h1
    refine CW.seq fun Kb hKb => ?_
    refine CW.block ?_
    refine CW.seq fun K3 hK3 => ?_
    refine CW.region [0, 1] rfl ?_
    refine LW.ex rfl rfl rfl rfl (Ex.move rfl) hS.rd ?_
    refine LW.ex rfl rfl rfl rfl (Ex.assign rfl) hS.rd ?_
    refine LW.nil fun aa ha => hK3 _ _ _ ?_ aa ha
    refine CW.seq fun K4 hK4 => ?_
    refine CW.region [0, 1, 2, 3, 4, 5] rfl ?_
    refine LW.ex rfl rfl rfl rfl (Ex.move rfl) hS.rd ?_
    refine LW.ex rfl rfl rfl rfl (Ex.move rfl) hS.rd ?_
    refine LW.ex rfl rfl rfl rfl (Ex.move rfl) hS.rd ?_
    refine LW.ex rfl rfl rfl rfl (Ex.indexSl Try.underlying26 ti46 rfl rfl rfl (by omega)) hS.rd ?_
    refine LW.ex rfl rfl rfl rfl (Ex.load2c ti46 rfl rfl (by first | exact Rd.obj (k := 0) rfl rfl | exact Rd.obj (k := 1) rfl rfl | exact Rd.obj (k := 2) rfl rfl | exact Rd.obj (k := 3) rfl rfl | exact Rd.obj (k := 4) rfl rfl | exact Rd.imm (by assumption) | exact Rd.sl (k := 0) rfl (by assumption) | exact Rd.sl (k := 1) rfl (by assumption) | exact Rd.sl (k := 2) rfl (by assumption) | exact Rd.sl (k := 3) rfl (by assumption)) (by first | exact Rd.obj (k := 0) rfl rfl | exact Rd.obj (k := 1) rfl rfl | exact Rd.obj (k := 2) rfl rfl | exact Rd.obj (k := 3) rfl rfl | exact Rd.obj (k := 4) rfl rfl | exact Rd.imm (by assumption) | exact Rd.sl (k := 0) rfl (by assumption) | exact Rd.sl (k := 1) rfl (by assumption) | exact Rd.sl (k := 2) rfl (by assumption) | exact Rd.sl (k := 3) rfl (by assumption))) hS.rd ?_
    refine LW.hv rfl rfl rfl rfl (Hv.callS hS rfl rfl rfl cb33 (out_c _ _)) fun v w16 ⟨hv, hS⟩ => ?_
    subst hv
    refine LW.nil fun aa ha => hK4 _ _ _ ?_ aa ha
    by_cases hb : inP l[i] = true
    · refine CW.no (by rw [hb]; rfl) ?_
      refine CW.skip fun aa ha => hKb _ _ _ ?_ aa ha
      refine CW.region [0, 1] rfl ?_
      refine LW.ex rfl rfl rfl rfl (Ex.add rfl rfl (by first | exact inc64 (by omega) | exact addN (by omega) | exact w64 (by omega) (by omega))) hS.rd ?_
      refine LW.ex rfl rfl rfl rfl (Ex.move rfl) hS.rd ?_
      refine LW.nil fun aa ha => ?_
      refine ⟨l.length - (i + 1), _, by omega, ⟨i + 1, by omega, rfl, rfl, hS, fun j hj hji => ?_⟩, ha.sub ⟨rfl, rfl, rfl, rfl, trivial⟩⟩
      by_cases hji : j = i
      · subst hji; exact hb
      · exact hin j hj (by omega)
    · have hb : inP l[i] = false := by simpa using hb
      refine CW.yes (by rw [hb]; rfl) ?_
      refine CW.seq fun K5 hK5 => ?_
      refine CW.region [0, 1] rfl ?_
      refine LW.ex rfl rfl rfl rfl (Ex.move rfl) hS.rd ?_
      refine LW.ex rfl rfl rfl rfl (Ex.assign rfl) hS.rd ?_
      refine LW.nil fun aa ha => hK5 _ _ _ ?_ aa ha
      refine CW.ret fun aa ha => ?_
      refine ret_one ha Try.results39 rfl ?_
      have e : idxOut l = i := by
        have h2 : l.any (fun p => !inP p) = true := List.any_eq_true.2 ⟨l[i], List.getElem_mem h1, by simp [hb]⟩
        have h3 : l.findIdx (fun p => !inP p) = i := (List.findIdx_eq h1).2 ⟨by simp [hb], fun j hj => by simp [hin j (by omega) hj]⟩
        simp [idxOut, h2, h3]
      rw [e]; exact hS.retS
  · skip
    refine CW.seq fun K2 hK2 => ?_
    refine CW.region [0] rfl ?_
    refine LW.ex rfl rfl rfl rfl (Ex.lss rfl rfl (by first | exact decide_eq_true (by omega) | exact decide_eq_false (by omega) | rfl)) hS.rd ?_
    refine LW.nil fun aa ha => hK2 _ _ _ ?_ aa ha
    refine CW.seq fun Kc hKc => ?_
    refine CW.no rfl ?_
    refine CW.exit fun aa ha => hK1o _ _ _ ?_ aa ha
    refine CW.seq fun K7 hK7 => ?_
    refine CW.region [0] rfl ?_
    refine LW.ex rfl rfl rfl rfl (Ex.assign rfl) hS.rd ?_
    refine LW.nil fun aa ha => hK7 _ _ _ ?_ aa ha
    refine CW.ret fun aa ha => ?_
    refine ret_one ha Try.results39 rfl ?_
    have e : idxOut l = -1 := by
      have h2 : l.any (fun p => !inP p) = false := List.any_eq_false.2 fun p hp => by
        obtain ⟨j, hj, rfl⟩ := List.getElem_of_mem hp
        simp [hin j hj (by omega)]
      simp [idxOut, h2]
    rw [e]; exact hS.retS

theorem idxOut_pos (l : List Pt) : decide (0 ≤ idxOut l) = l.any (fun p => !inP p) := by
  unfold idxOut
  cases l.any (fun p => !inP p) <;> simp

theorem containsOut_c (l : List Pt) (ad : Option Addr) (c : Nat) (μ : Mem) (w : World) (hμ : Imm μ w) (hl : Sl μ ad c l) :
    Calls Try.prog 32 #[.slice ad l.length c, .func (.func 33) #[] #[]] w (RetS w (.bool (l.any fun p => !inP p))) := by
  have hS := St.start w μ hμ
  refine calls_start 9 [.slice ad l.length c, .func (.func 33) #[] #[]] Try.func32 rfl Try.ntmps32 rfl rfl ?_
  refine CW.seq fun K0 hK0 => ?_
  refine CW.region [0] rfl ?_
  refine LW.ex rfl rfl rfl rfl (Ex.assign rfl) hS.rd ?_
  refine LW.nil fun aa ha => hK0 _ _ _ ?_ aa ha
  refine CW.seq fun K1 hK1 => ?_
  refine CW.region [0, 1, 2, 3, 4] rfl ?_
  refine LW.ex rfl rfl rfl rfl (Ex.move rfl) hS.rd ?_
  refine LW.ex rfl rfl rfl rfl (Ex.move rfl) hS.rd ?_
  refine LW.hv rfl rfl rfl rfl (Hv.callS hS rfl rfl rfl cb39 (indexOut_c l _ _ μ _ hS.imm hl)) fun v w7 ⟨hv, hS⟩ => ?_
  subst hv
  refine LW.ex rfl rfl rfl rfl (Ex.geq rfl rfl (by first | exact decide_eq_true (by omega) | exact decide_eq_false (by omega) | rfl)) hS.rd ?_
  refine LW.ex rfl rfl rfl rfl (Ex.assign rfl) hS.rd ?_
  refine LW.nil fun aa ha => hK1 _ _ _ ?_ aa ha
  refine CW.ret fun aa ha => ?_
  refine ret_one ha Try.results32 rfl ?_
  rw [idxOut_pos]; exact hS.retS

theorem all_any (l : List Pt) : (!l.any fun p => !inP p) = l.all inP := by
  induction l with
  | nil => rfl
  | cons x r ih => simp only [List.any_cons, List.all_cons, Bool.not_or, Bool.not_not, ih]

theorem valid_c (l : List Pt) (ad : Option Addr) (c : Nat) (μ : Mem) (w : World) (hμ : Imm μ w) (hl : Sl μ ad c l) :
    Calls Try.prog 19 #[.slice ad l.length c] w (RetS w (.bool (validP l))) := by
  have hS := St.start w μ hμ
  refine calls_start 16 [.slice ad l.length c] Try.func19 rfl Try.ntmps19 rfl rfl ?_
  refine CW.seq fun K0 hK0 => ?_
  refine CW.region [0] rfl ?_
  refine LW.ex rfl rfl rfl rfl (Ex.assign rfl) hS.rd ?_
  refine LW.nil fun aa ha => hK0 _ _ _ ?_ aa ha
  by_cases h1 : 2 ≤ l.length
  · by_cases h2 : l.length ≤ 12
    · skip
      refine CW.seq fun K1 hK1 => ?_
      refine CW.region [0, 1, 2, 3, 4, 5, 6, 7, 8, 9, 10, 11, 12, 13] rfl ?_
      refine LW.ex rfl rfl rfl rfl (Ex.move rfl) hS.rd ?_
      refine LW.ex rfl rfl rfl rfl (Ex.lenSl rfl Try.underlying26 rfl) hS.rd ?_
      refine LW.ex rfl rfl rfl rfl (Ex.leq rfl rfl (by first | exact decide_eq_true (by omega) | exact decide_eq_false (by omega) | rfl)) hS.rd ?_
      refine LW.ex rfl rfl rfl rfl (Ex.move rfl) hS.rd ?_
      refine LW.ex rfl rfl rfl rfl (Ex.move rfl) hS.rd ?_
      refine LW.ex rfl rfl rfl rfl (Ex.lenSl rfl Try.underlying26 rfl) hS.rd ?_
      refine LW.ex rfl rfl rfl rfl (Ex.leq rfl rfl (by first | exact decide_eq_true (by omega) | exact decide_eq_false (by omega) | rfl)) hS.rd ?_
      refine LW.ex rfl rfl rfl rfl (by first | exact Ex.pick_yes rfl rfl | exact Ex.pick_no rfl rfl) hS.rd ?_
      refine LW.ex rfl rfl rfl rfl (Ex.move rfl) hS.rd ?_
      refine LW.ex rfl rfl rfl rfl (Ex.move rfl) hS.rd ?_
      refine LW.hv rfl rfl rfl rfl (Hv.callS hS rfl rfl rfl cb32 (containsOut_c l _ _ μ _ hS.imm hl)) fun v w13 ⟨hv, hS⟩ => ?_
      subst hv
      refine LW.ex rfl rfl rfl rfl (Ex.not rfl rfl) hS.rd ?_
      refine LW.ex rfl rfl rfl rfl (by first | exact Ex.pick_yes rfl rfl | exact Ex.pick_no rfl rfl) hS.rd ?_
      refine LW.ex rfl rfl rfl rfl (Ex.assign rfl) hS.rd ?_
      refine LW.nil fun aa ha => hK1 _ _ _ ?_ aa ha
      refine CW.ret fun aa ha => ?_
      refine ret_one ha Try.results19 rfl ?_
      rw [all_any]
      have : validP l = l.all inP := by simp [validP, h1, h2]
      rw [this]; exact hS.retS
    · skip
      refine CW.seq fun K1 hK1 => ?_
      refine CW.region [0, 1, 2, 3, 4, 5, 6, 7, 8, 9, 10, 11, 12, 13] rfl ?_
      refine LW.ex rfl rfl rfl rfl (Ex.move rfl) hS.rd ?_
      refine LW.ex rfl rfl rfl rfl (Ex.lenSl rfl Try.underlying26 rfl) hS.rd ?_
      refine LW.ex rfl rfl rfl rfl (Ex.leq rfl rfl (by first | exact decide_eq_true (by omega) | exact decide_eq_false (by omega) | rfl)) hS.rd ?_
      refine LW.ex rfl rfl rfl rfl (Ex.move rfl) hS.rd ?_
      refine LW.ex rfl rfl rfl rfl (Ex.move rfl) hS.rd ?_
      refine LW.ex rfl rfl rfl rfl (Ex.lenSl rfl Try.underlying26 rfl) hS.rd ?_
      refine LW.ex rfl rfl rfl rfl (Ex.leq rfl rfl (by first | exact decide_eq_true (by omega) | exact decide_eq_false (by omega) | rfl)) hS.rd ?_
      refine LW.ex rfl rfl rfl rfl (by first | exact Ex.pick_yes rfl rfl | exact Ex.pick_no rfl rfl) hS.rd ?_
      refine LW.ex rfl rfl rfl rfl (Ex.move rfl) hS.rd ?_
      refine LW.skip rfl rfl rfl rfl ?_
      refine LW.skip rfl rfl rfl rfl ?_
      refine LW.skip rfl rfl rfl rfl ?_
      refine LW.ex rfl rfl rfl rfl (by first | exact Ex.pick_yes rfl rfl | exact Ex.pick_no rfl rfl) hS.rd ?_
      refine LW.ex rfl rfl rfl rfl (Ex.assign rfl) hS.rd ?_
      refine LW.nil fun aa ha => hK1 _ _ _ ?_ aa ha
      refine CW.ret fun aa ha => ?_
      refine ret_one ha Try.results19 rfl ?_
      have : validP l = false := by simp [validP, h2]
      rw [this]; exact hS.retS
  · skip
    refine CW.seq fun K1 hK1 => ?_
    refine CW.region [0, 1, 2, 3, 4, 5, 6, 7, 8, 9, 10, 11, 12, 13] rfl ?_
    refine LW.ex rfl rfl rfl rfl (Ex.move rfl) hS.rd ?_
    refine LW.ex rfl rfl rfl rfl (Ex.lenSl rfl Try.underlying26 rfl) hS.rd ?_
    refine LW.ex rfl rfl rfl rfl (Ex.leq rfl rfl (by first | exact decide_eq_true (by omega) | exact decide_eq_false (by omega) | rfl)) hS.rd ?_
    refine LW.ex rfl rfl rfl rfl (Ex.move rfl) hS.rd ?_
    refine LW.skip rfl rfl rfl rfl ?_
    refine LW.skip rfl rfl rfl rfl ?_
    refine LW.skip rfl rfl rfl rfl ?_
    refine LW.ex rfl rfl rfl rfl (by first | exact Ex.pick_yes rfl rfl | exact Ex.pick_no rfl rfl) hS.rd ?_
    refine LW.ex rfl rfl rfl rfl (Ex.move rfl) hS.rd ?_
    refine LW.skip rfl rfl rfl rfl ?_
    refine LW.skip rfl rfl rfl rfl ?_
    refine LW.skip rfl rfl rfl rfl ?_
    refine LW.ex rfl rfl rfl rfl (by first | exact Ex.pick_yes rfl rfl | exact Ex.pick_no rfl rfl) hS.rd ?_
    refine LW.ex rfl rfl rfl rfl (Ex.assign rfl) hS.rd ?_
    refine LW.nil fun aa ha => hK1 _ _ _ ?_ aa ha
    refine CW.ret fun aa ha => ?_
    refine ret_one ha Try.results19 rfl ?_
    have : validP l = false := by simp [validP, h1]
    rw [this]; exact hS.retS

theorem refvalid_c (l : List Pt) (ad : Option Addr) (c : Nat) (μ : Mem) (w : World) (hμ : Imm μ w) (hl : Sl μ ad c l) :
    Calls Try.prog 18 #[.slice ad l.length c] w (RetS w (.bool (validP l))) := by
  have hS := St.start w μ hμ
  have hlc : l.length ≤ 9223372036854775807 := by have := hl.1; have := hl.2.1; simp only [maxLen] at this; omega
  refine calls_start 48 [.slice ad l.length c] Try.func18 rfl Try.ntmps18 rfl rfl ?_
  refine CW.seq fun K0 hK0 => ?_
  refine CW.region [0] rfl ?_
  refine LW.ex rfl rfl rfl rfl (Ex.assign rfl) hS.rd ?_
  refine LW.nil fun aa ha => hK0 _ _ _ ?_ aa ha
  refine CW.seq fun K1o hK1o => ?_
  refine CW.seq fun K1 hK1 => ?_
  refine CW.region [0] rfl ?_
  refine LW.ex rfl rfl rfl rfl (Ex.assign rfl) hS.rd ?_
  refine LW.nil fun aa ha => hK1 _ _ _ ?_ aa ha
  refine CW.block ?_
  refine CW.loop (fun q m w1 => ∃ (i : Nat), i ≤ l.length ∧ q = l.length - i ∧ m = [(0, .slice ad l.length c), (3, .int .i64 i)] ∧ St w w1 μ [] ∧ ∀ j (h : j < l.length), j < i → inP l[j] = true) l.length
    ⟨0, by omega, by omega, rfl, hS, fun j _ hj => by omega⟩ ⟨rfl, rfl, trivial⟩ ?_
  clear hS
  rintro q m w1 ⟨i, hi, hq, rfl, hS, hin⟩
  by_cases h1 : i < l.length
  · skip
    refine CW.seq fun K2o hK2o => ?_
    refine CW.seq fun K2 hK2 => ?_
    refine CW.region [0, 1, 2, 3] rfl ?_
    refine LW.ex rfl rfl rfl rfl (Ex.move rfl) hS.rd ?_
    refine LW.ex rfl rfl rfl rfl (Ex.move rfl) hS.rd ?_
    refine LW.ex rfl rfl rfl rfl (Ex.lenSl rfl Try.underlying26 rfl) hS.rd ?_
    refine LW.ex rfl rfl rfl rfl (Ex.lss rfl rfl (by first | exact decide_eq_true (by omega) | exact decide_eq_false (by omega) | rfl)) hS.rd ?_
    refine LW.nil fun aa ha => hK2 _ _ _ ?_ aa ha
    refine CW.yes rfl ?_
    refine CW.skip fun aa ha => hK2o _ _ _ ?_ aa ha
    obtain ⟨bl, ol, rfl, hx, hy⟩ := hl.at h1
    refine CW.seq fun Kb hKb => ?_
    refine CW.block ?_
    by_cases c1 : l[i].X < 0
    · skip
      refine CW.seq fun K4 hK4 => ?_
      refine CW.region [0, 1, 2, 3, 4, 5, 6, 7, 8, 9, 10, 11, 12, 13, 14, 15, 16, 17, 18, 19, 20, 21, 22, 23, 24, 25, 26, 27, 28, 29] rfl ?_
      refine LW.ex rfl rfl rfl rfl (Ex.move rfl) hS.rd ?_
      refine LW.ex rfl rfl rfl rfl (Ex.move rfl) hS.rd ?_
      refine LW.ex rfl rfl rfl rfl (Ex.indexSl Try.underlying26 ti46 rfl rfl rfl (by omega)) hS.rd ?_
      refine LW.ex rfl rfl rfl rfl (Ex.fieldA Try.underlying46 rfl ti3 rfl) hS.rd ?_
      refine LW.ex rfl rfl rfl rfl (Ex.load1 ti3 rfl rfl (by first | exact Rd.obj (k := 0) rfl rfl | exact Rd.obj (k := 1) rfl rfl | exact Rd.obj (k := 2) rfl rfl | exact Rd.obj (k := 3) rfl rfl | exact Rd.obj (k := 4) rfl rfl | exact Rd.imm (by assumption) | exact Rd.sl (k := 0) rfl (by assumption) | exact Rd.sl (k := 1) rfl (by assumption) | exact Rd.sl (k := 2) rfl (by assumption) | exact Rd.sl (k := 3) rfl (by assumption))) hS.rd ?_
      refine LW.ex rfl rfl rfl rfl (Ex.lss rfl rfl (by first | exact decide_eq_true (by omega) | exact decide_eq_false (by omega) | rfl)) hS.rd ?_
      refine LW.ex rfl rfl rfl rfl (Ex.move rfl) hS.rd ?_
      refine LW.skip rfl rfl rfl rfl ?_
      refine LW.skip rfl rfl rfl rfl ?_
      refine LW.skip rfl rfl rfl rfl ?_
      refine LW.skip rfl rfl rfl rfl ?_
      refine LW.skip rfl rfl rfl rfl ?_
      refine LW.skip rfl rfl rfl rfl ?_
      refine LW.ex rfl rfl rfl rfl (by first | exact Ex.pick_yes rfl rfl | exact Ex.pick_no rfl rfl) hS.rd ?_
      refine LW.ex rfl rfl rfl rfl (Ex.move rfl) hS.rd ?_
      refine LW.skip rfl rfl rfl rfl ?_
      refine LW.skip rfl rfl rfl rfl ?_
      refine LW.skip rfl rfl rfl rfl ?_
      refine LW.skip rfl rfl rfl rfl ?_
      refine LW.skip rfl rfl rfl rfl ?_
      refine LW.skip rfl rfl rfl rfl ?_
      refine LW.ex rfl rfl rfl rfl (by first | exact Ex.pick_yes rfl rfl | exact Ex.pick_no rfl rfl) hS.rd ?_
      refine LW.ex rfl rfl rfl rfl (Ex.move rfl) hS.rd ?_
      refine LW.skip rfl rfl rfl rfl ?_
      refine LW.skip rfl rfl rfl rfl ?_
      refine LW.skip rfl rfl rfl rfl ?_
      refine LW.skip rfl rfl rfl rfl ?_
      refine LW.skip rfl rfl rfl rfl ?_
      refine LW.skip rfl rfl rfl rfl ?_
      refine LW.ex rfl rfl rfl rfl (by first | exact Ex.pick_yes rfl rfl | exact Ex.pick_no rfl rfl) hS.rd ?_
      refine LW.nil fun aa ha => hK4 _ _ _ ?_ aa ha
      refine CW.yes rfl ?_
      refine CW.seq fun K5 hK5 => ?_
      refine CW.region [0] rfl ?_
      refine LW.ex rfl rfl rfl rfl (Ex.assign rfl) hS.rd ?_
      refine LW.nil fun aa ha => hK5 _ _ _ ?_ aa ha
      refine CW.ret fun aa ha => ?_
      refine ret_one ha Try.results18 rfl ?_
      have hb : inP l[i] = false := by simp only [inP]; rw [Bool.and_eq_false_iff, decide_eq_false_iff_not, decide_eq_false_iff_not]; omega
      have : validP l = false := by
        have h5 : l.all inP = false := List.all_eq_false.2 ⟨l[i], List.getElem_mem h1, by simp [hb]⟩
        simp [validP, h5]
      rw [this]; exact hS.retS
    by_cases c2 : l[i].X > 1000
    · skip
      refine CW.seq fun K4 hK4 => ?_
      refine CW.region [0, 1, 2, 3, 4, 5, 6, 7, 8, 9, 10, 11, 12, 13, 14, 15, 16, 17, 18, 19, 20, 21, 22, 23, 24, 25, 26, 27, 28, 29] rfl ?_
      refine LW.ex rfl rfl rfl rfl (Ex.move rfl) hS.rd ?_
      refine LW.ex rfl rfl rfl rfl (Ex.move rfl) hS.rd ?_
      refine LW.ex rfl rfl rfl rfl (Ex.indexSl Try.underlying26 ti46 rfl rfl rfl (by omega)) hS.rd ?_
      refine LW.ex rfl rfl rfl rfl (Ex.fieldA Try.underlying46 rfl ti3 rfl) hS.rd ?_
      refine LW.ex rfl rfl rfl rfl (Ex.load1 ti3 rfl rfl (by first | exact Rd.obj (k := 0) rfl rfl | exact Rd.obj (k := 1) rfl rfl | exact Rd.obj (k := 2) rfl rfl | exact Rd.obj (k := 3) rfl rfl | exact Rd.obj (k := 4) rfl rfl | exact Rd.imm (by assumption) | exact Rd.sl (k := 0) rfl (by assumption) | exact Rd.sl (k := 1) rfl (by assumption) | exact Rd.sl (k := 2) rfl (by assumption) | exact Rd.sl (k := 3) rfl (by assumption))) hS.rd ?_
      refine LW.ex rfl rfl rfl rfl (Ex.lss rfl rfl (by first | exact decide_eq_true (by omega) | exact decide_eq_false (by omega) | rfl)) hS.rd ?_
      refine LW.ex rfl rfl rfl rfl (Ex.move rfl) hS.rd ?_
      refine LW.ex rfl rfl rfl rfl (Ex.move rfl) hS.rd ?_
      refine LW.ex rfl rfl rfl rfl (Ex.move rfl) hS.rd ?_
      refine LW.ex rfl rfl rfl rfl (Ex.indexSl Try.underlying26 ti46 rfl rfl rfl (by omega)) hS.rd ?_
      refine LW.ex rfl rfl rfl rfl (Ex.fieldA Try.underlying46 rfl ti3 rfl) hS.rd ?_
      refine LW.ex rfl rfl rfl rfl (Ex.load1 ti3 rfl rfl (by first | exact Rd.obj (k := 0) rfl rfl | exact Rd.obj (k := 1) rfl rfl | exact Rd.obj (k := 2) rfl rfl | exact Rd.obj (k := 3) rfl rfl | exact Rd.obj (k := 4) rfl rfl | exact Rd.imm (by assumption) | exact Rd.sl (k := 0) rfl (by assumption) | exact Rd.sl (k := 1) rfl (by assumption) | exact Rd.sl (k := 2) rfl (by assumption) | exact Rd.sl (k := 3) rfl (by assumption))) hS.rd ?_
      refine LW.ex rfl rfl rfl rfl (Ex.gtr rfl rfl (by first | exact decide_eq_true (by omega) | exact decide_eq_false (by omega) | rfl)) hS.rd ?_
      refine LW.ex rfl rfl rfl rfl (by first | exact Ex.pick_yes rfl rfl | exact Ex.pick_no rfl rfl) hS.rd ?_
      refine LW.ex rfl rfl rfl rfl (Ex.move rfl) hS.rd ?_
      refine LW.skip rfl rfl rfl rfl ?_
      refine LW.skip rfl rfl rfl rfl ?_
      refine LW.skip rfl rfl rfl rfl ?_
      refine LW.skip rfl rfl rfl rfl ?_
      refine LW.skip rfl rfl rfl rfl ?_
      refine LW.skip rfl rfl rfl rfl ?_
      refine LW.ex rfl rfl rfl rfl (by first | exact Ex.pick_yes rfl rfl | exact Ex.pick_no rfl rfl) hS.rd ?_
      refine LW.ex rfl rfl rfl rfl (Ex.move rfl) hS.rd ?_
      refine LW.skip rfl rfl rfl rfl ?_
      refine LW.skip rfl rfl rfl rfl ?_
      refine LW.skip rfl rfl rfl rfl ?_
      refine LW.skip rfl rfl rfl rfl ?_
      refine LW.skip rfl rfl rfl rfl ?_
      refine LW.skip rfl rfl rfl rfl ?_
      refine LW.ex rfl rfl rfl rfl (by first | exact Ex.pick_yes rfl rfl | exact Ex.pick_no rfl rfl) hS.rd ?_
      refine LW.nil fun aa ha => hK4 _ _ _ ?_ aa ha
      refine CW.yes rfl ?_
      refine CW.seq fun K5 hK5 => ?_
      refine CW.region [0] rfl ?_
      refine LW.ex rfl rfl rfl rfl (Ex.assign rfl) hS.rd ?_
      refine LW.nil fun aa ha => hK5 _ _ _ ?_ aa ha
      refine CW.ret fun aa ha => ?_
      refine ret_one ha Try.results18 rfl ?_
      have hb : inP l[i] = false := by simp only [inP]; rw [Bool.and_eq_false_iff, decide_eq_false_iff_not, decide_eq_false_iff_not]; omega
      have : validP l = false := by
        have h5 : l.all inP = false := List.all_eq_false.2 ⟨l[i], List.getElem_mem h1, by simp [hb]⟩
        simp [validP, h5]
      rw [this]; exact hS.retS
    by_cases c3 : l[i].Y < 0
    · skip
      refine CW.seq fun K4 hK4 => ?_
      refine CW.region [0, 1, 2, 3, 4, 5, 6, 7, 8, 9, 10, 11, 12, 13, 14, 15, 16, 17, 18, 19, 20, 21, 22, 23, 24, 25, 26, 27, 28, 29] rfl ?_
      refine LW.ex rfl rfl rfl rfl (Ex.move rfl) hS.rd ?_
      refine LW.ex rfl rfl rfl rfl (Ex.move rfl) hS.rd ?_
      refine LW.ex rfl rfl rfl rfl (Ex.indexSl Try.underlying26 ti46 rfl rfl rfl (by omega)) hS.rd ?_
      refine LW.ex rfl rfl rfl rfl (Ex.fieldA Try.underlying46 rfl ti3 rfl) hS.rd ?_
      refine LW.ex rfl rfl rfl rfl (Ex.load1 ti3 rfl rfl (by first | exact Rd.obj (k := 0) rfl rfl | exact Rd.obj (k := 1) rfl rfl | exact Rd.obj (k := 2) rfl rfl | exact Rd.obj (k := 3) rfl rfl | exact Rd.obj (k := 4) rfl rfl | exact Rd.imm (by assumption) | exact Rd.sl (k := 0) rfl (by assumption) | exact Rd.sl (k := 1) rfl (by assumption) | exact Rd.sl (k := 2) rfl (by assumption) | exact Rd.sl (k := 3) rfl (by assumption))) hS.rd ?_
      refine LW.ex rfl rfl rfl rfl (Ex.lss rfl rfl (by first | exact decide_eq_true (by omega) | exact decide_eq_false (by omega) | rfl)) hS.rd ?_
      refine LW.ex rfl rfl rfl rfl (Ex.move rfl) hS.rd ?_
      refine LW.ex rfl rfl rfl rfl (Ex.move rfl) hS.rd ?_
      refine LW.ex rfl rfl rfl rfl (Ex.move rfl) hS.rd ?_
      refine LW.ex rfl rfl rfl rfl (Ex.indexSl Try.underlying26 ti46 rfl rfl rfl (by omega)) hS.rd ?_
      refine LW.ex rfl rfl rfl rfl (Ex.fieldA Try.underlying46 rfl ti3 rfl) hS.rd ?_
      refine LW.ex rfl rfl rfl rfl (Ex.load1 ti3 rfl rfl (by first | exact Rd.obj (k := 0) rfl rfl | exact Rd.obj (k := 1) rfl rfl | exact Rd.obj (k := 2) rfl rfl | exact Rd.obj (k := 3) rfl rfl | exact Rd.obj (k := 4) rfl rfl | exact Rd.imm (by assumption) | exact Rd.sl (k := 0) rfl (by assumption) | exact Rd.sl (k := 1) rfl (by assumption) | exact Rd.sl (k := 2) rfl (by assumption) | exact Rd.sl (k := 3) rfl (by assumption))) hS.rd ?_
      refine LW.ex rfl rfl rfl rfl (Ex.gtr rfl rfl (by first | exact decide_eq_true (by omega) | exact decide_eq_false (by omega) | rfl)) hS.rd ?_
      refine LW.ex rfl rfl rfl rfl (by first | exact Ex.pick_yes rfl rfl | exact Ex.pick_no rfl rfl) hS.rd ?_
      refine LW.ex rfl rfl rfl rfl (Ex.move rfl) hS.rd ?_
      refine LW.ex rfl rfl rfl rfl (Ex.move rfl) hS.rd ?_
      refine LW.ex rfl rfl rfl rfl (Ex.move rfl) hS.rd ?_
      refine LW.ex rfl rfl rfl rfl (Ex.indexSl Try.underlying26 ti46 rfl rfl rfl (by omega)) hS.rd ?_
      refine LW.ex rfl rfl rfl rfl (Ex.fieldA Try.underlying46 rfl ti3 rfl) hS.rd ?_
      refine LW.ex rfl rfl rfl rfl (Ex.load1 ti3 rfl rfl (by first | exact Rd.obj (k := 0) rfl rfl | exact Rd.obj (k := 1) rfl rfl | exact Rd.obj (k := 2) rfl rfl | exact Rd.obj (k := 3) rfl rfl | exact Rd.obj (k := 4) rfl rfl | exact Rd.imm (by assumption) | exact Rd.sl (k := 0) rfl (by assumption) | exact Rd.sl (k := 1) rfl (by assumption) | exact Rd.sl (k := 2) rfl (by assumption) | exact Rd.sl (k := 3) rfl (by assumption))) hS.rd ?_
      refine LW.ex rfl rfl rfl rfl (Ex.lss rfl rfl (by first | exact decide_eq_true (by omega) | exact decide_eq_false (by omega) | rfl)) hS.rd ?_
      refine LW.ex rfl rfl rfl rfl (by first | exact Ex.pick_yes rfl rfl | exact Ex.pick_no rfl rfl) hS.rd ?_
      refine LW.ex rfl rfl rfl rfl (Ex.move rfl) hS.rd ?_
      refine LW.skip rfl rfl rfl rfl ?_
      refine LW.skip rfl rfl rfl rfl ?_
      refine LW.skip rfl rfl rfl rfl ?_
      refine LW.skip rfl rfl rfl rfl ?_
      refine LW.skip rfl rfl rfl rfl ?_
      refine LW.skip rfl rfl rfl rfl ?_
      refine LW.ex rfl rfl rfl rfl (by first | exact Ex.pick_yes rfl rfl | exact Ex.pick_no rfl rfl) hS.rd ?_
      refine LW.nil fun aa ha => hK4 _ _ _ ?_ aa ha
      refine CW.yes rfl ?_
      refine CW.seq fun K5 hK5 => ?_
      refine CW.region [0] rfl ?_
      refine LW.ex rfl rfl rfl rfl (Ex.assign rfl) hS.rd ?_
      refine LW.nil fun aa ha => hK5 _ _ _ ?_ aa ha
      refine CW.ret fun aa ha => ?_
      refine ret_one ha Try.results18 rfl ?_
      have hb : inP l[i] = false := by simp only [inP]; rw [Bool.and_eq_false_iff, decide_eq_false_iff_not, decide_eq_false_iff_not]; omega
      have : validP l = false := by
        have h5 : l.all inP = false := List.all_eq_false.2 ⟨l[i], List.getElem_mem h1, by simp [hb]⟩
        simp [validP, h5]
      rw [this]; exact hS.retS
    by_cases c4 : l[i].Y > 1000
    · skip
      refine CW.seq fun K4 hK4 => ?_
      refine CW.region [0, 1, 2, 3, 4, 5, 6, 7, 8, 9, 10, 11, 12, 13, 14, 15, 16, 17, 18, 19, 20, 21, 22, 23, 24, 25, 26, 27, 28, 29] rfl ?_
      refine LW.ex rfl rfl rfl rfl (Ex.move rfl) hS.rd ?_
      refine LW.ex rfl rfl rfl rfl (Ex.move rfl) hS.rd ?_
      refine LW.ex rfl rfl rfl rfl (Ex.indexSl Try.underlying26 ti46 rfl rfl rfl (by omega)) hS.rd ?_
      refine LW.ex rfl rfl rfl rfl (Ex.fieldA Try.underlying46 rfl ti3 rfl) hS.rd ?_
      refine LW.ex rfl rfl rfl rfl (Ex.load1 ti3 rfl rfl (by first | exact Rd.obj (k := 0) rfl rfl | exact Rd.obj (k := 1) rfl rfl | exact Rd.obj (k := 2) rfl rfl | exact Rd.obj (k := 3) rfl rfl | exact Rd.obj (k := 4) rfl rfl | exact Rd.imm (by assumption) | exact Rd.sl (k := 0) rfl (by assumption) | exact Rd.sl (k := 1) rfl (by assumption) | exact Rd.sl (k := 2) rfl (by assumption) | exact Rd.sl (k := 3) rfl (by assumption))) hS.rd ?_
      refine LW.ex rfl rfl rfl rfl (Ex.lss rfl rfl (by first | exact decide_eq_true (by omega) | exact decide_eq_false (by omega) | rfl)) hS.rd ?_
      refine LW.ex rfl rfl rfl rfl (Ex.move rfl) hS.rd ?_
      refine LW.ex rfl rfl rfl rfl (Ex.move rfl) hS.rd ?_
      refine LW.ex rfl rfl rfl rfl (Ex.move rfl) hS.rd ?_
      refine LW.ex rfl rfl rfl rfl (Ex.indexSl Try.underlying26 ti46 rfl rfl rfl (by omega)) hS.rd ?_
      refine LW.ex rfl rfl rfl rfl (Ex.fieldA Try.underlying46 rfl ti3 rfl) hS.rd ?_
      refine LW.ex rfl rfl rfl rfl (Ex.load1 ti3 rfl rfl (by first | exact Rd.obj (k := 0) rfl rfl | exact Rd.obj (k := 1) rfl rfl | exact Rd.obj (k := 2) rfl rfl | exact Rd.obj (k := 3) rfl rfl | exact Rd.obj (k := 4) rfl rfl | exact Rd.imm (by assumption) | exact Rd.sl (k := 0) rfl (by assumption) | exact Rd.sl (k := 1) rfl (by assumption) | exact Rd.sl (k := 2) rfl (by assumption) | exact Rd.sl (k := 3) rfl (by assumption))) hS.rd ?_
      refine LW.ex rfl rfl rfl rfl (Ex.gtr rfl rfl (by first | exact decide_eq_true (by omega) | exact decide_eq_false (by omega) | rfl)) hS.rd ?_
      refine LW.ex rfl rfl rfl rfl (by first | exact Ex.pick_yes rfl rfl | exact Ex.pick_no rfl rfl) hS.rd ?_
      refine LW.ex rfl rfl rfl rfl (Ex.move rfl) hS.rd ?_
      refine LW.ex rfl rfl rfl rfl (Ex.move rfl) hS.rd ?_
      refine LW.ex rfl rfl rfl rfl (Ex.move rfl) hS.rd ?_
      refine LW.ex rfl rfl rfl rfl (Ex.indexSl Try.underlying26 ti46 rfl rfl rfl (by omega)) hS.rd ?_
      refine LW.ex rfl rfl rfl rfl (Ex.fieldA Try.underlying46 rfl ti3 rfl) hS.rd ?_
      refine LW.ex rfl rfl rfl rfl (Ex.load1 ti3 rfl rfl (by first | exact Rd.obj (k := 0) rfl rfl | exact Rd.obj (k := 1) rfl rfl | exact Rd.obj (k := 2) rfl rfl | exact Rd.obj (k := 3) rfl rfl | exact Rd.obj (k := 4) rfl rfl | exact Rd.imm (by assumption) | exact Rd.sl (k := 0) rfl (by assumption) | exact Rd.sl (k := 1) rfl (by assumption) | exact Rd.sl (k := 2) rfl (by assumption) | exact Rd.sl (k := 3) rfl (by assumption))) hS.rd ?_
      refine LW.ex rfl rfl rfl rfl (Ex.lss rfl rfl (by first | exact decide_eq_true (by omega) | exact decide_eq_false (by omega) | rfl)) hS.rd ?_
      refine LW.ex rfl rfl rfl rfl (by first | exact Ex.pick_yes rfl rfl | exact Ex.pick_no rfl rfl) hS.rd ?_
      refine LW.ex rfl rfl rfl rfl (Ex.move rfl) hS.rd ?_
      refine LW.ex rfl rfl rfl rfl (Ex.move rfl) hS.rd ?_
      refine LW.ex rfl rfl rfl rfl (Ex.move rfl) hS.rd ?_
      refine LW.ex rfl rfl rfl rfl (Ex.indexSl Try.underlying26 ti46 rfl rfl rfl (by omega)) hS.rd ?_
      refine LW.ex rfl rfl rfl rfl (Ex.fieldA Try.underlying46 rfl ti3 rfl) hS.rd ?_
      refine LW.ex rfl rfl rfl rfl (Ex.load1 ti3 rfl rfl (by first | exact Rd.obj (k := 0) rfl rfl | exact Rd.obj (k := 1) rfl rfl | exact Rd.obj (k := 2) rfl rfl | exact Rd.obj (k := 3) rfl rfl | exact Rd.obj (k := 4) rfl rfl | exact Rd.imm (by assumption) | exact Rd.sl (k := 0) rfl (by assumption) | exact Rd.sl (k := 1) rfl (by assumption) | exact Rd.sl (k := 2) rfl (by assumption) | exact Rd.sl (k := 3) rfl (by assumption))) hS.rd ?_
      refine LW.ex rfl rfl rfl rfl (Ex.gtr rfl rfl (by first | exact decide_eq_true (by omega) | exact decide_eq_false (by omega) | rfl)) hS.rd ?_
      refine LW.ex rfl rfl rfl rfl (by first | exact Ex.pick_yes rfl rfl | exact Ex.pick_no rfl rfl) hS.rd ?_
      refine LW.nil fun aa ha => hK4 _ _ _ ?_ aa ha
      refine CW.yes rfl ?_
      refine CW.seq fun K5 hK5 => ?_
      refine CW.region [0] rfl ?_
      refine LW.ex rfl rfl rfl rfl (Ex.assign rfl) hS.rd ?_
      refine LW.nil fun aa ha => hK5 _ _ _ ?_ aa ha
      refine CW.ret fun aa ha => ?_
      refine ret_one ha Try.results18 rfl ?_
      have hb : inP l[i] = false := by simp only [inP]; rw [Bool.and_eq_false_iff, decide_eq_false_iff_not, decide_eq_false_iff_not]; omega
      have : validP l = false := by
        have h5 : l.all inP = false := List.all_eq_false.2 ⟨l[i], List.getElem_mem h1, by simp [hb]⟩
        simp [validP, h5]
      rw [this]; exact hS.retS
    refine CW.seq fun K4 hK4 => ?_
    refine CW.region [0, 1, 2, 3, 4, 5, 6, 7, 8, 9, 10, 11, 12, 13, 14, 15, 16, 17, 18, 19, 20, 21, 22, 23, 24, 25, 26, 27, 28, 29] rfl ?_
    refine LW.ex rfl rfl rfl rfl (Ex.move rfl) hS.rd ?_
    refine LW.ex rfl rfl rfl rfl (Ex.move rfl) hS.rd ?_
    refine LW.ex rfl rfl rfl rfl (Ex.indexSl Try.underlying26 ti46 rfl rfl rfl (by omega)) hS.rd ?_
    refine LW.ex rfl rfl rfl rfl (Ex.fieldA Try.underlying46 rfl ti3 rfl) hS.rd ?_
    refine LW.ex rfl rfl rfl rfl (Ex.load1 ti3 rfl rfl (by first | exact Rd.obj (k := 0) rfl rfl | exact Rd.obj (k := 1) rfl rfl | exact Rd.obj (k := 2) rfl rfl | exact Rd.obj (k := 3) rfl rfl | exact Rd.obj (k := 4) rfl rfl | exact Rd.imm (by assumption) | exact Rd.sl (k := 0) rfl (by assumption) | exact Rd.sl (k := 1) rfl (by assumption) | exact Rd.sl (k := 2) rfl (by assumption) | exact Rd.sl (k := 3) rfl (by assumption))) hS.rd ?_
    refine LW.ex rfl rfl rfl rfl (Ex.lss rfl rfl (by first | exact decide_eq_true (by omega) | exact decide_eq_false (by omega) | rfl)) hS.rd ?_
    refine LW.ex rfl rfl rfl rfl (Ex.move rfl) hS.rd ?_
    refine LW.ex rfl rfl rfl rfl (Ex.move rfl) hS.rd ?_
    refine LW.ex rfl rfl rfl rfl (Ex.move rfl) hS.rd ?_
    refine LW.ex rfl rfl rfl rfl (Ex.indexSl Try.underlying26 ti46 rfl rfl rfl (by omega)) hS.rd ?_
    refine LW.ex rfl rfl rfl rfl (Ex.fieldA Try.underlying46 rfl ti3 rfl) hS.rd ?_
    refine LW.ex rfl rfl rfl rfl (Ex.load1 ti3 rfl rfl (by first | exact Rd.obj (k := 0) rfl rfl | exact Rd.obj (k := 1) rfl rfl | exact Rd.obj (k := 2) rfl rfl | exact Rd.obj (k := 3) rfl rfl | exact Rd.obj (k := 4) rfl rfl | exact Rd.imm (by assumption) | exact Rd.sl (k := 0) rfl (by assumption) | exact Rd.sl (k := 1) rfl (by assumption) | exact Rd.sl (k := 2) rfl (by assumption) | exact Rd.sl (k := 3) rfl (by assumption))) hS.rd ?_
    refine LW.ex rfl rfl rfl rfl (Ex.gtr rfl rfl (by first | exact decide_eq_true (by omega) | exact decide_eq_false (by omega) | rfl)) hS.rd ?_
    refine LW.ex rfl rfl rfl rfl (by first | exact Ex.pick_yes rfl rfl | exact Ex.pick_no rfl rfl) hS.rd ?_
    refine LW.ex rfl rfl rfl rfl (Ex.move rfl) hS.rd ?_
    refine LW.ex rfl rfl rfl rfl (Ex.move rfl) hS.rd ?_
    refine LW.ex rfl rfl rfl rfl (Ex.move rfl) hS.rd ?_
    refine LW.ex rfl rfl rfl rfl (Ex.indexSl Try.underlying26 ti46 rfl rfl rfl (by omega)) hS.rd ?_
    refine LW.ex rfl rfl rfl rfl (Ex.fieldA Try.underlying46 rfl ti3 rfl) hS.rd ?_
    refine LW.ex rfl rfl rfl rfl (Ex.load1 ti3 rfl rfl (by first | exact Rd.obj (k := 0) rfl rfl | exact Rd.obj (k := 1) rfl rfl | exact Rd.obj (k := 2) rfl rfl | exact Rd.obj (k := 3) rfl rfl | exact Rd.obj (k := 4) rfl rfl | exact Rd.imm (by assumption) | exact Rd.sl (k := 0) rfl (by assumption) | exact Rd.sl (k := 1) rfl (by assumption) | exact Rd.sl (k := 2) rfl (by assumption) | exact Rd.sl (k := 3) rfl (by assumption))) hS.rd ?_
    refine LW.ex rfl rfl rfl rfl (Ex.lss rfl rfl (by first | exact decide_eq_true (by omega) | exact decide_eq_false (by omega) | rfl)) hS.rd ?_
    refine LW.ex rfl rfl rfl rfl (by first | exact Ex.pick_yes rfl rfl | exact Ex.pick_no rfl rfl) hS.rd ?_
    refine LW.ex rfl rfl rfl rfl (Ex.move rfl) hS.rd ?_
    refine LW.ex rfl rfl rfl rfl (Ex.move rfl) hS.rd ?_
    refine LW.ex rfl rfl rfl rfl (Ex.move rfl) hS.rd ?_
    refine LW.ex rfl rfl rfl rfl (Ex.indexSl Try.underlying26 ti46 rfl rfl rfl (by omega)) hS.rd ?_
    refine LW.ex rfl rfl rfl rfl (Ex.fieldA Try.underlying46 rfl ti3 rfl) hS.rd ?_
    refine LW.ex rfl rfl rfl rfl (Ex.load1 ti3 rfl rfl (by first | exact Rd.obj (k := 0) rfl rfl | exact Rd.obj (k := 1) rfl rfl | exact Rd.obj (k := 2) rfl rfl | exact Rd.obj (k := 3) rfl rfl | exact Rd.obj (k := 4) rfl rfl | exact Rd.imm (by assumption) | exact Rd.sl (k := 0) rfl (by assumption) | exact Rd.sl (k := 1) rfl (by assumption) | exact Rd.sl (k := 2) rfl (by assumption) | exact Rd.sl (k := 3) rfl (by assumption))) hS.rd ?_
    refine LW.ex rfl rfl rfl rfl (Ex.gtr rfl rfl (by first | exact decide_eq_true (by omega) | exact decide_eq_false (by omega) | rfl)) hS.rd ?_
    refine LW.ex rfl rfl rfl rfl (by first | exact Ex.pick_yes rfl rfl | exact Ex.pick_no rfl rfl) hS.rd ?_
    refine LW.nil fun aa ha => hK4 _ _ _ ?_ aa ha
    refine CW.no rfl ?_
    refine CW.skip fun aa ha => hKb _ _ _ ?_ aa ha
    refine CW.region [0, 1, 2] rfl ?_
    refine LW.ex rfl rfl rfl rfl (Ex.move rfl) hS.rd ?_
    refine LW.ex rfl rfl rfl rfl (Ex.add rfl rfl (by first | exact inc64 (by omega) | exact addN (by omega) | exact w64 (by omega) (by omega))) hS.rd ?_
    refine LW.ex rfl rfl rfl rfl (Ex.assign rfl) hS.rd ?_
    refine LW.nil fun aa ha => ?_
    refine ⟨l.length - (i + 1), _, by omega, ⟨i + 1, by omega, rfl, rfl, hS, fun j hj hji => ?_⟩, ha.sub ⟨rfl, rfl, trivial⟩⟩
    by_cases hji : j = i
    · subst hji
      simp only [inP]; rw [decide_eq_true (by omega), decide_eq_true (by omega)]; rfl
    · exact hin j hj (by omega)
  · skip
    refine CW.seq fun K2o hK2o => ?_
    refine CW.seq fun K2 hK2 => ?_
    refine CW.region [0, 1, 2, 3] rfl ?_
    refine LW.ex rfl rfl rfl rfl (Ex.move rfl) hS.rd ?_
    refine LW.ex rfl rfl rfl rfl (Ex.move rfl) hS.rd ?_
    refine LW.ex rfl rfl rfl rfl (Ex.lenSl rfl Try.underlying26 rfl) hS.rd ?_
    refine LW.ex rfl rfl rfl rfl (Ex.lss rfl rfl (by first | exact decide_eq_true (by omega) | exact decide_eq_false (by omega) | rfl)) hS.rd ?_
    refine LW.nil fun aa ha => hK2 _ _ _ ?_ aa ha
    refine CW.no rfl ?_
    refine CW.exit fun aa ha => hK1o _ _ _ ?_ aa ha
    have hall : l.all inP = true := List.all_eq_true.2 fun p hp => by
      obtain ⟨j, hj, rfl⟩ := List.getElem_of_mem hp
      exact hin j hj (by omega)
    by_cases h2 : 2 ≤ l.length
    · skip
      refine CW.seq fun K6 hK6 => ?_
      refine CW.region [0, 1, 2, 3, 4, 5, 6, 7, 8] rfl ?_
      refine LW.ex rfl rfl rfl rfl (Ex.move rfl) hS.rd ?_
      refine LW.ex rfl rfl rfl rfl (Ex.lenSl rfl Try.underlying26 rfl) hS.rd ?_
      refine LW.ex rfl rfl rfl rfl (Ex.geq rfl rfl (by first | exact decide_eq_true (by omega) | exact decide_eq_false (by omega) | rfl)) hS.rd ?_
      refine LW.ex rfl rfl rfl rfl (Ex.move rfl) hS.rd ?_
      refine LW.ex rfl rfl rfl rfl (Ex.move rfl) hS.rd ?_
      refine LW.ex rfl rfl rfl rfl (Ex.lenSl rfl Try.underlying26 rfl) hS.rd ?_
      refine LW.ex rfl rfl rfl rfl (Ex.leq rfl rfl (by first | exact decide_eq_true (by omega) | exact decide_eq_false (by omega) | rfl)) hS.rd ?_
      refine LW.ex rfl rfl rfl rfl (by first | exact Ex.pick_yes rfl rfl | exact Ex.pick_no rfl rfl) hS.rd ?_
      refine LW.ex rfl rfl rfl rfl (Ex.assign rfl) hS.rd ?_
      refine LW.nil fun aa ha => hK6 _ _ _ ?_ aa ha
      refine CW.ret fun aa ha => ?_
      refine ret_one ha Try.results18 rfl ?_
      have : validP l = decide ((l.length : Int) ≤ 12) := by
        by_cases h3 : l.length ≤ 12 <;> simp [validP, hall, h2, h3] <;> omega
      rw [this]; exact hS.retS
    · skip
      refine CW.seq fun K6 hK6 => ?_
      refine CW.region [0, 1, 2, 3, 4, 5, 6, 7, 8] rfl ?_
      refine LW.ex rfl rfl rfl rfl (Ex.move rfl) hS.rd ?_
      refine LW.ex rfl rfl rfl rfl (Ex.lenSl rfl Try.underlying26 rfl) hS.rd ?_
      refine LW.ex rfl rfl rfl rfl (Ex.geq rfl rfl (by first | exact decide_eq_true (by omega) | exact decide_eq_false (by omega) | rfl)) hS.rd ?_
      refine LW.ex rfl rfl rfl rfl (Ex.move rfl) hS.rd ?_
      refine LW.skip rfl rfl rfl rfl ?_
      refine LW.skip rfl rfl rfl rfl ?_
      refine LW.skip rfl rfl rfl rfl ?_
      refine LW.ex rfl rfl rfl rfl (by first | exact Ex.pick_yes rfl rfl | exact Ex.pick_no rfl rfl) hS.rd ?_
      refine LW.ex rfl rfl rfl rfl (Ex.assign rfl) hS.rd ?_
      refine LW.nil fun aa ha => hK6 _ _ _ ?_ aa ha
      refine CW.ret fun aa ha => ?_
      refine ret_one ha Try.results18 rfl ?_
      have : validP l = false := by simp [validP, h2]
      rw [this]; exact hS.retS
end Go.Proofs.Ythbglfjajifkoaa
