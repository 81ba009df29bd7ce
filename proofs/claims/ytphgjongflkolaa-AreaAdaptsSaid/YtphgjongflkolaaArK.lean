/-
  Areas: the walks of rising and of Valid.
-/
import Derived.Test.YtphgjongflkolaaArJ
import Derived.Test.YtphgjongflkolaaStr
namespace Go.Proofs.Ytphgjongflkolaa
open Go.RowKit Sy

/-- Each is right, and comes behind the one before. -/
def rises {α : Type} (right : α → Bool) (lt : α → α → Bool) : Option α → List α → Bool
  | _, [] => true
  | none, x :: r => right x && rises right lt (some x) r
  | some p, x :: r => right x && lt p x && rises right lt (some x) r
def prevOf {α : Type} (l : List α) : Nat → Option α
  | 0 => none
  | i + 1 => l[i]?
theorem prevOf_succ {α : Type} (l : List α) (i : Nat) (h : i < l.length) : prevOf l (i + 1) = some l[i] := by simp [prevOf, h]
theorem rises_step {α : Type} (right : α → Bool) (lt : α → α → Bool) (l : List α) (i : Nat) (h : i < l.length) (hr : right l[i] = true) (hl : 0 < i → lt l[i - 1] l[i] = true) : rises right lt (prevOf l i) (l.drop i) = rises right lt (prevOf l (i + 1)) (l.drop (i + 1)) := by
  rw [List.drop_eq_getElem_cons h, prevOf_succ l i h]
  cases i with
  | zero => simp [prevOf, rises, hr]
  | succ k => have hk : k < l.length := by omega
              rw [prevOf_succ l k hk, rises, hr, show lt l[k] l[k + 1] = true from hl (by omega)]; simp
theorem rises_not {α : Type} (right : α → Bool) (lt : α → α → Bool) (l : List α) (i : Nat) (h : i < l.length) (hr : right l[i] = false) : rises right lt (prevOf l i) (l.drop i) = false := by
  rw [List.drop_eq_getElem_cons h]
  cases prevOf l i <;> simp [rises, hr]
theorem rises_not2 {α : Type} (right : α → Bool) (lt : α → α → Bool) (l : List α) (i : Nat) (h : i < l.length) (h0 : 0 < i) (hl : lt l[i - 1] l[i] = false) : rises right lt (prevOf l i) (l.drop i) = false := by
  rw [List.drop_eq_getElem_cons h]
  cases i with
  | zero => omega
  | succ k => have hk : k < l.length := by omega
              rw [prevOf_succ l k hk, rises, show lt l[k] l[k + 1] = false from hl]; simp

def keyLt (x y : UInt8) : Bool := decide (x.toNat < y.toNat)
theorem risingA_c (l : List Area) (ad : Option Addr) (c : Nat) (μ : Mem) (w : World) (hμ : Imm μ w) (hl : Sl μ ad c l)  :
    Calls Try.prog 46 #[.slice ad l.length c, .func (.func 47) #[] #[], .func (.func 48) #[] #[]] w (RetS w (.bool (rises okArea (fun x y => keyLt x.Key y.Key) none l && decide (l.length ≤ 26)))) := by
  have hll : l.length ≤ 9223372036854775807 := by have := hl.1; have := hl.2.1; simp only [maxLen] at this; omega
  have hS := St.start w μ hμ
  refine calls_start 41 [.slice ad l.length c, .func (.func 47) #[] #[], .func (.func 48) #[] #[]] Try.func46 rfl Try.ntmps46 rfl rfl ?_
  refine CW.seq fun K1 hK1 => ?_
  refine CW.region [0] rfl ?_
  refine LW.ex rfl rfl rfl rfl (Ex.assign rfl) hS.rd ?_
  refine LW.nil fun aa ha => hK1 _ _ _ ?_ aa ha
  refine CW.seq fun K2 hK2 => ?_
  refine CW.seq fun K3 hK3 => ?_
  refine CW.region [0, 1, 2] rfl ?_
  refine LW.ex rfl rfl rfl rfl (Ex.move rfl) hS.rd ?_
  refine LW.ex rfl rfl rfl rfl (Ex.lenSl rfl Try.underlying27 rfl) hS.rd ?_
  refine LW.ex rfl rfl rfl rfl (Ex.move rfl) hS.rd ?_
  refine LW.nil fun aa ha => hK3 _ _ _ ?_ aa ha
  refine CW.block ?_
  refine CW.loop (fun q m wl2 => ∃ (i : Nat), i ≤ l.length ∧ q = l.length - i ∧ m = [(0, .slice ad l.length c), (1, .func (.func 47) #[] #[]), (2, .func (.func 48) #[] #[]), (9, .slice ad l.length c), (10, .int .i64 ((l.length : Nat) : Int)), (11, .int .i64 i)] ∧ St w wl2 μ [] ∧ (rises okArea (fun x y => keyLt x.Key y.Key) none l = rises okArea (fun x y => keyLt x.Key y.Key) (prevOf l i) (l.drop i))) _ ⟨0, (by first | omega | (simp; done) | (simp; omega)), rfl, rfl, hS, rfl⟩ ⟨rfl, rfl, rfl, rfl, rfl, rfl, trivial⟩ ?_
  clear hS
  rintro q m wl2 ⟨i, hi, hq, rfl, hS, he⟩
  refine CW.seq fun K4 hK4 => ?_
  refine CW.region [0] rfl ?_
  refine LW.ex rfl rfl rfl rfl (Ex.lss rfl rfl rfl) hS.rd ?_
  refine LW.splitB (fun h2_0 => ?_) (fun h2_0 => ?_)
  · have h2_0 := of_decide_eq_true h2_0
    refine LW.nil fun aa ha => hK4 _ _ _ ?_ aa ha
    refine CW.seq fun K5 hK5 => ?_
    refine CW.yes rfl ?_
    refine CW.skip fun aa ha => hK5 _ _ _ ?_ aa ha
    refine CW.seq fun K6 hK6 => ?_
    refine CW.block ?_
    refine CW.seq fun K7 hK7 => ?_
    have h2_0 : i < l.length := by omega
    obtain ⟨bl, ol, rfl, k0, k1, k2, k3, k4⟩ := hl.at h2_0
    refine CW.region [0, 1, 2, 3, 4, 5] rfl ?_
    refine LW.ex rfl rfl rfl rfl (Ex.move rfl) hS.rd ?_
    refine LW.ex rfl rfl rfl rfl (Ex.indexSl Try.underlying27 ti57 rfl rfl rfl (by omega)) hS.rd ?_
    refine LW.ex rfl rfl rfl rfl (Ex.load5c ti57 rfl rfl (by first | exact Rd.obj (k := 0) rfl rfl | exact Rd.obj (k := 1) rfl rfl | exact Rd.obj (k := 2) rfl rfl | exact Rd.obj (k := 3) rfl rfl | exact Rd.obj (k := 4) rfl rfl | exact Rd.imm (by assumption) | exact Rd.sl (k := 0) rfl (by assumption) | exact Rd.sl (k := 1) rfl (by assumption) | exact Rd.sl (k := 2) rfl (by assumption) | exact Rd.sl (k := 3) rfl (by assumption)) (by first | exact Rd.obj (k := 0) rfl rfl | exact Rd.obj (k := 1) rfl rfl | exact Rd.obj (k := 2) rfl rfl | exact Rd.obj (k := 3) rfl rfl | exact Rd.obj (k := 4) rfl rfl | exact Rd.imm (by assumption) | exact Rd.sl (k := 0) rfl (by assumption) | exact Rd.sl (k := 1) rfl (by assumption) | exact Rd.sl (k := 2) rfl (by assumption) | exact Rd.sl (k := 3) rfl (by assumption)) (by first | exact Rd.obj (k := 0) rfl rfl | exact Rd.obj (k := 1) rfl rfl | exact Rd.obj (k := 2) rfl rfl | exact Rd.obj (k := 3) rfl rfl | exact Rd.obj (k := 4) rfl rfl | exact Rd.imm (by assumption) | exact Rd.sl (k := 0) rfl (by assumption) | exact Rd.sl (k := 1) rfl (by assumption) | exact Rd.sl (k := 2) rfl (by assumption) | exact Rd.sl (k := 3) rfl (by assumption)) (by first | exact Rd.obj (k := 0) rfl rfl | exact Rd.obj (k := 1) rfl rfl | exact Rd.obj (k := 2) rfl rfl | exact Rd.obj (k := 3) rfl rfl | exact Rd.obj (k := 4) rfl rfl | exact Rd.imm (by assumption) | exact Rd.sl (k := 0) rfl (by assumption) | exact Rd.sl (k := 1) rfl (by assumption) | exact Rd.sl (k := 2) rfl (by assumption) | exact Rd.sl (k := 3) rfl (by assumption)) (by first | exact Rd.obj (k := 0) rfl rfl | exact Rd.obj (k := 1) rfl rfl | exact Rd.obj (k := 2) rfl rfl | exact Rd.obj (k := 3) rfl rfl | exact Rd.obj (k := 4) rfl rfl | exact Rd.imm (by assumption) | exact Rd.sl (k := 0) rfl (by assumption) | exact Rd.sl (k := 1) rfl (by assumption) | exact Rd.sl (k := 2) rfl (by assumption) | exact Rd.sl (k := 3) rfl (by assumption))) hS.rd ?_
    refine LW.hv rfl rfl rfl rfl (Hv.alloc ti57 hS) fun v w8 ⟨b8, hv, hb8, hS⟩ => ?_
    subst hv
    refine LW.ex rfl rfl rfl rfl (Ex.assign rfl) hS.rd ?_
    refine LW.hu rfl rfl rfl (Hv.storeN (k := 0) ti57 hS rfl rfl rfl rfl (by simp [Value.oneCell'])) fun _ w_5 hS => ?_
    dsimp only [List.set] at hS
    refine LW.nil fun aa ha => hK7 _ _ _ ?_ aa ha
    refine CW.seq fun K8 hK8 => ?_
    have hnn : i - 1 < l.length := by omega
    have hS := hS.drew
    refine CW.draw 21 (.ex 0 <| .ex 1 <| .one 2 <| .ex 3 <| .ex 4 <| .ex 5 <| .ex 6 <| .ex 7 <| .ex 8 <| .ex 9 <| .ex 11 <| .ex 12 <| .ex 13 <| .ex 14 <| .ex 15 <| .ex 16 <| .one 10 <| .one 17 <| .ex 18 <| .ex 19 <| .ex 20 <| .done) [] (Rd _ _) mixed (by kernel_rfl) rfl rfl hS.rd ?_
    refine PW.ex rfl rfl rfl rfl (Ex.move rfl) ?_
    refine PW.ex rfl rfl rfl rfl (Ex.load5c ti57 rfl rfl (by first | exact Rd.obj (k := 0) rfl rfl | exact Rd.obj (k := 1) rfl rfl | exact Rd.obj (k := 2) rfl rfl | exact Rd.obj (k := 3) rfl rfl | exact Rd.obj (k := 4) rfl rfl | exact Rd.imm (by assumption) | exact Rd.sl (k := 0) rfl (by assumption) | exact Rd.sl (k := 1) rfl (by assumption) | exact Rd.sl (k := 2) rfl (by assumption) | exact Rd.sl (k := 3) rfl (by assumption)) (by first | exact Rd.obj (k := 0) rfl rfl | exact Rd.obj (k := 1) rfl rfl | exact Rd.obj (k := 2) rfl rfl | exact Rd.obj (k := 3) rfl rfl | exact Rd.obj (k := 4) rfl rfl | exact Rd.imm (by assumption) | exact Rd.sl (k := 0) rfl (by assumption) | exact Rd.sl (k := 1) rfl (by assumption) | exact Rd.sl (k := 2) rfl (by assumption) | exact Rd.sl (k := 3) rfl (by assumption)) (by first | exact Rd.obj (k := 0) rfl rfl | exact Rd.obj (k := 1) rfl rfl | exact Rd.obj (k := 2) rfl rfl | exact Rd.obj (k := 3) rfl rfl | exact Rd.obj (k := 4) rfl rfl | exact Rd.imm (by assumption) | exact Rd.sl (k := 0) rfl (by assumption) | exact Rd.sl (k := 1) rfl (by assumption) | exact Rd.sl (k := 2) rfl (by assumption) | exact Rd.sl (k := 3) rfl (by assumption)) (by first | exact Rd.obj (k := 0) rfl rfl | exact Rd.obj (k := 1) rfl rfl | exact Rd.obj (k := 2) rfl rfl | exact Rd.obj (k := 3) rfl rfl | exact Rd.obj (k := 4) rfl rfl | exact Rd.imm (by assumption) | exact Rd.sl (k := 0) rfl (by assumption) | exact Rd.sl (k := 1) rfl (by assumption) | exact Rd.sl (k := 2) rfl (by assumption) | exact Rd.sl (k := 3) rfl (by assumption)) (by first | exact Rd.obj (k := 0) rfl rfl | exact Rd.obj (k := 1) rfl rfl | exact Rd.obj (k := 2) rfl rfl | exact Rd.obj (k := 3) rfl rfl | exact Rd.obj (k := 4) rfl rfl | exact Rd.imm (by assumption) | exact Rd.sl (k := 0) rfl (by assumption) | exact Rd.sl (k := 1) rfl (by assumption) | exact Rd.sl (k := 2) rfl (by assumption) | exact Rd.sl (k := 3) rfl (by assumption))) ?_
    refine PW.hv rfl rfl rfl rfl (Hv.callS hS rfl rfl rfl cb48 (valid2_c l[i] _)) (fun _ _ h => h.2.rd) fun v w18 ⟨hv, hS⟩ => ?_
    subst hv
    refine PW.splitB (fun h4_2 => ?_) (fun h4_2 => ?_)
    · skip
      refine PW.ex rfl rfl rfl rfl (Ex.not rfl rfl) ?_
      refine PW.ex rfl rfl rfl rfl (Ex.move rfl) ?_
      refine PW.ex rfl rfl rfl rfl (Ex.move rfl) ?_
      refine PW.ex rfl rfl rfl rfl (Ex.gtr rfl rfl rfl) ?_
      refine PW.splitB (fun h4_6 => ?_) (fun h4_6 => ?_)
      · have h4_6 := of_decide_eq_true h4_6
        obtain ⟨bl', ol', e', j0, j1, j2, j3, j4⟩ := hl.at hnn
        cases e'
        refine PW.ex rfl rfl rfl rfl (Ex.move rfl) ?_
        refine PW.ex rfl rfl rfl rfl (Ex.move rfl) ?_
        refine PW.ex rfl rfl rfl rfl (Ex.load5c ti57 rfl rfl (by first | exact Rd.obj (k := 0) rfl rfl | exact Rd.obj (k := 1) rfl rfl | exact Rd.obj (k := 2) rfl rfl | exact Rd.obj (k := 3) rfl rfl | exact Rd.obj (k := 4) rfl rfl | exact Rd.imm (by assumption) | exact Rd.sl (k := 0) rfl (by assumption) | exact Rd.sl (k := 1) rfl (by assumption) | exact Rd.sl (k := 2) rfl (by assumption) | exact Rd.sl (k := 3) rfl (by assumption)) (by first | exact Rd.obj (k := 0) rfl rfl | exact Rd.obj (k := 1) rfl rfl | exact Rd.obj (k := 2) rfl rfl | exact Rd.obj (k := 3) rfl rfl | exact Rd.obj (k := 4) rfl rfl | exact Rd.imm (by assumption) | exact Rd.sl (k := 0) rfl (by assumption) | exact Rd.sl (k := 1) rfl (by assumption) | exact Rd.sl (k := 2) rfl (by assumption) | exact Rd.sl (k := 3) rfl (by assumption)) (by first | exact Rd.obj (k := 0) rfl rfl | exact Rd.obj (k := 1) rfl rfl | exact Rd.obj (k := 2) rfl rfl | exact Rd.obj (k := 3) rfl rfl | exact Rd.obj (k := 4) rfl rfl | exact Rd.imm (by assumption) | exact Rd.sl (k := 0) rfl (by assumption) | exact Rd.sl (k := 1) rfl (by assumption) | exact Rd.sl (k := 2) rfl (by assumption) | exact Rd.sl (k := 3) rfl (by assumption)) (by first | exact Rd.obj (k := 0) rfl rfl | exact Rd.obj (k := 1) rfl rfl | exact Rd.obj (k := 2) rfl rfl | exact Rd.obj (k := 3) rfl rfl | exact Rd.obj (k := 4) rfl rfl | exact Rd.imm (by assumption) | exact Rd.sl (k := 0) rfl (by assumption) | exact Rd.sl (k := 1) rfl (by assumption) | exact Rd.sl (k := 2) rfl (by assumption) | exact Rd.sl (k := 3) rfl (by assumption)) (by first | exact Rd.obj (k := 0) rfl rfl | exact Rd.obj (k := 1) rfl rfl | exact Rd.obj (k := 2) rfl rfl | exact Rd.obj (k := 3) rfl rfl | exact Rd.obj (k := 4) rfl rfl | exact Rd.imm (by assumption) | exact Rd.sl (k := 0) rfl (by assumption) | exact Rd.sl (k := 1) rfl (by assumption) | exact Rd.sl (k := 2) rfl (by assumption) | exact Rd.sl (k := 3) rfl (by assumption))) ?_
        refine PW.ex rfl rfl rfl rfl (Ex.move rfl) ?_
        refine PW.ex rfl rfl rfl rfl (Ex.move rfl) ?_
        refine PW.ex rfl rfl rfl rfl (Ex.move rfl) ?_
        refine PW.ex rfl rfl rfl rfl (Ex.sub rfl rfl (by first | exact dec64 (by omega) (by omega) | exact subN (by omega) (by omega) | exact w64 (by omega) (by omega))) ?_
        refine PW.ex rfl rfl rfl rfl (Ex.indexSl Try.underlying27 ti57 rfl rfl rfl (by omega)) ?_
        refine PW.ex rfl rfl rfl rfl (Ex.load5c ti57 rfl rfl (by first | exact Rd.obj (k := 0) rfl rfl | exact Rd.obj (k := 1) rfl rfl | exact Rd.obj (k := 2) rfl rfl | exact Rd.obj (k := 3) rfl rfl | exact Rd.obj (k := 4) rfl rfl | exact Rd.imm (by assumption) | exact Rd.sl (k := 0) rfl (by assumption) | exact Rd.sl (k := 1) rfl (by assumption) | exact Rd.sl (k := 2) rfl (by assumption) | exact Rd.sl (k := 3) rfl (by assumption)) (by first | exact Rd.obj (k := 0) rfl rfl | exact Rd.obj (k := 1) rfl rfl | exact Rd.obj (k := 2) rfl rfl | exact Rd.obj (k := 3) rfl rfl | exact Rd.obj (k := 4) rfl rfl | exact Rd.imm (by assumption) | exact Rd.sl (k := 0) rfl (by assumption) | exact Rd.sl (k := 1) rfl (by assumption) | exact Rd.sl (k := 2) rfl (by assumption) | exact Rd.sl (k := 3) rfl (by assumption)) (by first | exact Rd.obj (k := 0) rfl rfl | exact Rd.obj (k := 1) rfl rfl | exact Rd.obj (k := 2) rfl rfl | exact Rd.obj (k := 3) rfl rfl | exact Rd.obj (k := 4) rfl rfl | exact Rd.imm (by assumption) | exact Rd.sl (k := 0) rfl (by assumption) | exact Rd.sl (k := 1) rfl (by assumption) | exact Rd.sl (k := 2) rfl (by assumption) | exact Rd.sl (k := 3) rfl (by assumption)) (by first | exact Rd.obj (k := 0) rfl rfl | exact Rd.obj (k := 1) rfl rfl | exact Rd.obj (k := 2) rfl rfl | exact Rd.obj (k := 3) rfl rfl | exact Rd.obj (k := 4) rfl rfl | exact Rd.imm (by assumption) | exact Rd.sl (k := 0) rfl (by assumption) | exact Rd.sl (k := 1) rfl (by assumption) | exact Rd.sl (k := 2) rfl (by assumption) | exact Rd.sl (k := 3) rfl (by assumption)) (by first | exact Rd.obj (k := 0) rfl rfl | exact Rd.obj (k := 1) rfl rfl | exact Rd.obj (k := 2) rfl rfl | exact Rd.obj (k := 3) rfl rfl | exact Rd.obj (k := 4) rfl rfl | exact Rd.imm (by assumption) | exact Rd.sl (k := 0) rfl (by assumption) | exact Rd.sl (k := 1) rfl (by assumption) | exact Rd.sl (k := 2) rfl (by assumption) | exact Rd.sl (k := 3) rfl (by assumption))) ?_
        refine PW.hv rfl rfl rfl rfl (Hv.callS hS rfl rfl rfl cb47 (valid1_c l[i]  _)) (fun _ _ h => h.2.rd) fun v w26 ⟨hv, hS⟩ => ?_
        subst hv
        refine PW.hv rfl rfl rfl rfl (Hv.callS hS rfl rfl rfl cb47 (valid1_c l[i - 1]  _)) (fun _ _ h => h.2.rd) fun v w33 ⟨hv, hS⟩ => ?_
        subst hv
        refine PW.ex rfl rfl rfl rfl (Ex.leq rfl rfl rfl) ?_
        refine PW.splitB (fun h4_18 => ?_) (fun h4_18 => ?_)
        · have h4_18 := of_decide_eq_true h4_18
          refine PW.ex rfl rfl rfl rfl (by first | exact Ex.pick_yes rfl rfl | exact Ex.pick_no rfl rfl) ?_
          refine PW.ex rfl rfl rfl rfl (by first | exact Ex.pick_yes rfl rfl | exact Ex.pick_no rfl rfl) ?_
          refine PW.nil ?_
          refine LW.nil fun aa ha => hK8 _ _ _ ?_ aa ha
          refine CW.yes rfl ?_
          refine CW.seq fun K9 hK9 => ?_
          refine CW.region [0] rfl ?_
          refine LW.ex rfl rfl rfl rfl (Ex.assign rfl) hS.rd ?_
          refine LW.nil fun aa ha => hK9 _ _ _ ?_ aa ha
          refine CW.ret fun aa ha => ?_
          refine ret_one ha Try.results46 rfl ?_
          rw [he, rises_not2 _ _ _ _ h2_0 (by omega) (decide_eq_false (by omega))]; exact hS.retS
        · have h4_18 := of_decide_eq_false h4_18
          refine PW.ex rfl rfl rfl rfl (by first | exact Ex.pick_yes rfl rfl | exact Ex.pick_no rfl rfl) ?_
          refine PW.ex rfl rfl rfl rfl (by first | exact Ex.pick_yes rfl rfl | exact Ex.pick_no rfl rfl) ?_
          refine PW.nil ?_
          refine LW.nil fun aa ha => hK8 _ _ _ ?_ aa ha
          refine CW.no rfl ?_
          refine CW.skip fun aa ha => hK6 _ _ _ ?_ aa ha
          refine CW.region [0, 1] rfl ?_
          refine LW.ex rfl rfl rfl rfl (Ex.add rfl rfl (by first | exact inc64 (by omega) | exact addN (by omega) | exact w64 (by omega) (by omega))) hS.rd ?_
          refine LW.ex rfl rfl rfl rfl (Ex.move rfl) hS.rd ?_
          refine LW.nil fun aa ha => ?_
          have hS := hS.drop 0 rfl
          dsimp only [List.eraseIdx] at hS
          refine ⟨_, _, ?m2, ⟨i + 1, (by first | omega | (simp; done) | (simp; omega)), rfl, rfl, hS, ?_⟩, ha.sub ⟨rfl, rfl, rfl, rfl, rfl, rfl, trivial⟩⟩
          case m2 => omega
          rw [he]; exact rises_step _ _ _ _ h2_0 h4_2 (fun _ => decide_eq_true (by omega))
      · have h4_6 := of_decide_eq_false h4_6
        refine PW.ex rfl rfl rfl rfl (Ex.move rfl) ?_
        refine PW.skip rfl rfl rfl rfl ?_
        refine PW.skip rfl rfl rfl rfl ?_
        refine PW.skip rfl rfl rfl rfl ?_
        refine PW.skip rfl rfl rfl rfl ?_
        refine PW.skip rfl rfl rfl rfl ?_
        refine PW.skip rfl rfl rfl rfl ?_
        refine PW.skip rfl rfl rfl rfl ?_
        refine PW.skip rfl rfl rfl rfl ?_
        refine PW.skip1 rfl rfl rfl rfl ?_
        refine PW.skip1 rfl rfl rfl rfl ?_
        refine PW.skip rfl rfl rfl rfl ?_
        refine PW.ex rfl rfl rfl rfl (by first | exact Ex.pick_yes rfl rfl | exact Ex.pick_no rfl rfl) ?_
        refine PW.ex rfl rfl rfl rfl (by first | exact Ex.pick_yes rfl rfl | exact Ex.pick_no rfl rfl) ?_
        refine PW.nil ?_
        refine LW.nil fun aa ha => hK8 _ _ _ ?_ aa ha
        refine CW.no rfl ?_
        refine CW.skip fun aa ha => hK6 _ _ _ ?_ aa ha
        refine CW.region [0, 1] rfl ?_
        refine LW.ex rfl rfl rfl rfl (Ex.add rfl rfl (by first | exact inc64 (by omega) | exact addN (by omega) | exact w64 (by omega) (by omega))) hS.rd ?_
        refine LW.ex rfl rfl rfl rfl (Ex.move rfl) hS.rd ?_
        refine LW.nil fun aa ha => ?_
        have hS := hS.drop 0 rfl
        dsimp only [List.eraseIdx] at hS
        refine ⟨_, _, ?m2, ⟨i + 1, (by first | omega | (simp; done) | (simp; omega)), rfl, rfl, hS, ?_⟩, ha.sub ⟨rfl, rfl, rfl, rfl, rfl, rfl, trivial⟩⟩
        case m2 => omega
        rw [he]; exact rises_step _ _ _ _ h2_0 h4_2 (fun h => by omega)
    · skip
      refine PW.ex rfl rfl rfl rfl (Ex.not rfl rfl) ?_
      refine PW.ex rfl rfl rfl rfl (Ex.move rfl) ?_
      refine PW.skip rfl rfl rfl rfl ?_
      refine PW.skip rfl rfl rfl rfl ?_
      refine PW.skip rfl rfl rfl rfl ?_
      refine PW.skip rfl rfl rfl rfl ?_
      refine PW.skip rfl rfl rfl rfl ?_
      refine PW.skip rfl rfl rfl rfl ?_
      refine PW.skip rfl rfl rfl rfl ?_
      refine PW.skip rfl rfl rfl rfl ?_
      refine PW.skip rfl rfl rfl rfl ?_
      refine PW.skip rfl rfl rfl rfl ?_
      refine PW.skip rfl rfl rfl rfl ?_
      refine PW.skip1 rfl rfl rfl rfl ?_
      refine PW.skip1 rfl rfl rfl rfl ?_
      refine PW.skip rfl rfl rfl rfl ?_
      refine PW.skip rfl rfl rfl rfl ?_
      refine PW.ex rfl rfl rfl rfl (by first | exact Ex.pick_yes rfl rfl | exact Ex.pick_no rfl rfl) ?_
      refine PW.nil ?_
      refine LW.nil fun aa ha => hK8 _ _ _ ?_ aa ha
      refine CW.yes rfl ?_
      refine CW.seq fun K10 hK10 => ?_
      refine CW.region [0] rfl ?_
      refine LW.ex rfl rfl rfl rfl (Ex.assign rfl) hS.rd ?_
      refine LW.nil fun aa ha => hK10 _ _ _ ?_ aa ha
      refine CW.ret fun aa ha => ?_
      refine ret_one ha Try.results46 rfl ?_
      rw [he, rises_not _ _ _ _ h2_0 h4_2]; exact hS.retS
  · have h2_0 := of_decide_eq_false h2_0
    refine LW.nil fun aa ha => hK4 _ _ _ ?_ aa ha
    refine CW.seq fun K11 hK11 => ?_
    refine CW.no rfl ?_
    refine CW.exit fun aa ha => hK2 _ _ _ ?_ aa ha
    refine CW.seq fun K12 hK12 => ?_
    refine CW.region [0, 1, 2, 3] rfl ?_
    refine LW.ex rfl rfl rfl rfl (Ex.move rfl) hS.rd ?_
    refine LW.ex rfl rfl rfl rfl (Ex.lenSl rfl Try.underlying27 rfl) hS.rd ?_
    refine LW.ex rfl rfl rfl rfl (Ex.leq rfl rfl (by first | exact decide_eq_true (by omega) | exact decide_eq_false (by omega) | rfl)) hS.rd ?_
    refine LW.ex rfl rfl rfl rfl (Ex.assign rfl) hS.rd ?_
    refine LW.nil fun aa ha => hK12 _ _ _ ?_ aa ha
    refine CW.ret fun aa ha => ?_
    refine ret_one ha Try.results46 rfl ?_
    have hdr : rises okArea (fun x y => keyLt x.Key y.Key) none l = true := by rw [he, List.drop_of_length_le (by omega)]; cases prevOf l i <;> rfl
    rw [hdr]; exact hS.retB (by simp only [Bool.true_and]; exact decide_eq_decide.2 (by omega))

theorem valid3_c (x : Tpl) (ad : Option Addr) (c : Nat) (w : World) : Calls Try.prog 51 #[.agg #[.int .u8 x.Key.toNat, .slice ad x.P.length c]] w (RetS w (.int .u8 x.Key.toNat)) := by
  have hS := St.start w (fun _ => none) (fun _ _ h => by cases h)
  refine calls_start 5 [.agg #[.int .u8 x.Key.toNat, .slice ad x.P.length c]] Try.func51 rfl Try.ntmps51 rfl rfl ?_
  refine CW.seq fun K13 hK13 => ?_
  refine CW.region [0, 1] rfl ?_
  refine LW.hv rfl rfl rfl rfl (Hv.boxS hS rfl rfl) fun v w1 ⟨b1, hv, hb1, hS⟩ => ?_
  subst hv
  refine LW.ex rfl rfl rfl rfl (Ex.assign rfl) hS.rd ?_
  refine LW.nil fun aa ha => hK13 _ _ _ ?_ aa ha
  refine CW.seq fun K14 hK14 => ?_
  refine CW.region [0, 1, 2] rfl ?_
  refine LW.ex rfl rfl rfl rfl (Ex.fieldO 0 Try.underlying55 rfl rfl ti5 rfl) hS.rd ?_
  refine LW.ex rfl rfl rfl rfl (Ex.load1 ti5 rfl rfl (by first | exact Rd.obj (k := 0) rfl rfl | exact Rd.obj (k := 1) rfl rfl | exact Rd.obj (k := 2) rfl rfl | exact Rd.obj (k := 3) rfl rfl | exact Rd.obj (k := 4) rfl rfl | exact Rd.imm (by assumption) | exact Rd.sl (k := 0) rfl (by assumption) | exact Rd.sl (k := 1) rfl (by assumption) | exact Rd.sl (k := 2) rfl (by assumption) | exact Rd.sl (k := 3) rfl (by assumption))) hS.rd ?_
  refine LW.ex rfl rfl rfl rfl (Ex.assign rfl) hS.rd ?_
  refine LW.nil fun aa ha => hK14 _ _ _ ?_ aa ha
  refine CW.ret fun aa ha => ?_
  refine ret_one ha Try.results51 rfl ?_
  exact hS.retS
def okTpl (x : Tpl) : Bool := isLet x.Key && decide (2 ≤ x.P.length) && decide (x.P.length ≤ 12) && x.P.all inP
theorem valid4_c (x : Tpl) (ad : Option Addr) (c : Nat) (μ : Mem) (w : World) (hμ : Imm μ w) (hl : Sl μ ad c x.P) : Calls Try.prog 52 #[.agg #[.int .u8 x.Key.toNat, .slice ad x.P.length c]] w (RetS w (.bool (okTpl x))) := by
  have hS := St.start w μ hμ
  refine calls_start 23 [.agg #[.int .u8 x.Key.toNat, .slice ad x.P.length c]] Try.func52 rfl Try.ntmps52 rfl rfl ?_
  refine CW.seq fun K15 hK15 => ?_
  refine CW.region [0, 1] rfl ?_
  refine LW.hv rfl rfl rfl rfl (Hv.boxS hS rfl rfl) fun v w1 ⟨b1, hv, hb1, hS⟩ => ?_
  subst hv
  refine LW.ex rfl rfl rfl rfl (Ex.assign rfl) hS.rd ?_
  refine LW.nil fun aa ha => hK15 _ _ _ ?_ aa ha
  refine CW.seq fun K16 hK16 => ?_
  refine CW.region [0, 1, 2, 3, 4, 5, 6, 7, 8, 9, 10, 11, 12, 13, 14, 15, 16, 17, 18, 19, 20] rfl ?_
  refine LW.ex rfl rfl rfl rfl (Ex.fieldO 0 Try.underlying55 rfl rfl ti5 rfl) hS.rd ?_
  refine LW.ex rfl rfl rfl rfl (Ex.load1 ti5 rfl rfl (by first | exact Rd.obj (k := 0) rfl rfl | exact Rd.obj (k := 1) rfl rfl | exact Rd.obj (k := 2) rfl rfl | exact Rd.obj (k := 3) rfl rfl | exact Rd.obj (k := 4) rfl rfl | exact Rd.imm (by assumption) | exact Rd.sl (k := 0) rfl (by assumption) | exact Rd.sl (k := 1) rfl (by assumption) | exact Rd.sl (k := 2) rfl (by assumption) | exact Rd.sl (k := 3) rfl (by assumption))) hS.rd ?_
  refine LW.hv rfl rfl rfl rfl (Hv.callS hS rfl rfl rfl cb49 (letter_c _ _)) fun v w5 ⟨hv, hS⟩ => ?_
  subst hv
  refine LW.splitB (fun h1_2 => ?_) (fun h1_2 => ?_)
  · skip
    refine LW.ex rfl rfl rfl rfl (Ex.move rfl) hS.rd ?_
    refine LW.ex rfl rfl rfl rfl (Ex.fieldO 1 Try.underlying55 rfl rfl ti53 rfl) hS.rd ?_
    refine LW.ex rfl rfl rfl rfl (Ex.load1 ti53 rfl rfl (by first | exact Rd.obj (k := 0) rfl rfl | exact Rd.obj (k := 1) rfl rfl | exact Rd.obj (k := 2) rfl rfl | exact Rd.obj (k := 3) rfl rfl | exact Rd.obj (k := 4) rfl rfl | exact Rd.imm (by assumption) | exact Rd.sl (k := 0) rfl (by assumption) | exact Rd.sl (k := 1) rfl (by assumption) | exact Rd.sl (k := 2) rfl (by assumption) | exact Rd.sl (k := 3) rfl (by assumption))) hS.rd ?_
    refine LW.ex rfl rfl rfl rfl (Ex.lenSl rfl Try.underlying53 rfl) hS.rd ?_
    refine LW.ex rfl rfl rfl rfl (Ex.geq rfl rfl rfl) hS.rd ?_
    refine LW.splitB (fun h1_7 => ?_) (fun h1_7 => ?_)
    · have h1_7 := of_decide_eq_true h1_7
      refine LW.ex rfl rfl rfl rfl (by first | exact Ex.pick_yes rfl rfl | exact Ex.pick_no rfl rfl) hS.rd ?_
      refine LW.ex rfl rfl rfl rfl (Ex.move rfl) hS.rd ?_
      refine LW.ex rfl rfl rfl rfl (Ex.fieldO 1 Try.underlying55 rfl rfl ti53 rfl) hS.rd ?_
      refine LW.ex rfl rfl rfl rfl (Ex.load1 ti53 rfl rfl (by first | exact Rd.obj (k := 0) rfl rfl | exact Rd.obj (k := 1) rfl rfl | exact Rd.obj (k := 2) rfl rfl | exact Rd.obj (k := 3) rfl rfl | exact Rd.obj (k := 4) rfl rfl | exact Rd.imm (by assumption) | exact Rd.sl (k := 0) rfl (by assumption) | exact Rd.sl (k := 1) rfl (by assumption) | exact Rd.sl (k := 2) rfl (by assumption) | exact Rd.sl (k := 3) rfl (by assumption))) hS.rd ?_
      refine LW.ex rfl rfl rfl rfl (Ex.lenSl rfl Try.underlying53 rfl) hS.rd ?_
      refine LW.ex rfl rfl rfl rfl (Ex.leq rfl rfl rfl) hS.rd ?_
      refine LW.splitB (fun h1_13 => ?_) (fun h1_13 => ?_)
      · have h1_13 := of_decide_eq_true h1_13
        refine LW.ex rfl rfl rfl rfl (by first | exact Ex.pick_yes rfl rfl | exact Ex.pick_no rfl rfl) hS.rd ?_
        refine LW.ex rfl rfl rfl rfl (Ex.move rfl) hS.rd ?_
        refine LW.ex rfl rfl rfl rfl (Ex.fieldO 1 Try.underlying55 rfl rfl ti53 rfl) hS.rd ?_
        refine LW.ex rfl rfl rfl rfl (Ex.load1 ti53 rfl rfl (by first | exact Rd.obj (k := 0) rfl rfl | exact Rd.obj (k := 1) rfl rfl | exact Rd.obj (k := 2) rfl rfl | exact Rd.obj (k := 3) rfl rfl | exact Rd.obj (k := 4) rfl rfl | exact Rd.imm (by assumption) | exact Rd.sl (k := 0) rfl (by assumption) | exact Rd.sl (k := 1) rfl (by assumption) | exact Rd.sl (k := 2) rfl (by assumption) | exact Rd.sl (k := 3) rfl (by assumption))) hS.rd ?_
        refine LW.hv rfl rfl rfl rfl (Hv.callS hS rfl rfl rfl cb31 (inside_c x.P _ _ μ _ hS.imm hl)) fun v w21 ⟨hv, hS⟩ => ?_
        subst hv
        refine LW.ex rfl rfl rfl rfl (by first | exact Ex.pick_yes rfl rfl | exact Ex.pick_no rfl rfl) hS.rd ?_
        refine LW.ex rfl rfl rfl rfl (Ex.assign rfl) hS.rd ?_
        refine LW.nil fun aa ha => hK16 _ _ _ ?_ aa ha
        refine CW.ret fun aa ha => ?_
        refine ret_one ha Try.results52 rfl ?_
        refine hS.retB ?_
        unfold okTpl
        simp_all; try omega
      · have h1_13 := of_decide_eq_false h1_13
        refine LW.ex rfl rfl rfl rfl (by first | exact Ex.pick_yes rfl rfl | exact Ex.pick_no rfl rfl) hS.rd ?_
        refine LW.ex rfl rfl rfl rfl (Ex.move rfl) hS.rd ?_
        refine LW.skip rfl rfl rfl rfl ?_
        refine LW.skip rfl rfl rfl rfl ?_
        refine LW.skip rfl rfl rfl rfl ?_
        refine LW.ex rfl rfl rfl rfl (by first | exact Ex.pick_yes rfl rfl | exact Ex.pick_no rfl rfl) hS.rd ?_
        refine LW.ex rfl rfl rfl rfl (Ex.assign rfl) hS.rd ?_
        refine LW.nil fun aa ha => hK16 _ _ _ ?_ aa ha
        refine CW.ret fun aa ha => ?_
        refine ret_one ha Try.results52 rfl ?_
        refine hS.retB ?_
        unfold okTpl
        simp_all; try omega
    · have h1_7 := of_decide_eq_false h1_7
      refine LW.ex rfl rfl rfl rfl (by first | exact Ex.pick_yes rfl rfl | exact Ex.pick_no rfl rfl) hS.rd ?_
      refine LW.ex rfl rfl rfl rfl (Ex.move rfl) hS.rd ?_
      refine LW.skip rfl rfl rfl rfl ?_
      refine LW.skip rfl rfl rfl rfl ?_
      refine LW.skip rfl rfl rfl rfl ?_
      refine LW.skip rfl rfl rfl rfl ?_
      refine LW.ex rfl rfl rfl rfl (by first | exact Ex.pick_yes rfl rfl | exact Ex.pick_no rfl rfl) hS.rd ?_
      refine LW.ex rfl rfl rfl rfl (Ex.move rfl) hS.rd ?_
      refine LW.skip rfl rfl rfl rfl ?_
      refine LW.skip rfl rfl rfl rfl ?_
      refine LW.skip rfl rfl rfl rfl ?_
      refine LW.ex rfl rfl rfl rfl (by first | exact Ex.pick_yes rfl rfl | exact Ex.pick_no rfl rfl) hS.rd ?_
      refine LW.ex rfl rfl rfl rfl (Ex.assign rfl) hS.rd ?_
      refine LW.nil fun aa ha => hK16 _ _ _ ?_ aa ha
      refine CW.ret fun aa ha => ?_
      refine ret_one ha Try.results52 rfl ?_
      refine hS.retB ?_
      unfold okTpl
      simp_all; try omega
  · skip
    refine LW.ex rfl rfl rfl rfl (Ex.move rfl) hS.rd ?_
    refine LW.skip rfl rfl rfl rfl ?_
    refine LW.skip rfl rfl rfl rfl ?_
    refine LW.skip rfl rfl rfl rfl ?_
    refine LW.skip rfl rfl rfl rfl ?_
    refine LW.ex rfl rfl rfl rfl (by first | exact Ex.pick_yes rfl rfl | exact Ex.pick_no rfl rfl) hS.rd ?_
    refine LW.ex rfl rfl rfl rfl (Ex.move rfl) hS.rd ?_
    refine LW.skip rfl rfl rfl rfl ?_
    refine LW.skip rfl rfl rfl rfl ?_
    refine LW.skip rfl rfl rfl rfl ?_
    refine LW.skip rfl rfl rfl rfl ?_
    refine LW.ex rfl rfl rfl rfl (by first | exact Ex.pick_yes rfl rfl | exact Ex.pick_no rfl rfl) hS.rd ?_
    refine LW.ex rfl rfl rfl rfl (Ex.move rfl) hS.rd ?_
    refine LW.skip rfl rfl rfl rfl ?_
    refine LW.skip rfl rfl rfl rfl ?_
    refine LW.skip rfl rfl rfl rfl ?_
    refine LW.ex rfl rfl rfl rfl (by first | exact Ex.pick_yes rfl rfl | exact Ex.pick_no rfl rfl) hS.rd ?_
    refine LW.ex rfl rfl rfl rfl (Ex.assign rfl) hS.rd ?_
    refine LW.nil fun aa ha => hK16 _ _ _ ?_ aa ha
    refine CW.ret fun aa ha => ?_
    refine ret_one ha Try.results52 rfl ?_
    refine hS.retB ?_
    unfold okTpl
    simp_all; try omega
theorem risingT_c (l : List Tpl) (ad : Option Addr) (c : Nat) (μ : Mem) (w : World) (hμ : Imm μ w) (hl : Sl μ ad c l)  :
    Calls Try.prog 50 #[.slice ad l.length c, .func (.func 51) #[] #[], .func (.func 52) #[] #[]] w (RetS w (.bool (rises okTpl (fun x y => keyLt x.Key y.Key) none l && decide (l.length ≤ 26)))) := by
  have hll : l.length ≤ 9223372036854775807 := by have := hl.1; have := hl.2.1; simp only [maxLen] at this; omega
  have hS := St.start w μ hμ
  refine calls_start 41 [.slice ad l.length c, .func (.func 51) #[] #[], .func (.func 52) #[] #[]] Try.func50 rfl Try.ntmps50 rfl rfl ?_
  refine CW.seq fun K17 hK17 => ?_
  refine CW.region [0] rfl ?_
  refine LW.ex rfl rfl rfl rfl (Ex.assign rfl) hS.rd ?_
  refine LW.nil fun aa ha => hK17 _ _ _ ?_ aa ha
  refine CW.seq fun K18 hK18 => ?_
  refine CW.seq fun K19 hK19 => ?_
  refine CW.region [0, 1, 2] rfl ?_
  refine LW.ex rfl rfl rfl rfl (Ex.move rfl) hS.rd ?_
  refine LW.ex rfl rfl rfl rfl (Ex.lenSl rfl Try.underlying28 rfl) hS.rd ?_
  refine LW.ex rfl rfl rfl rfl (Ex.move rfl) hS.rd ?_
  refine LW.nil fun aa ha => hK19 _ _ _ ?_ aa ha
  refine CW.block ?_
  refine CW.loop (fun q m wl2 => ∃ (i : Nat), i ≤ l.length ∧ q = l.length - i ∧ m = [(0, .slice ad l.length c), (1, .func (.func 51) #[] #[]), (2, .func (.func 52) #[] #[]), (9, .slice ad l.length c), (10, .int .i64 ((l.length : Nat) : Int)), (11, .int .i64 i)] ∧ St w wl2 μ [] ∧ (rises okTpl (fun x y => keyLt x.Key y.Key) none l = rises okTpl (fun x y => keyLt x.Key y.Key) (prevOf l i) (l.drop i))) _ ⟨0, (by first | omega | (simp; done) | (simp; omega)), rfl, rfl, hS, rfl⟩ ⟨rfl, rfl, rfl, rfl, rfl, rfl, trivial⟩ ?_
  clear hS
  rintro q m wl2 ⟨i, hi, hq, rfl, hS, he⟩
  refine CW.seq fun K20 hK20 => ?_
  refine CW.region [0] rfl ?_
  refine LW.ex rfl rfl rfl rfl (Ex.lss rfl rfl rfl) hS.rd ?_
  refine LW.splitB (fun h2_0 => ?_) (fun h2_0 => ?_)
  · have h2_0 := of_decide_eq_true h2_0
    refine LW.nil fun aa ha => hK20 _ _ _ ?_ aa ha
    refine CW.seq fun K21 hK21 => ?_
    refine CW.yes rfl ?_
    refine CW.skip fun aa ha => hK21 _ _ _ ?_ aa ha
    refine CW.seq fun K22 hK22 => ?_
    refine CW.block ?_
    refine CW.seq fun K23 hK23 => ?_
    have h2_0 : i < l.length := by omega
    obtain ⟨bl, ol, rfl, k0, ad1, c1, k1, k2⟩ := hl.at h2_0
    refine CW.region [0, 1, 2, 3, 4, 5] rfl ?_
    refine LW.ex rfl rfl rfl rfl (Ex.move rfl) hS.rd ?_
    refine LW.ex rfl rfl rfl rfl (Ex.indexSl Try.underlying28 ti55 rfl rfl rfl (by omega)) hS.rd ?_
    refine LW.ex rfl rfl rfl rfl (Ex.load2c ti55 rfl rfl (by first | exact Rd.obj (k := 0) rfl rfl | exact Rd.obj (k := 1) rfl rfl | exact Rd.obj (k := 2) rfl rfl | exact Rd.obj (k := 3) rfl rfl | exact Rd.obj (k := 4) rfl rfl | exact Rd.imm (by assumption) | exact Rd.sl (k := 0) rfl (by assumption) | exact Rd.sl (k := 1) rfl (by assumption) | exact Rd.sl (k := 2) rfl (by assumption) | exact Rd.sl (k := 3) rfl (by assumption)) (by first | exact Rd.obj (k := 0) rfl rfl | exact Rd.obj (k := 1) rfl rfl | exact Rd.obj (k := 2) rfl rfl | exact Rd.obj (k := 3) rfl rfl | exact Rd.obj (k := 4) rfl rfl | exact Rd.imm (by assumption) | exact Rd.sl (k := 0) rfl (by assumption) | exact Rd.sl (k := 1) rfl (by assumption) | exact Rd.sl (k := 2) rfl (by assumption) | exact Rd.sl (k := 3) rfl (by assumption))) hS.rd ?_
    refine LW.hv rfl rfl rfl rfl (Hv.alloc ti55 hS) fun v w8 ⟨b8, hv, hb8, hS⟩ => ?_
    subst hv
    refine LW.ex rfl rfl rfl rfl (Ex.assign rfl) hS.rd ?_
    refine LW.hu rfl rfl rfl (Hv.storeN (k := 0) ti55 hS rfl rfl rfl rfl (by simp [Value.oneCell'])) fun _ w_5 hS => ?_
    dsimp only [List.set] at hS
    refine LW.nil fun aa ha => hK23 _ _ _ ?_ aa ha
    refine CW.seq fun K24 hK24 => ?_
    have hnn : i - 1 < l.length := by omega
    have hS := hS.drew
    refine CW.draw 21 (.ex 0 <| .ex 1 <| .one 2 <| .ex 3 <| .ex 4 <| .ex 5 <| .ex 6 <| .ex 7 <| .ex 8 <| .ex 9 <| .ex 11 <| .ex 12 <| .ex 13 <| .ex 14 <| .ex 15 <| .ex 16 <| .one 10 <| .one 17 <| .ex 18 <| .ex 19 <| .ex 20 <| .done) [] (Rd _ _) mixed (by kernel_rfl) rfl rfl hS.rd ?_
    refine PW.ex rfl rfl rfl rfl (Ex.move rfl) ?_
    refine PW.ex rfl rfl rfl rfl (Ex.load2c ti55 rfl rfl (by first | exact Rd.obj (k := 0) rfl rfl | exact Rd.obj (k := 1) rfl rfl | exact Rd.obj (k := 2) rfl rfl | exact Rd.obj (k := 3) rfl rfl | exact Rd.obj (k := 4) rfl rfl | exact Rd.imm (by assumption) | exact Rd.sl (k := 0) rfl (by assumption) | exact Rd.sl (k := 1) rfl (by assumption) | exact Rd.sl (k := 2) rfl (by assumption) | exact Rd.sl (k := 3) rfl (by assumption)) (by first | exact Rd.obj (k := 0) rfl rfl | exact Rd.obj (k := 1) rfl rfl | exact Rd.obj (k := 2) rfl rfl | exact Rd.obj (k := 3) rfl rfl | exact Rd.obj (k := 4) rfl rfl | exact Rd.imm (by assumption) | exact Rd.sl (k := 0) rfl (by assumption) | exact Rd.sl (k := 1) rfl (by assumption) | exact Rd.sl (k := 2) rfl (by assumption) | exact Rd.sl (k := 3) rfl (by assumption))) ?_
    refine PW.hv rfl rfl rfl rfl (Hv.callS hS rfl rfl rfl cb52 (valid4_c l[i] _ _ μ _ hS.imm k2)) (fun _ _ h => h.2.rd) fun v w18 ⟨hv, hS⟩ => ?_
    subst hv
    refine PW.splitB (fun h4_2 => ?_) (fun h4_2 => ?_)
    · skip
      refine PW.ex rfl rfl rfl rfl (Ex.not rfl rfl) ?_
      refine PW.ex rfl rfl rfl rfl (Ex.move rfl) ?_
      refine PW.ex rfl rfl rfl rfl (Ex.move rfl) ?_
      refine PW.ex rfl rfl rfl rfl (Ex.gtr rfl rfl rfl) ?_
      refine PW.splitB (fun h4_6 => ?_) (fun h4_6 => ?_)
      · have h4_6 := of_decide_eq_true h4_6
        obtain ⟨bl', ol', e', j0, ad2, c2, j1, j2⟩ := hl.at hnn
        cases e'
        refine PW.ex rfl rfl rfl rfl (Ex.move rfl) ?_
        refine PW.ex rfl rfl rfl rfl (Ex.move rfl) ?_
        refine PW.ex rfl rfl rfl rfl (Ex.load2c ti55 rfl rfl (by first | exact Rd.obj (k := 0) rfl rfl | exact Rd.obj (k := 1) rfl rfl | exact Rd.obj (k := 2) rfl rfl | exact Rd.obj (k := 3) rfl rfl | exact Rd.obj (k := 4) rfl rfl | exact Rd.imm (by assumption) | exact Rd.sl (k := 0) rfl (by assumption) | exact Rd.sl (k := 1) rfl (by assumption) | exact Rd.sl (k := 2) rfl (by assumption) | exact Rd.sl (k := 3) rfl (by assumption)) (by first | exact Rd.obj (k := 0) rfl rfl | exact Rd.obj (k := 1) rfl rfl | exact Rd.obj (k := 2) rfl rfl | exact Rd.obj (k := 3) rfl rfl | exact Rd.obj (k := 4) rfl rfl | exact Rd.imm (by assumption) | exact Rd.sl (k := 0) rfl (by assumption) | exact Rd.sl (k := 1) rfl (by assumption) | exact Rd.sl (k := 2) rfl (by assumption) | exact Rd.sl (k := 3) rfl (by assumption))) ?_
        refine PW.ex rfl rfl rfl rfl (Ex.move rfl) ?_
        refine PW.ex rfl rfl rfl rfl (Ex.move rfl) ?_
        refine PW.ex rfl rfl rfl rfl (Ex.move rfl) ?_
        refine PW.ex rfl rfl rfl rfl (Ex.sub rfl rfl (by first | exact dec64 (by omega) (by omega) | exact subN (by omega) (by omega) | exact w64 (by omega) (by omega))) ?_
        refine PW.ex rfl rfl rfl rfl (Ex.indexSl Try.underlying28 ti55 rfl rfl rfl (by omega)) ?_
        refine PW.ex rfl rfl rfl rfl (Ex.load2c ti55 rfl rfl (by first | exact Rd.obj (k := 0) rfl rfl | exact Rd.obj (k := 1) rfl rfl | exact Rd.obj (k := 2) rfl rfl | exact Rd.obj (k := 3) rfl rfl | exact Rd.obj (k := 4) rfl rfl | exact Rd.imm (by assumption) | exact Rd.sl (k := 0) rfl (by assumption) | exact Rd.sl (k := 1) rfl (by assumption) | exact Rd.sl (k := 2) rfl (by assumption) | exact Rd.sl (k := 3) rfl (by assumption)) (by first | exact Rd.obj (k := 0) rfl rfl | exact Rd.obj (k := 1) rfl rfl | exact Rd.obj (k := 2) rfl rfl | exact Rd.obj (k := 3) rfl rfl | exact Rd.obj (k := 4) rfl rfl | exact Rd.imm (by assumption) | exact Rd.sl (k := 0) rfl (by assumption) | exact Rd.sl (k := 1) rfl (by assumption) | exact Rd.sl (k := 2) rfl (by assumption) | exact Rd.sl (k := 3) rfl (by assumption))) ?_
        refine PW.hv rfl rfl rfl rfl (Hv.callS hS rfl rfl rfl cb51 (valid3_c l[i] _ _ _)) (fun _ _ h => h.2.rd) fun v w26 ⟨hv, hS⟩ => ?_
        subst hv
        refine PW.hv rfl rfl rfl rfl (Hv.callS hS rfl rfl rfl cb51 (valid3_c l[i - 1] _ _ _)) (fun _ _ h => h.2.rd) fun v w33 ⟨hv, hS⟩ => ?_
        subst hv
        refine PW.ex rfl rfl rfl rfl (Ex.leq rfl rfl rfl) ?_
        refine PW.splitB (fun h4_18 => ?_) (fun h4_18 => ?_)
        · have h4_18 := of_decide_eq_true h4_18
          refine PW.ex rfl rfl rfl rfl (by first | exact Ex.pick_yes rfl rfl | exact Ex.pick_no rfl rfl) ?_
          refine PW.ex rfl rfl rfl rfl (by first | exact Ex.pick_yes rfl rfl | exact Ex.pick_no rfl rfl) ?_
          refine PW.nil ?_
          refine LW.nil fun aa ha => hK24 _ _ _ ?_ aa ha
          refine CW.yes rfl ?_
          refine CW.seq fun K25 hK25 => ?_
          refine CW.region [0] rfl ?_
          refine LW.ex rfl rfl rfl rfl (Ex.assign rfl) hS.rd ?_
          refine LW.nil fun aa ha => hK25 _ _ _ ?_ aa ha
          refine CW.ret fun aa ha => ?_
          refine ret_one ha Try.results50 rfl ?_
          rw [he, rises_not2 _ _ _ _ h2_0 (by omega) (decide_eq_false (by omega))]; exact hS.retS
        · have h4_18 := of_decide_eq_false h4_18
          refine PW.ex rfl rfl rfl rfl (by first | exact Ex.pick_yes rfl rfl | exact Ex.pick_no rfl rfl) ?_
          refine PW.ex rfl rfl rfl rfl (by first | exact Ex.pick_yes rfl rfl | exact Ex.pick_no rfl rfl) ?_
          refine PW.nil ?_
          refine LW.nil fun aa ha => hK24 _ _ _ ?_ aa ha
          refine CW.no rfl ?_
          refine CW.skip fun aa ha => hK22 _ _ _ ?_ aa ha
          refine CW.region [0, 1] rfl ?_
          refine LW.ex rfl rfl rfl rfl (Ex.add rfl rfl (by first | exact inc64 (by omega) | exact addN (by omega) | exact w64 (by omega) (by omega))) hS.rd ?_
          refine LW.ex rfl rfl rfl rfl (Ex.move rfl) hS.rd ?_
          refine LW.nil fun aa ha => ?_
          have hS := hS.drop 0 rfl
          dsimp only [List.eraseIdx] at hS
          refine ⟨_, _, ?m2, ⟨i + 1, (by first | omega | (simp; done) | (simp; omega)), rfl, rfl, hS, ?_⟩, ha.sub ⟨rfl, rfl, rfl, rfl, rfl, rfl, trivial⟩⟩
          case m2 => omega
          rw [he]; exact rises_step _ _ _ _ h2_0 h4_2 (fun _ => decide_eq_true (by omega))
      · have h4_6 := of_decide_eq_false h4_6
        refine PW.ex rfl rfl rfl rfl (Ex.move rfl) ?_
        refine PW.skip rfl rfl rfl rfl ?_
        refine PW.skip rfl rfl rfl rfl ?_
        refine PW.skip rfl rfl rfl rfl ?_
        refine PW.skip rfl rfl rfl rfl ?_
        refine PW.skip rfl rfl rfl rfl ?_
        refine PW.skip rfl rfl rfl rfl ?_
        refine PW.skip rfl rfl rfl rfl ?_
        refine PW.skip rfl rfl rfl rfl ?_
        refine PW.skip1 rfl rfl rfl rfl ?_
        refine PW.skip1 rfl rfl rfl rfl ?_
        refine PW.skip rfl rfl rfl rfl ?_
        refine PW.ex rfl rfl rfl rfl (by first | exact Ex.pick_yes rfl rfl | exact Ex.pick_no rfl rfl) ?_
        refine PW.ex rfl rfl rfl rfl (by first | exact Ex.pick_yes rfl rfl | exact Ex.pick_no rfl rfl) ?_
        refine PW.nil ?_
        refine LW.nil fun aa ha => hK24 _ _ _ ?_ aa ha
        refine CW.no rfl ?_
        refine CW.skip fun aa ha => hK22 _ _ _ ?_ aa ha
        refine CW.region [0, 1] rfl ?_
        refine LW.ex rfl rfl rfl rfl (Ex.add rfl rfl (by first | exact inc64 (by omega) | exact addN (by omega) | exact w64 (by omega) (by omega))) hS.rd ?_
        refine LW.ex rfl rfl rfl rfl (Ex.move rfl) hS.rd ?_
        refine LW.nil fun aa ha => ?_
        have hS := hS.drop 0 rfl
        dsimp only [List.eraseIdx] at hS
        refine ⟨_, _, ?m2, ⟨i + 1, (by first | omega | (simp; done) | (simp; omega)), rfl, rfl, hS, ?_⟩, ha.sub ⟨rfl, rfl, rfl, rfl, rfl, rfl, trivial⟩⟩
        case m2 => omega
        rw [he]; exact rises_step _ _ _ _ h2_0 h4_2 (fun h => by omega)
    · skip
      refine PW.ex rfl rfl rfl rfl (Ex.not rfl rfl) ?_
      refine PW.ex rfl rfl rfl rfl (Ex.move rfl) ?_
      refine PW.skip rfl rfl rfl rfl ?_
      refine PW.skip rfl rfl rfl rfl ?_
      refine PW.skip rfl rfl rfl rfl ?_
      refine PW.skip rfl rfl rfl rfl ?_
      refine PW.skip rfl rfl rfl rfl ?_
      refine PW.skip rfl rfl rfl rfl ?_
      refine PW.skip rfl rfl rfl rfl ?_
      refine PW.skip rfl rfl rfl rfl ?_
      refine PW.skip rfl rfl rfl rfl ?_
      refine PW.skip rfl rfl rfl rfl ?_
      refine PW.skip rfl rfl rfl rfl ?_
      refine PW.skip1 rfl rfl rfl rfl ?_
      refine PW.skip1 rfl rfl rfl rfl ?_
      refine PW.skip rfl rfl rfl rfl ?_
      refine PW.skip rfl rfl rfl rfl ?_
      refine PW.ex rfl rfl rfl rfl (by first | exact Ex.pick_yes rfl rfl | exact Ex.pick_no rfl rfl) ?_
      refine PW.nil ?_
      refine LW.nil fun aa ha => hK24 _ _ _ ?_ aa ha
      refine CW.yes rfl ?_
      refine CW.seq fun K26 hK26 => ?_
      refine CW.region [0] rfl ?_
      refine LW.ex rfl rfl rfl rfl (Ex.assign rfl) hS.rd ?_
      refine LW.nil fun aa ha => hK26 _ _ _ ?_ aa ha
      refine CW.ret fun aa ha => ?_
      refine ret_one ha Try.results50 rfl ?_
      rw [he, rises_not _ _ _ _ h2_0 h4_2]; exact hS.retS
  · have h2_0 := of_decide_eq_false h2_0
    refine LW.nil fun aa ha => hK20 _ _ _ ?_ aa ha
    refine CW.seq fun K27 hK27 => ?_
    refine CW.no rfl ?_
    refine CW.exit fun aa ha => hK18 _ _ _ ?_ aa ha
    refine CW.seq fun K28 hK28 => ?_
    refine CW.region [0, 1, 2, 3] rfl ?_
    refine LW.ex rfl rfl rfl rfl (Ex.move rfl) hS.rd ?_
    refine LW.ex rfl rfl rfl rfl (Ex.lenSl rfl Try.underlying28 rfl) hS.rd ?_
    refine LW.ex rfl rfl rfl rfl (Ex.leq rfl rfl (by first | exact decide_eq_true (by omega) | exact decide_eq_false (by omega) | rfl)) hS.rd ?_
    refine LW.ex rfl rfl rfl rfl (Ex.assign rfl) hS.rd ?_
    refine LW.nil fun aa ha => hK28 _ _ _ ?_ aa ha
    refine CW.ret fun aa ha => ?_
    refine ret_one ha Try.results50 rfl ?_
    have hdr : rises okTpl (fun x y => keyLt x.Key y.Key) none l = true := by rw [he, List.drop_of_length_le (by omega)]; cases prevOf l i <;> rfl
    rw [hdr]; exact hS.retB (by simp only [Bool.true_and]; exact decide_eq_decide.2 (by omega))

theorem sAt_get (s : ByteArray) (i : Nat) (h : i < (bl s).length) : (bl s)[i] = sAt s i := by
  have := sAt_of (s := s) (j := i) h
  rw [List.getElem?_eq_getElem h] at this; exact Option.some.inj this
theorem valid5_c (x : ChordKey) (w : World) : Calls Try.prog 54 #[chordKeyV x] w (RetS w (.string x.Keys)) := by
  have hS := St.start w (fun _ => none) (fun _ _ h => by cases h)
  refine calls_start 5 [chordKeyV x] Try.func54 rfl Try.ntmps54 rfl rfl ?_
  refine CW.seq fun K29 hK29 => ?_
  refine CW.region [0, 1] rfl ?_
  refine LW.hv rfl rfl rfl rfl (Hv.boxS hS rfl rfl) fun v w1 ⟨b1, hv, hb1, hS⟩ => ?_
  subst hv
  refine LW.ex rfl rfl rfl rfl (Ex.assign rfl) hS.rd ?_
  refine LW.nil fun aa ha => hK29 _ _ _ ?_ aa ha
  refine CW.seq fun K30 hK30 => ?_
  refine CW.region [0, 1, 2] rfl ?_
  refine LW.ex rfl rfl rfl rfl (Ex.fieldO 0 Try.underlying60 rfl rfl ti9 rfl) hS.rd ?_
  refine LW.ex rfl rfl rfl rfl (Ex.load1 ti9 rfl rfl (by first | exact Rd.obj (k := 0) rfl rfl | exact Rd.obj (k := 1) rfl rfl | exact Rd.obj (k := 2) rfl rfl | exact Rd.obj (k := 3) rfl rfl | exact Rd.obj (k := 4) rfl rfl | exact Rd.imm (by assumption) | exact Rd.sl (k := 0) rfl (by assumption) | exact Rd.sl (k := 1) rfl (by assumption) | exact Rd.sl (k := 2) rfl (by assumption) | exact Rd.sl (k := 3) rfl (by assumption))) hS.rd ?_
  refine LW.ex rfl rfl rfl rfl (Ex.assign rfl) hS.rd ?_
  refine LW.nil fun aa ha => hK30 _ _ _ ?_ aa ha
  refine CW.ret fun aa ha => ?_
  refine ret_one ha Try.results54 rfl ?_
  exact hS.retS
theorem lets_step {s : ByteArray} {i : Nat} (hlet : isLet (sAt s i) = true) (hle : i ≤ 26 ∧ (0 < i → 96 + i ≤ (sAt s (i - 1)).toNat)) (hlt : 0 < i → (sAt s (i - 1)).toNat < (sAt s i).toNat) : i + 1 ≤ 26 ∧ (0 < i + 1 → 96 + (i + 1) ≤ (sAt s (i + 1 - 1)).toNat) := by
  unfold isLet at hlet
  rw [decide_eq_true_eq] at hlet
  rw [Nat.add_sub_cancel]
  obtain ⟨h1, h2⟩ := hle
  by_cases h0 : 0 < i
  · have := h2 h0; have := hlt h0; exact ⟨by omega, fun _ => by omega⟩
  · exact ⟨by omega, fun _ => by omega⟩
def okChord (x : ChordKey) : Bool := rises isLet keyLt none (bl x.Keys) && isLet x.Key && decide (2 ≤ x.Keys.size) && decide (x.Keys.size ≤ 4)
theorem valid6_c (x : ChordKey) (w : World) : Calls Try.prog 55 #[chordKeyV x] w (RetS w (.bool (okChord x))) := by
  have hS := St.start w (fun _ => none) (fun _ _ h => by cases h)
  refine calls_start 48 [chordKeyV x] Try.func55 rfl Try.ntmps55 rfl rfl ?_
  refine CW.seq fun K31 hK31 => ?_
  refine CW.region [0, 1] rfl ?_
  refine LW.hv rfl rfl rfl rfl (Hv.boxS hS rfl rfl) fun v w1 ⟨b1, hv, hb1, hS⟩ => ?_
  subst hv
  refine LW.ex rfl rfl rfl rfl (Ex.assign rfl) hS.rd ?_
  refine LW.nil fun aa ha => hK31 _ _ _ ?_ aa ha
  refine CW.seq fun K32 hK32 => ?_
  refine CW.seq fun K33 hK33 => ?_
  refine CW.region [0, 1, 2, 3] rfl ?_
  refine LW.ex rfl rfl rfl rfl (Ex.fieldO 0 Try.underlying60 rfl rfl ti9 rfl) hS.rd ?_
  refine LW.ex rfl rfl rfl rfl (Ex.load1 ti9 rfl rfl (by first | exact Rd.obj (k := 0) rfl rfl | exact Rd.obj (k := 1) rfl rfl | exact Rd.obj (k := 2) rfl rfl | exact Rd.obj (k := 3) rfl rfl | exact Rd.obj (k := 4) rfl rfl | exact Rd.imm (by assumption) | exact Rd.sl (k := 0) rfl (by assumption) | exact Rd.sl (k := 1) rfl (by assumption) | exact Rd.sl (k := 2) rfl (by assumption) | exact Rd.sl (k := 3) rfl (by assumption))) hS.rd ?_
  refine LW.ex rfl rfl rfl rfl (Ex.lenS rfl Try.underlying9 rfl) hS.rd ?_
  refine LW.ex rfl rfl rfl rfl (Ex.move rfl) hS.rd ?_
  refine LW.nil fun aa ha => hK33 _ _ _ ?_ aa ha
  refine CW.block ?_
  refine CW.loop (fun q m wl2 => ∃ (i : Nat), i ≤ x.Keys.size ∧ q = x.Keys.size - i ∧ m = [(1, .pointer (some ⟨b1, 0, none⟩)), (6, .int .i64 x.Keys.size), (7, .int .i64 i)] ∧ St w wl2 (fun _ => none) [Own.obj b1 [.string x.Keys, .int .u8 x.Key.toNat] 60] ∧ (rises isLet keyLt none (bl x.Keys) = rises isLet keyLt (prevOf (bl x.Keys) i) ((bl x.Keys).drop i)) ∧ (i ≤ 26 ∧ (0 < i → 96 + i ≤ (sAt x.Keys (i - 1)).toNat))) _ ⟨0, (by first | omega | (simp; done) | (simp; omega)), rfl, rfl, hS, rfl, ⟨by omega, fun h => by omega⟩⟩ ⟨rfl, rfl, rfl, trivial⟩ ?_
  clear hS
  rintro q m wl2 ⟨i, hi, hq, rfl, hS, he, hle⟩
  refine CW.seq fun K34 hK34 => ?_
  refine CW.region [0] rfl ?_
  refine LW.ex rfl rfl rfl rfl (Ex.lss rfl rfl rfl) hS.rd ?_
  refine LW.splitB (fun h2_0 => ?_) (fun h2_0 => ?_)
  · have h2_0 := of_decide_eq_true h2_0
    refine LW.nil fun aa ha => hK34 _ _ _ ?_ aa ha
    refine CW.seq fun K35 hK35 => ?_
    refine CW.yes rfl ?_
    refine CW.skip fun aa ha => hK35 _ _ _ ?_ aa ha
    refine CW.seq fun K36 hK36 => ?_
    refine CW.block ?_
    refine CW.seq fun K37 hK37 => ?_
    have h2 : i < (bl x.Keys).length := by rw [bl_len]; omega
    have hnn : i - 1 < (bl x.Keys).length := by omega
    have hg := sAt_get _ _ h2
    have hg1 := sAt_get _ _ hnn
    refine CW.region [0, 1] rfl ?_
    refine LW.ex rfl rfl rfl rfl (Ex.move rfl) hS.rd ?_
    refine LW.ex rfl rfl rfl rfl (Ex.assign rfl) hS.rd ?_
    refine LW.nil fun aa ha => hK37 _ _ _ ?_ aa ha
    refine CW.seq fun K38 hK38 => ?_
    have hS := hS.drew
    refine CW.draw 22 (.ex 0 <| .ex 1 <| .ex 2 <| .ex 3 <| .one 4 <| .ex 5 <| .ex 6 <| .ex 7 <| .ex 8 <| .ex 9 <| .ex 10 <| .ex 11 <| .ex 12 <| .ex 13 <| .ex 14 <| .ex 15 <| .ex 16 <| .ex 17 <| .ex 18 <| .ex 19 <| .ex 20 <| .ex 21 <| .done) [] (Rd _ _) mixed (by kernel_rfl) rfl rfl hS.rd ?_
    refine PW.ex rfl rfl rfl rfl (Ex.fieldO 0 Try.underlying60 rfl rfl ti9 rfl) ?_
    refine PW.ex rfl rfl rfl rfl (Ex.load1 ti9 rfl rfl (by first | exact Rd.obj (k := 0) rfl rfl | exact Rd.obj (k := 1) rfl rfl | exact Rd.obj (k := 2) rfl rfl | exact Rd.obj (k := 3) rfl rfl | exact Rd.obj (k := 4) rfl rfl | exact Rd.imm (by assumption) | exact Rd.sl (k := 0) rfl (by assumption) | exact Rd.sl (k := 1) rfl (by assumption) | exact Rd.sl (k := 2) rfl (by assumption) | exact Rd.sl (k := 3) rfl (by assumption))) ?_
    refine PW.ex rfl rfl rfl rfl (Ex.move rfl) ?_
    refine PW.ex rfl rfl rfl rfl (Ex.indexB Try.underlying9 rfl rfl rfl (by omega)) ?_
    refine PW.hv rfl rfl rfl rfl (Hv.callS hS rfl rfl rfl cb49 (letter_c _ _)) (fun _ _ h => h.2.rd) fun v w14 ⟨hv, hS⟩ => ?_
    subst hv
    refine PW.splitB (fun h4_4 => ?_) (fun h4_4 => ?_)
    · skip
      refine PW.ex rfl rfl rfl rfl (Ex.not rfl rfl) ?_
      refine PW.ex rfl rfl rfl rfl (Ex.move rfl) ?_
      refine PW.ex rfl rfl rfl rfl (Ex.move rfl) ?_
      refine PW.ex rfl rfl rfl rfl (Ex.gtr rfl rfl rfl) ?_
      refine PW.splitB (fun h4_8 => ?_) (fun h4_8 => ?_)
      · have h4_8 := of_decide_eq_true h4_8
        refine PW.ex rfl rfl rfl rfl (Ex.move rfl) ?_
        refine PW.ex rfl rfl rfl rfl (Ex.fieldO 0 Try.underlying60 rfl rfl ti9 rfl) ?_
        refine PW.ex rfl rfl rfl rfl (Ex.load1 ti9 rfl rfl (by first | exact Rd.obj (k := 0) rfl rfl | exact Rd.obj (k := 1) rfl rfl | exact Rd.obj (k := 2) rfl rfl | exact Rd.obj (k := 3) rfl rfl | exact Rd.obj (k := 4) rfl rfl | exact Rd.imm (by assumption) | exact Rd.sl (k := 0) rfl (by assumption) | exact Rd.sl (k := 1) rfl (by assumption) | exact Rd.sl (k := 2) rfl (by assumption) | exact Rd.sl (k := 3) rfl (by assumption))) ?_
        refine PW.ex rfl rfl rfl rfl (Ex.move rfl) ?_
        refine PW.ex rfl rfl rfl rfl (Ex.indexB Try.underlying9 rfl rfl rfl (by omega)) ?_
        refine PW.ex rfl rfl rfl rfl (Ex.fieldO 0 Try.underlying60 rfl rfl ti9 rfl) ?_
        refine PW.ex rfl rfl rfl rfl (Ex.load1 ti9 rfl rfl (by first | exact Rd.obj (k := 0) rfl rfl | exact Rd.obj (k := 1) rfl rfl | exact Rd.obj (k := 2) rfl rfl | exact Rd.obj (k := 3) rfl rfl | exact Rd.obj (k := 4) rfl rfl | exact Rd.imm (by assumption) | exact Rd.sl (k := 0) rfl (by assumption) | exact Rd.sl (k := 1) rfl (by assumption) | exact Rd.sl (k := 2) rfl (by assumption) | exact Rd.sl (k := 3) rfl (by assumption))) ?_
        refine PW.ex rfl rfl rfl rfl (Ex.move rfl) ?_
        refine PW.ex rfl rfl rfl rfl (Ex.sub rfl rfl (by first | exact dec64 (by omega) (by omega) | exact subN (by omega) (by omega) | exact w64 (by omega) (by omega))) ?_
        refine PW.ex rfl rfl rfl rfl (Ex.indexB Try.underlying9 rfl rfl rfl (by omega)) ?_
        refine PW.ex rfl rfl rfl rfl (Ex.leq rfl rfl rfl) ?_
        refine PW.splitB (fun h4_19 => ?_) (fun h4_19 => ?_)
        · have h4_19 := of_decide_eq_true h4_19
          refine PW.ex rfl rfl rfl rfl (by first | exact Ex.pick_yes rfl rfl | exact Ex.pick_no rfl rfl) ?_
          refine PW.ex rfl rfl rfl rfl (by first | exact Ex.pick_yes rfl rfl | exact Ex.pick_no rfl rfl) ?_
          refine PW.nil ?_
          refine LW.nil fun aa ha => hK38 _ _ _ ?_ aa ha
          refine CW.yes rfl ?_
          refine CW.seq fun K39 hK39 => ?_
          refine CW.region [0] rfl ?_
          refine LW.ex rfl rfl rfl rfl (Ex.assign rfl) hS.rd ?_
          refine LW.nil fun aa ha => hK39 _ _ _ ?_ aa ha
          refine CW.ret fun aa ha => ?_
          refine ret_one ha Try.results55 rfl ?_
          have e : okChord x = false := by unfold okChord; rw [he, rises_not2 _ _ _ _ h2 (by omega) (by rw [hg, hg1]; exact decide_eq_false (by omega))]; rfl
          rw [e]; exact hS.retS
        · have h4_19 := of_decide_eq_false h4_19
          refine PW.ex rfl rfl rfl rfl (by first | exact Ex.pick_yes rfl rfl | exact Ex.pick_no rfl rfl) ?_
          refine PW.ex rfl rfl rfl rfl (by first | exact Ex.pick_yes rfl rfl | exact Ex.pick_no rfl rfl) ?_
          refine PW.nil ?_
          refine LW.nil fun aa ha => hK38 _ _ _ ?_ aa ha
          refine CW.no rfl ?_
          refine CW.skip fun aa ha => hK36 _ _ _ ?_ aa ha
          refine CW.region [0, 1] rfl ?_
          refine LW.ex rfl rfl rfl rfl (Ex.add rfl rfl (by first | exact inc64 (by omega) | exact addN (by omega) | exact w64 (by omega) (by omega))) hS.rd ?_
          refine LW.ex rfl rfl rfl rfl (Ex.move rfl) hS.rd ?_
          refine LW.nil fun aa ha => ?_
          refine ⟨_, _, ?m2, ⟨i + 1, (by first | omega | (simp; done) | (simp; omega)), rfl, rfl, hS, ?_, ?_⟩, ha.sub ⟨rfl, rfl, rfl, trivial⟩⟩
          case m2 => omega
          · rw [he]; exact rises_step _ _ _ _ h2 (by rw [hg]; exact h4_4) (fun _ => by rw [hg, hg1]; exact decide_eq_true (by omega))
          · exact lets_step h4_4 hle (fun _ => by omega)
      · have h4_8 := of_decide_eq_false h4_8
        refine PW.ex rfl rfl rfl rfl (Ex.move rfl) ?_
        refine PW.skip rfl rfl rfl rfl ?_
        refine PW.skip rfl rfl rfl rfl ?_
        refine PW.skip rfl rfl rfl rfl ?_
        refine PW.skip rfl rfl rfl rfl ?_
        refine PW.skip rfl rfl rfl rfl ?_
        refine PW.skip rfl rfl rfl rfl ?_
        refine PW.skip rfl rfl rfl rfl ?_
        refine PW.skip rfl rfl rfl rfl ?_
        refine PW.skip rfl rfl rfl rfl ?_
        refine PW.skip rfl rfl rfl rfl ?_
        refine PW.ex rfl rfl rfl rfl (by first | exact Ex.pick_yes rfl rfl | exact Ex.pick_no rfl rfl) ?_
        refine PW.ex rfl rfl rfl rfl (by first | exact Ex.pick_yes rfl rfl | exact Ex.pick_no rfl rfl) ?_
        refine PW.nil ?_
        refine LW.nil fun aa ha => hK38 _ _ _ ?_ aa ha
        refine CW.no rfl ?_
        refine CW.skip fun aa ha => hK36 _ _ _ ?_ aa ha
        refine CW.region [0, 1] rfl ?_
        refine LW.ex rfl rfl rfl rfl (Ex.add rfl rfl (by first | exact inc64 (by omega) | exact addN (by omega) | exact w64 (by omega) (by omega))) hS.rd ?_
        refine LW.ex rfl rfl rfl rfl (Ex.move rfl) hS.rd ?_
        refine LW.nil fun aa ha => ?_
        refine ⟨_, _, ?m2, ⟨i + 1, (by first | omega | (simp; done) | (simp; omega)), rfl, rfl, hS, ?_, ?_⟩, ha.sub ⟨rfl, rfl, rfl, trivial⟩⟩
        case m2 => omega
        · rw [he]; exact rises_step _ _ _ _ h2 (by rw [hg]; exact h4_4) (fun h => by omega)
        · exact lets_step h4_4 hle (fun h => by omega)
    · skip
      refine PW.ex rfl rfl rfl rfl (Ex.not rfl rfl) ?_
      refine PW.ex rfl rfl rfl rfl (Ex.move rfl) ?_
      refine PW.skip rfl rfl rfl rfl ?_
      refine PW.skip rfl rfl rfl rfl ?_
      refine PW.skip rfl rfl rfl rfl ?_
      refine PW.skip rfl rfl rfl rfl ?_
      refine PW.skip rfl rfl rfl rfl ?_
      refine PW.skip rfl rfl rfl rfl ?_
      refine PW.skip rfl rfl rfl rfl ?_
      refine PW.skip rfl rfl rfl rfl ?_
      refine PW.skip rfl rfl rfl rfl ?_
      refine PW.skip rfl rfl rfl rfl ?_
      refine PW.skip rfl rfl rfl rfl ?_
      refine PW.skip rfl rfl rfl rfl ?_
      refine PW.skip rfl rfl rfl rfl ?_
      refine PW.skip rfl rfl rfl rfl ?_
      refine PW.ex rfl rfl rfl rfl (by first | exact Ex.pick_yes rfl rfl | exact Ex.pick_no rfl rfl) ?_
      refine PW.nil ?_
      refine LW.nil fun aa ha => hK38 _ _ _ ?_ aa ha
      refine CW.yes rfl ?_
      refine CW.seq fun K40 hK40 => ?_
      refine CW.region [0] rfl ?_
      refine LW.ex rfl rfl rfl rfl (Ex.assign rfl) hS.rd ?_
      refine LW.nil fun aa ha => hK40 _ _ _ ?_ aa ha
      refine CW.ret fun aa ha => ?_
      refine ret_one ha Try.results55 rfl ?_
      have e : okChord x = false := by unfold okChord; rw [he, rises_not _ _ _ _ h2 (by rw [hg]; exact h4_4)]; rfl
      rw [e]; exact hS.retS
  · have h2_0 := of_decide_eq_false h2_0
    refine LW.nil fun aa ha => hK34 _ _ _ ?_ aa ha
    refine CW.seq fun K41 hK41 => ?_
    refine CW.no rfl ?_
    refine CW.exit fun aa ha => hK32 _ _ _ ?_ aa ha
    refine CW.seq fun K42 hK42 => ?_
    refine CW.region [0, 1, 2, 3, 4, 5, 6, 7, 8, 9, 10, 11, 12, 13, 14, 15] rfl ?_
    refine LW.ex rfl rfl rfl rfl (Ex.fieldO 1 Try.underlying60 rfl rfl ti5 rfl) hS.rd ?_
    refine LW.ex rfl rfl rfl rfl (Ex.load1 ti5 rfl rfl (by first | exact Rd.obj (k := 0) rfl rfl | exact Rd.obj (k := 1) rfl rfl | exact Rd.obj (k := 2) rfl rfl | exact Rd.obj (k := 3) rfl rfl | exact Rd.obj (k := 4) rfl rfl | exact Rd.imm (by assumption) | exact Rd.sl (k := 0) rfl (by assumption) | exact Rd.sl (k := 1) rfl (by assumption) | exact Rd.sl (k := 2) rfl (by assumption) | exact Rd.sl (k := 3) rfl (by assumption))) hS.rd ?_
    refine LW.hv rfl rfl rfl rfl (Hv.callS hS rfl rfl rfl cb49 (letter_c _ _)) fun v w35 ⟨hv, hS⟩ => ?_
    subst hv
    refine LW.splitB (fun h7_2 => ?_) (fun h7_2 => ?_)
    · skip
      refine LW.ex rfl rfl rfl rfl (Ex.move rfl) hS.rd ?_
      refine LW.ex rfl rfl rfl rfl (Ex.fieldO 0 Try.underlying60 rfl rfl ti9 rfl) hS.rd ?_
      refine LW.ex rfl rfl rfl rfl (Ex.load1 ti9 rfl rfl (by first | exact Rd.obj (k := 0) rfl rfl | exact Rd.obj (k := 1) rfl rfl | exact Rd.obj (k := 2) rfl rfl | exact Rd.obj (k := 3) rfl rfl | exact Rd.obj (k := 4) rfl rfl | exact Rd.imm (by assumption) | exact Rd.sl (k := 0) rfl (by assumption) | exact Rd.sl (k := 1) rfl (by assumption) | exact Rd.sl (k := 2) rfl (by assumption) | exact Rd.sl (k := 3) rfl (by assumption))) hS.rd ?_
      refine LW.ex rfl rfl rfl rfl (Ex.lenS rfl Try.underlying9 rfl) hS.rd ?_
      refine LW.ex rfl rfl rfl rfl (Ex.geq rfl rfl rfl) hS.rd ?_
      refine LW.splitB (fun h7_7 => ?_) (fun h7_7 => ?_)
      · have h7_7 := of_decide_eq_true h7_7
        refine LW.ex rfl rfl rfl rfl (by first | exact Ex.pick_yes rfl rfl | exact Ex.pick_no rfl rfl) hS.rd ?_
        refine LW.ex rfl rfl rfl rfl (Ex.move rfl) hS.rd ?_
        refine LW.ex rfl rfl rfl rfl (Ex.fieldO 0 Try.underlying60 rfl rfl ti9 rfl) hS.rd ?_
        refine LW.ex rfl rfl rfl rfl (Ex.load1 ti9 rfl rfl (by first | exact Rd.obj (k := 0) rfl rfl | exact Rd.obj (k := 1) rfl rfl | exact Rd.obj (k := 2) rfl rfl | exact Rd.obj (k := 3) rfl rfl | exact Rd.obj (k := 4) rfl rfl | exact Rd.imm (by assumption) | exact Rd.sl (k := 0) rfl (by assumption) | exact Rd.sl (k := 1) rfl (by assumption) | exact Rd.sl (k := 2) rfl (by assumption) | exact Rd.sl (k := 3) rfl (by assumption))) hS.rd ?_
        refine LW.ex rfl rfl rfl rfl (Ex.lenS rfl Try.underlying9 rfl) hS.rd ?_
        refine LW.ex rfl rfl rfl rfl (Ex.leq rfl rfl (by first | exact decide_eq_true (by omega) | exact decide_eq_false (by omega) | rfl)) hS.rd ?_
        refine LW.ex rfl rfl rfl rfl (by first | exact Ex.pick_yes rfl rfl | exact Ex.pick_no rfl rfl) hS.rd ?_
        refine LW.ex rfl rfl rfl rfl (Ex.assign rfl) hS.rd ?_
        refine LW.nil fun aa ha => hK42 _ _ _ ?_ aa ha
        refine CW.ret fun aa ha => ?_
        refine ret_one ha Try.results55 rfl ?_
        have hdr : rises isLet keyLt none (bl x.Keys) = true := by rw [he, List.drop_of_length_le (by rw [bl_len]; omega)]; cases prevOf (bl x.Keys) i <;> rfl
        refine hS.retB ?_
        unfold okChord
        rw [hdr, Bool.eq_iff_iff]
        simp_all <;> omega
      · have h7_7 := of_decide_eq_false h7_7
        refine LW.ex rfl rfl rfl rfl (by first | exact Ex.pick_yes rfl rfl | exact Ex.pick_no rfl rfl) hS.rd ?_
        refine LW.ex rfl rfl rfl rfl (Ex.move rfl) hS.rd ?_
        refine LW.skip rfl rfl rfl rfl ?_
        refine LW.skip rfl rfl rfl rfl ?_
        refine LW.skip rfl rfl rfl rfl ?_
        refine LW.skip rfl rfl rfl rfl ?_
        refine LW.ex rfl rfl rfl rfl (by first | exact Ex.pick_yes rfl rfl | exact Ex.pick_no rfl rfl) hS.rd ?_
        refine LW.ex rfl rfl rfl rfl (Ex.assign rfl) hS.rd ?_
        refine LW.nil fun aa ha => hK42 _ _ _ ?_ aa ha
        refine CW.ret fun aa ha => ?_
        refine ret_one ha Try.results55 rfl ?_
        have hdr : rises isLet keyLt none (bl x.Keys) = true := by rw [he, List.drop_of_length_le (by rw [bl_len]; omega)]; cases prevOf (bl x.Keys) i <;> rfl
        refine hS.retB ?_
        unfold okChord
        rw [hdr, Bool.eq_iff_iff]
        simp_all <;> omega
    · skip
      refine LW.ex rfl rfl rfl rfl (Ex.move rfl) hS.rd ?_
      refine LW.skip rfl rfl rfl rfl ?_
      refine LW.skip rfl rfl rfl rfl ?_
      refine LW.skip rfl rfl rfl rfl ?_
      refine LW.skip rfl rfl rfl rfl ?_
      refine LW.ex rfl rfl rfl rfl (by first | exact Ex.pick_yes rfl rfl | exact Ex.pick_no rfl rfl) hS.rd ?_
      refine LW.ex rfl rfl rfl rfl (Ex.move rfl) hS.rd ?_
      refine LW.skip rfl rfl rfl rfl ?_
      refine LW.skip rfl rfl rfl rfl ?_
      refine LW.skip rfl rfl rfl rfl ?_
      refine LW.skip rfl rfl rfl rfl ?_
      refine LW.ex rfl rfl rfl rfl (by first | exact Ex.pick_yes rfl rfl | exact Ex.pick_no rfl rfl) hS.rd ?_
      refine LW.ex rfl rfl rfl rfl (Ex.assign rfl) hS.rd ?_
      refine LW.nil fun aa ha => hK42 _ _ _ ?_ aa ha
      refine CW.ret fun aa ha => ?_
      refine ret_one ha Try.results55 rfl ?_
      have hdr : rises isLet keyLt none (bl x.Keys) = true := by rw [he, List.drop_of_length_le (by rw [bl_len]; omega)]; cases prevOf (bl x.Keys) i <;> rfl
      refine hS.retB ?_
      unfold okChord
      rw [hdr, Bool.eq_iff_iff]
      simp_all <;> omega
theorem risingC_c (l : List ChordKey) (ad : Option Addr) (c : Nat) (μ : Mem) (w : World) (hμ : Imm μ w) (hl : Sl μ ad c l)  :
    Calls Try.prog 53 #[.slice ad l.length c, .func (.func 54) #[] #[], .func (.func 55) #[] #[]] w (RetS w (.bool (rises okChord (fun x y => !(sLe y.Keys x.Keys)) none l && decide (l.length ≤ 26)))) := by
  have hll : l.length ≤ 9223372036854775807 := by have := hl.1; have := hl.2.1; simp only [maxLen] at this; omega
  have hS := St.start w μ hμ
  refine calls_start 41 [.slice ad l.length c, .func (.func 54) #[] #[], .func (.func 55) #[] #[]] Try.func53 rfl Try.ntmps53 rfl rfl ?_
  refine CW.seq fun K43 hK43 => ?_
  refine CW.region [0] rfl ?_
  refine LW.ex rfl rfl rfl rfl (Ex.assign rfl) hS.rd ?_
  refine LW.nil fun aa ha => hK43 _ _ _ ?_ aa ha
  refine CW.seq fun K44 hK44 => ?_
  refine CW.seq fun K45 hK45 => ?_
  refine CW.region [0, 1, 2] rfl ?_
  refine LW.ex rfl rfl rfl rfl (Ex.move rfl) hS.rd ?_
  refine LW.ex rfl rfl rfl rfl (Ex.lenSl rfl Try.underlying29 rfl) hS.rd ?_
  refine LW.ex rfl rfl rfl rfl (Ex.move rfl) hS.rd ?_
  refine LW.nil fun aa ha => hK45 _ _ _ ?_ aa ha
  refine CW.block ?_
  refine CW.loop (fun q m wl2 => ∃ (i : Nat), i ≤ l.length ∧ q = l.length - i ∧ m = [(0, .slice ad l.length c), (1, .func (.func 54) #[] #[]), (2, .func (.func 55) #[] #[]), (9, .slice ad l.length c), (10, .int .i64 ((l.length : Nat) : Int)), (11, .int .i64 i)] ∧ St w wl2 μ [] ∧ (rises okChord (fun x y => !(sLe y.Keys x.Keys)) none l = rises okChord (fun x y => !(sLe y.Keys x.Keys)) (prevOf l i) (l.drop i))) _ ⟨0, (by first | omega | (simp; done) | (simp; omega)), rfl, rfl, hS, rfl⟩ ⟨rfl, rfl, rfl, rfl, rfl, rfl, trivial⟩ ?_
  clear hS
  rintro q m wl2 ⟨i, hi, hq, rfl, hS, he⟩
  refine CW.seq fun K46 hK46 => ?_
  refine CW.region [0] rfl ?_
  refine LW.ex rfl rfl rfl rfl (Ex.lss rfl rfl rfl) hS.rd ?_
  refine LW.splitB (fun h2_0 => ?_) (fun h2_0 => ?_)
  · have h2_0 := of_decide_eq_true h2_0
    refine LW.nil fun aa ha => hK46 _ _ _ ?_ aa ha
    refine CW.seq fun K47 hK47 => ?_
    refine CW.yes rfl ?_
    refine CW.skip fun aa ha => hK47 _ _ _ ?_ aa ha
    refine CW.seq fun K48 hK48 => ?_
    refine CW.block ?_
    refine CW.seq fun K49 hK49 => ?_
    have h2_0 : i < l.length := by omega
    obtain ⟨bl, ol, rfl, k0, k1⟩ := hl.at h2_0
    refine CW.region [0, 1, 2, 3, 4, 5] rfl ?_
    refine LW.ex rfl rfl rfl rfl (Ex.move rfl) hS.rd ?_
    refine LW.ex rfl rfl rfl rfl (Ex.indexSl Try.underlying29 ti60 rfl rfl rfl (by omega)) hS.rd ?_
    refine LW.ex rfl rfl rfl rfl (Ex.load2c ti60 rfl rfl (by first | exact Rd.obj (k := 0) rfl rfl | exact Rd.obj (k := 1) rfl rfl | exact Rd.obj (k := 2) rfl rfl | exact Rd.obj (k := 3) rfl rfl | exact Rd.obj (k := 4) rfl rfl | exact Rd.imm (by assumption) | exact Rd.sl (k := 0) rfl (by assumption) | exact Rd.sl (k := 1) rfl (by assumption) | exact Rd.sl (k := 2) rfl (by assumption) | exact Rd.sl (k := 3) rfl (by assumption)) (by first | exact Rd.obj (k := 0) rfl rfl | exact Rd.obj (k := 1) rfl rfl | exact Rd.obj (k := 2) rfl rfl | exact Rd.obj (k := 3) rfl rfl | exact Rd.obj (k := 4) rfl rfl | exact Rd.imm (by assumption) | exact Rd.sl (k := 0) rfl (by assumption) | exact Rd.sl (k := 1) rfl (by assumption) | exact Rd.sl (k := 2) rfl (by assumption) | exact Rd.sl (k := 3) rfl (by assumption))) hS.rd ?_
    refine LW.hv rfl rfl rfl rfl (Hv.alloc ti60 hS) fun v w8 ⟨b8, hv, hb8, hS⟩ => ?_
    subst hv
    refine LW.ex rfl rfl rfl rfl (Ex.assign rfl) hS.rd ?_
    refine LW.hu rfl rfl rfl (Hv.storeN (k := 0) ti60 hS rfl rfl rfl rfl (by simp [Value.oneCell'])) fun _ w_5 hS => ?_
    dsimp only [List.set] at hS
    refine LW.nil fun aa ha => hK49 _ _ _ ?_ aa ha
    refine CW.seq fun K50 hK50 => ?_
    have hnn : i - 1 < l.length := by omega
    have hS := hS.drew
    refine CW.draw 21 (.ex 0 <| .ex 1 <| .one 2 <| .ex 3 <| .ex 4 <| .ex 5 <| .ex 6 <| .ex 7 <| .ex 8 <| .ex 9 <| .ex 11 <| .ex 12 <| .ex 13 <| .ex 14 <| .ex 15 <| .ex 16 <| .one 10 <| .one 17 <| .ex 18 <| .ex 19 <| .ex 20 <| .done) [] (Rd _ _) mixed (by kernel_rfl) rfl rfl hS.rd ?_
    refine PW.ex rfl rfl rfl rfl (Ex.move rfl) ?_
    refine PW.ex rfl rfl rfl rfl (Ex.load2c ti60 rfl rfl (by first | exact Rd.obj (k := 0) rfl rfl | exact Rd.obj (k := 1) rfl rfl | exact Rd.obj (k := 2) rfl rfl | exact Rd.obj (k := 3) rfl rfl | exact Rd.obj (k := 4) rfl rfl | exact Rd.imm (by assumption) | exact Rd.sl (k := 0) rfl (by assumption) | exact Rd.sl (k := 1) rfl (by assumption) | exact Rd.sl (k := 2) rfl (by assumption) | exact Rd.sl (k := 3) rfl (by assumption)) (by first | exact Rd.obj (k := 0) rfl rfl | exact Rd.obj (k := 1) rfl rfl | exact Rd.obj (k := 2) rfl rfl | exact Rd.obj (k := 3) rfl rfl | exact Rd.obj (k := 4) rfl rfl | exact Rd.imm (by assumption) | exact Rd.sl (k := 0) rfl (by assumption) | exact Rd.sl (k := 1) rfl (by assumption) | exact Rd.sl (k := 2) rfl (by assumption) | exact Rd.sl (k := 3) rfl (by assumption))) ?_
    refine PW.hv rfl rfl rfl rfl (Hv.callS hS rfl rfl rfl cb55 (valid6_c l[i] _)) (fun _ _ h => h.2.rd) fun v w18 ⟨hv, hS⟩ => ?_
    subst hv
    refine PW.splitB (fun h4_2 => ?_) (fun h4_2 => ?_)
    · skip
      refine PW.ex rfl rfl rfl rfl (Ex.not rfl rfl) ?_
      refine PW.ex rfl rfl rfl rfl (Ex.move rfl) ?_
      refine PW.ex rfl rfl rfl rfl (Ex.move rfl) ?_
      refine PW.ex rfl rfl rfl rfl (Ex.gtr rfl rfl rfl) ?_
      refine PW.splitB (fun h4_6 => ?_) (fun h4_6 => ?_)
      · have h4_6 := of_decide_eq_true h4_6
        obtain ⟨bl', ol', e', j0, j1⟩ := hl.at hnn
        cases e'
        refine PW.ex rfl rfl rfl rfl (Ex.move rfl) ?_
        refine PW.ex rfl rfl rfl rfl (Ex.move rfl) ?_
        refine PW.ex rfl rfl rfl rfl (Ex.load2c ti60 rfl rfl (by first | exact Rd.obj (k := 0) rfl rfl | exact Rd.obj (k := 1) rfl rfl | exact Rd.obj (k := 2) rfl rfl | exact Rd.obj (k := 3) rfl rfl | exact Rd.obj (k := 4) rfl rfl | exact Rd.imm (by assumption) | exact Rd.sl (k := 0) rfl (by assumption) | exact Rd.sl (k := 1) rfl (by assumption) | exact Rd.sl (k := 2) rfl (by assumption) | exact Rd.sl (k := 3) rfl (by assumption)) (by first | exact Rd.obj (k := 0) rfl rfl | exact Rd.obj (k := 1) rfl rfl | exact Rd.obj (k := 2) rfl rfl | exact Rd.obj (k := 3) rfl rfl | exact Rd.obj (k := 4) rfl rfl | exact Rd.imm (by assumption) | exact Rd.sl (k := 0) rfl (by assumption) | exact Rd.sl (k := 1) rfl (by assumption) | exact Rd.sl (k := 2) rfl (by assumption) | exact Rd.sl (k := 3) rfl (by assumption))) ?_
        refine PW.ex rfl rfl rfl rfl (Ex.move rfl) ?_
        refine PW.ex rfl rfl rfl rfl (Ex.move rfl) ?_
        refine PW.ex rfl rfl rfl rfl (Ex.move rfl) ?_
        refine PW.ex rfl rfl rfl rfl (Ex.sub rfl rfl (by first | exact dec64 (by omega) (by omega) | exact subN (by omega) (by omega) | exact w64 (by omega) (by omega))) ?_
        refine PW.ex rfl rfl rfl rfl (Ex.indexSl Try.underlying29 ti60 rfl rfl rfl (by omega)) ?_
        refine PW.ex rfl rfl rfl rfl (Ex.load2c ti60 rfl rfl (by first | exact Rd.obj (k := 0) rfl rfl | exact Rd.obj (k := 1) rfl rfl | exact Rd.obj (k := 2) rfl rfl | exact Rd.obj (k := 3) rfl rfl | exact Rd.obj (k := 4) rfl rfl | exact Rd.imm (by assumption) | exact Rd.sl (k := 0) rfl (by assumption) | exact Rd.sl (k := 1) rfl (by assumption) | exact Rd.sl (k := 2) rfl (by assumption) | exact Rd.sl (k := 3) rfl (by assumption)) (by first | exact Rd.obj (k := 0) rfl rfl | exact Rd.obj (k := 1) rfl rfl | exact Rd.obj (k := 2) rfl rfl | exact Rd.obj (k := 3) rfl rfl | exact Rd.obj (k := 4) rfl rfl | exact Rd.imm (by assumption) | exact Rd.sl (k := 0) rfl (by assumption) | exact Rd.sl (k := 1) rfl (by assumption) | exact Rd.sl (k := 2) rfl (by assumption) | exact Rd.sl (k := 3) rfl (by assumption))) ?_
        refine PW.hv rfl rfl rfl rfl (Hv.callS hS rfl rfl rfl cb54 (valid5_c l[i]  _)) (fun _ _ h => h.2.rd) fun v w26 ⟨hv, hS⟩ => ?_
        subst hv
        refine PW.hv rfl rfl rfl rfl (Hv.callS hS rfl rfl rfl cb54 (valid5_c l[i - 1]  _)) (fun _ _ h => h.2.rd) fun v w33 ⟨hv, hS⟩ => ?_
        subst hv
        refine PW.ex rfl rfl rfl rfl (Ex.leqS rfl rfl rfl) ?_
        refine PW.splitB (fun h4_18 => ?_) (fun h4_18 => ?_)
        · skip
          refine PW.ex rfl rfl rfl rfl (by first | exact Ex.pick_yes rfl rfl | exact Ex.pick_no rfl rfl) ?_
          refine PW.ex rfl rfl rfl rfl (by first | exact Ex.pick_yes rfl rfl | exact Ex.pick_no rfl rfl) ?_
          refine PW.nil ?_
          refine LW.nil fun aa ha => hK50 _ _ _ ?_ aa ha
          refine CW.yes rfl ?_
          refine CW.seq fun K51 hK51 => ?_
          refine CW.region [0] rfl ?_
          refine LW.ex rfl rfl rfl rfl (Ex.assign rfl) hS.rd ?_
          refine LW.nil fun aa ha => hK51 _ _ _ ?_ aa ha
          refine CW.ret fun aa ha => ?_
          refine ret_one ha Try.results53 rfl ?_
          rw [he, rises_not2 _ _ _ _ h2_0 (by omega) (by simp [h4_18])]; exact hS.retS
        · skip
          refine PW.ex rfl rfl rfl rfl (by first | exact Ex.pick_yes rfl rfl | exact Ex.pick_no rfl rfl) ?_
          refine PW.ex rfl rfl rfl rfl (by first | exact Ex.pick_yes rfl rfl | exact Ex.pick_no rfl rfl) ?_
          refine PW.nil ?_
          refine LW.nil fun aa ha => hK50 _ _ _ ?_ aa ha
          refine CW.no rfl ?_
          refine CW.skip fun aa ha => hK48 _ _ _ ?_ aa ha
          refine CW.region [0, 1] rfl ?_
          refine LW.ex rfl rfl rfl rfl (Ex.add rfl rfl (by first | exact inc64 (by omega) | exact addN (by omega) | exact w64 (by omega) (by omega))) hS.rd ?_
          refine LW.ex rfl rfl rfl rfl (Ex.move rfl) hS.rd ?_
          refine LW.nil fun aa ha => ?_
          have hS := hS.drop 0 rfl
          dsimp only [List.eraseIdx] at hS
          refine ⟨_, _, ?m2, ⟨i + 1, (by first | omega | (simp; done) | (simp; omega)), rfl, rfl, hS, ?_⟩, ha.sub ⟨rfl, rfl, rfl, rfl, rfl, rfl, trivial⟩⟩
          case m2 => omega
          rw [he]; exact rises_step _ _ _ _ h2_0 h4_2 (fun _ => by simp [h4_18])
      · have h4_6 := of_decide_eq_false h4_6
        refine PW.ex rfl rfl rfl rfl (Ex.move rfl) ?_
        refine PW.skip rfl rfl rfl rfl ?_
        refine PW.skip rfl rfl rfl rfl ?_
        refine PW.skip rfl rfl rfl rfl ?_
        refine PW.skip rfl rfl rfl rfl ?_
        refine PW.skip rfl rfl rfl rfl ?_
        refine PW.skip rfl rfl rfl rfl ?_
        refine PW.skip rfl rfl rfl rfl ?_
        refine PW.skip rfl rfl rfl rfl ?_
        refine PW.skip1 rfl rfl rfl rfl ?_
        refine PW.skip1 rfl rfl rfl rfl ?_
        refine PW.skip rfl rfl rfl rfl ?_
        refine PW.ex rfl rfl rfl rfl (by first | exact Ex.pick_yes rfl rfl | exact Ex.pick_no rfl rfl) ?_
        refine PW.ex rfl rfl rfl rfl (by first | exact Ex.pick_yes rfl rfl | exact Ex.pick_no rfl rfl) ?_
        refine PW.nil ?_
        refine LW.nil fun aa ha => hK50 _ _ _ ?_ aa ha
        refine CW.no rfl ?_
        refine CW.skip fun aa ha => hK48 _ _ _ ?_ aa ha
        refine CW.region [0, 1] rfl ?_
        refine LW.ex rfl rfl rfl rfl (Ex.add rfl rfl (by first | exact inc64 (by omega) | exact addN (by omega) | exact w64 (by omega) (by omega))) hS.rd ?_
        refine LW.ex rfl rfl rfl rfl (Ex.move rfl) hS.rd ?_
        refine LW.nil fun aa ha => ?_
        have hS := hS.drop 0 rfl
        dsimp only [List.eraseIdx] at hS
        refine ⟨_, _, ?m2, ⟨i + 1, (by first | omega | (simp; done) | (simp; omega)), rfl, rfl, hS, ?_⟩, ha.sub ⟨rfl, rfl, rfl, rfl, rfl, rfl, trivial⟩⟩
        case m2 => omega
        rw [he]; exact rises_step _ _ _ _ h2_0 h4_2 (fun h => by omega)
    · skip
      refine PW.ex rfl rfl rfl rfl (Ex.not rfl rfl) ?_
      refine PW.ex rfl rfl rfl rfl (Ex.move rfl) ?_
      refine PW.skip rfl rfl rfl rfl ?_
      refine PW.skip rfl rfl rfl rfl ?_
      refine PW.skip rfl rfl rfl rfl ?_
      refine PW.skip rfl rfl rfl rfl ?_
      refine PW.skip rfl rfl rfl rfl ?_
      refine PW.skip rfl rfl rfl rfl ?_
      refine PW.skip rfl rfl rfl rfl ?_
      refine PW.skip rfl rfl rfl rfl ?_
      refine PW.skip rfl rfl rfl rfl ?_
      refine PW.skip rfl rfl rfl rfl ?_
      refine PW.skip rfl rfl rfl rfl ?_
      refine PW.skip1 rfl rfl rfl rfl ?_
      refine PW.skip1 rfl rfl rfl rfl ?_
      refine PW.skip rfl rfl rfl rfl ?_
      refine PW.skip rfl rfl rfl rfl ?_
      refine PW.ex rfl rfl rfl rfl (by first | exact Ex.pick_yes rfl rfl | exact Ex.pick_no rfl rfl) ?_
      refine PW.nil ?_
      refine LW.nil fun aa ha => hK50 _ _ _ ?_ aa ha
      refine CW.yes rfl ?_
      refine CW.seq fun K52 hK52 => ?_
      refine CW.region [0] rfl ?_
      refine LW.ex rfl rfl rfl rfl (Ex.assign rfl) hS.rd ?_
      refine LW.nil fun aa ha => hK52 _ _ _ ?_ aa ha
      refine CW.ret fun aa ha => ?_
      refine ret_one ha Try.results53 rfl ?_
      rw [he, rises_not _ _ _ _ h2_0 h4_2]; exact hS.retS
  · have h2_0 := of_decide_eq_false h2_0
    refine LW.nil fun aa ha => hK46 _ _ _ ?_ aa ha
    refine CW.seq fun K53 hK53 => ?_
    refine CW.no rfl ?_
    refine CW.exit fun aa ha => hK44 _ _ _ ?_ aa ha
    refine CW.seq fun K54 hK54 => ?_
    refine CW.region [0, 1, 2, 3] rfl ?_
    refine LW.ex rfl rfl rfl rfl (Ex.move rfl) hS.rd ?_
    refine LW.ex rfl rfl rfl rfl (Ex.lenSl rfl Try.underlying29 rfl) hS.rd ?_
    refine LW.ex rfl rfl rfl rfl (Ex.leq rfl rfl (by first | exact decide_eq_true (by omega) | exact decide_eq_false (by omega) | rfl)) hS.rd ?_
    refine LW.ex rfl rfl rfl rfl (Ex.assign rfl) hS.rd ?_
    refine LW.nil fun aa ha => hK54 _ _ _ ?_ aa ha
    refine CW.ret fun aa ha => ?_
    refine ret_one ha Try.results53 rfl ?_
    have hdr : rises okChord (fun x y => !(sLe y.Keys x.Keys)) none l = true := by rw [he, List.drop_of_length_le (by omega)]; cases prevOf l i <;> rfl
    rw [hdr]; exact hS.retB (by simp only [Bool.true_and]; exact decide_eq_decide.2 (by omega))

def validA (b : Brd) : Bool := (rises okArea (fun x y => keyLt x.Key y.Key) none b.Areas && decide (b.Areas.length ≤ 26)) && (rises okTpl (fun x y => keyLt x.Key y.Key) none b.Templates && decide (b.Templates.length ≤ 26)) &&
  (rises okChord (fun x y => !(sLe y.Keys x.Keys)) none b.Chords && decide (b.Chords.length ≤ 26)) && (List.range b.Areas.length).all fun i => (b.Areas.take i).all fun o => match b.Areas[i]? with | some a => apartA a o | none => true
theorem valid_c (b : Brd) (a0 a1 a2 : Option Addr) (c0 c1 c2 : Nat) (μ : Mem) (w : World) (hμ : Imm μ w) (h0 : Sl μ a0 c0 b.Areas) (h1 : Sl μ a1 c1 b.Templates) (h2 : Sl μ a2 c2 b.Chords) :
    Calls Try.prog 23 #[.agg #[.slice a0 b.Areas.length c0, .slice a1 b.Templates.length c1, .slice a2 b.Chords.length c2]] w (RetS w (.bool (validA b))) := by
  have hll : b.Areas.length ≤ 9223372036854775807 := by have := h0.1; have := h0.2.1; simp only [maxLen] at this; omega
  have hS := St.start w μ hμ
  refine calls_start 52 [.agg #[.slice a0 b.Areas.length c0, .slice a1 b.Templates.length c1, .slice a2 b.Chords.length c2]] Try.func23 rfl Try.ntmps23 rfl rfl ?_
  refine CW.seq fun K55 hK55 => ?_
  refine CW.region [0, 1] rfl ?_
  refine LW.hv rfl rfl rfl rfl (Hv.boxS hS rfl rfl) fun v w1 ⟨b1, hv, hb1, hS⟩ => ?_
  subst hv
  refine LW.ex rfl rfl rfl rfl (Ex.assign rfl) hS.rd ?_
  refine LW.nil fun aa ha => hK55 _ _ _ ?_ aa ha
  refine CW.seq fun K56 hK56 => ?_
  refine CW.region [0, 1, 2, 3] rfl ?_
  refine LW.ex rfl rfl rfl rfl (Ex.fieldO 0 Try.underlying31 rfl rfl ti27 rfl) hS.rd ?_
  refine LW.ex rfl rfl rfl rfl (Ex.load1 ti27 rfl rfl (by first | exact Rd.obj (k := 0) rfl rfl | exact Rd.obj (k := 1) rfl rfl | exact Rd.obj (k := 2) rfl rfl | exact Rd.obj (k := 3) rfl rfl | exact Rd.obj (k := 4) rfl rfl | exact Rd.imm (by assumption) | exact Rd.sl (k := 0) rfl (by assumption) | exact Rd.sl (k := 1) rfl (by assumption) | exact Rd.sl (k := 2) rfl (by assumption) | exact Rd.sl (k := 3) rfl (by assumption))) hS.rd ?_
  refine LW.hv rfl rfl rfl rfl (Hv.callS hS rfl rfl rfl cb46 (risingA_c b.Areas _ _ μ _ hS.imm h0)) fun v w12 ⟨hv, hS⟩ => ?_
  subst hv
  refine LW.splitB (fun h1_2 => ?_) (fun h1_2 => ?_)
  · skip
    refine LW.ex rfl rfl rfl rfl (Ex.assign rfl) hS.rd ?_
    refine LW.nil fun aa ha => hK56 _ _ _ ?_ aa ha
    refine CW.seq fun K57 hK57 => ?_
    refine CW.region [0, 1, 2, 3] rfl ?_
    refine LW.ex rfl rfl rfl rfl (Ex.fieldO 1 Try.underlying31 rfl rfl ti28 rfl) hS.rd ?_
    refine LW.ex rfl rfl rfl rfl (Ex.load1 ti28 rfl rfl (by first | exact Rd.obj (k := 0) rfl rfl | exact Rd.obj (k := 1) rfl rfl | exact Rd.obj (k := 2) rfl rfl | exact Rd.obj (k := 3) rfl rfl | exact Rd.obj (k := 4) rfl rfl | exact Rd.imm (by assumption) | exact Rd.sl (k := 0) rfl (by assumption) | exact Rd.sl (k := 1) rfl (by assumption) | exact Rd.sl (k := 2) rfl (by assumption) | exact Rd.sl (k := 3) rfl (by assumption))) hS.rd ?_
    refine LW.hv rfl rfl rfl rfl (Hv.callS hS rfl rfl rfl cb50 (risingT_c b.Templates _ _ μ _ hS.imm h1)) fun v w15 ⟨hv, hS⟩ => ?_
    subst hv
    refine LW.splitB (fun h2_2 => ?_) (fun h2_2 => ?_)
    · skip
      refine LW.ex rfl rfl rfl rfl (Ex.assign rfl) hS.rd ?_
      refine LW.nil fun aa ha => hK57 _ _ _ ?_ aa ha
      refine CW.seq fun K58 hK58 => ?_
      refine CW.region [0, 1, 2, 3] rfl ?_
      refine LW.ex rfl rfl rfl rfl (Ex.fieldO 2 Try.underlying31 rfl rfl ti29 rfl) hS.rd ?_
      refine LW.ex rfl rfl rfl rfl (Ex.load1 ti29 rfl rfl (by first | exact Rd.obj (k := 0) rfl rfl | exact Rd.obj (k := 1) rfl rfl | exact Rd.obj (k := 2) rfl rfl | exact Rd.obj (k := 3) rfl rfl | exact Rd.obj (k := 4) rfl rfl | exact Rd.imm (by assumption) | exact Rd.sl (k := 0) rfl (by assumption) | exact Rd.sl (k := 1) rfl (by assumption) | exact Rd.sl (k := 2) rfl (by assumption) | exact Rd.sl (k := 3) rfl (by assumption))) hS.rd ?_
      refine LW.hv rfl rfl rfl rfl (Hv.callS hS rfl rfl rfl cb53 (risingC_c b.Chords _ _ μ _ hS.imm h2)) fun v w18 ⟨hv, hS⟩ => ?_
      subst hv
      refine LW.splitB (fun h3_2 => ?_) (fun h3_2 => ?_)
      · skip
        refine LW.ex rfl rfl rfl rfl (Ex.assign rfl) hS.rd ?_
        refine LW.nil fun aa ha => hK58 _ _ _ ?_ aa ha
        refine CW.seq fun K59 hK59 => ?_
        refine CW.seq fun K60 hK60 => ?_
        refine CW.region [0, 1, 2, 3, 4, 5, 6, 7, 8, 9] rfl ?_
        refine LW.ex rfl rfl rfl rfl (Ex.move rfl) hS.rd ?_
        refine LW.ex rfl rfl rfl rfl (Ex.not rfl rfl) hS.rd ?_
        refine LW.ex rfl rfl rfl rfl (Ex.move rfl) hS.rd ?_
        refine LW.ex rfl rfl rfl rfl (Ex.move rfl) hS.rd ?_
        refine LW.ex rfl rfl rfl rfl (Ex.not rfl rfl) hS.rd ?_
        refine LW.ex rfl rfl rfl rfl (by first | exact Ex.pick_yes rfl rfl | exact Ex.pick_no rfl rfl) hS.rd ?_
        refine LW.ex rfl rfl rfl rfl (Ex.move rfl) hS.rd ?_
        refine LW.ex rfl rfl rfl rfl (Ex.move rfl) hS.rd ?_
        refine LW.ex rfl rfl rfl rfl (Ex.not rfl rfl) hS.rd ?_
        refine LW.ex rfl rfl rfl rfl (by first | exact Ex.pick_yes rfl rfl | exact Ex.pick_no rfl rfl) hS.rd ?_
        refine LW.nil fun aa ha => hK60 _ _ _ ?_ aa ha
        refine CW.no rfl ?_
        refine CW.skip fun aa ha => hK59 _ _ _ ?_ aa ha
        refine CW.seq fun K61 hK61 => ?_
        refine CW.seq fun K62 hK62 => ?_
        refine CW.region [0, 1, 2, 3] rfl ?_
        refine LW.ex rfl rfl rfl rfl (Ex.fieldO 0 Try.underlying31 rfl rfl ti27 rfl) hS.rd ?_
        refine LW.ex rfl rfl rfl rfl (Ex.load1 ti27 rfl rfl (by first | exact Rd.obj (k := 0) rfl rfl | exact Rd.obj (k := 1) rfl rfl | exact Rd.obj (k := 2) rfl rfl | exact Rd.obj (k := 3) rfl rfl | exact Rd.obj (k := 4) rfl rfl | exact Rd.imm (by assumption) | exact Rd.sl (k := 0) rfl (by assumption) | exact Rd.sl (k := 1) rfl (by assumption) | exact Rd.sl (k := 2) rfl (by assumption) | exact Rd.sl (k := 3) rfl (by assumption))) hS.rd ?_
        refine LW.ex rfl rfl rfl rfl (Ex.lenSl rfl Try.underlying27 rfl) hS.rd ?_
        refine LW.ex rfl rfl rfl rfl (Ex.move rfl) hS.rd ?_
        refine LW.nil fun aa ha => hK62 _ _ _ ?_ aa ha
        refine CW.block ?_
        refine CW.loop (fun q m wl7 => ∃ (i : Nat), i ≤ b.Areas.length ∧ q = b.Areas.length - i ∧ m = [(1, .pointer (some ⟨b1, 0, none⟩)), (30, .slice a0 b.Areas.length c0), (31, .int .i64 b.Areas.length), (32, .int .i64 i)] ∧ St w wl7 μ [Own.obj b1 [.slice a0 b.Areas.length c0, .slice a1 b.Templates.length c1, .slice a2 b.Chords.length c2] 31] ∧ (∀ j, j < i → ((b.Areas.take j).all fun o => match b.Areas[j]? with | some a => apartA a o | none => true) = true)) _ ⟨0, (by first | omega | (simp; done) | (simp; omega)), rfl, rfl, hS, fun j hj => by omega⟩ ⟨rfl, rfl, rfl, rfl, trivial⟩ ?_
        clear hS
        rintro q m wl7 ⟨i, hi, hq, rfl, hS, he⟩
        refine CW.seq fun K63 hK63 => ?_
        refine CW.region [0] rfl ?_
        refine LW.ex rfl rfl rfl rfl (Ex.lss rfl rfl rfl) hS.rd ?_
        refine LW.splitB (fun h7_0 => ?_) (fun h7_0 => ?_)
        · have h7_0 := of_decide_eq_true h7_0
          refine LW.nil fun aa ha => hK63 _ _ _ ?_ aa ha
          refine CW.seq fun K64 hK64 => ?_
          refine CW.yes rfl ?_
          refine CW.skip fun aa ha => hK64 _ _ _ ?_ aa ha
          refine CW.seq fun K65 hK65 => ?_
          refine CW.block ?_
          refine CW.seq fun K66 hK66 => ?_
          have hi7 : i < b.Areas.length := by omega
          obtain ⟨bl, ol, rfl, k0, k1, k2, k3, k4⟩ := h0.at hi7
          refine CW.region [0, 1, 2, 3, 4, 5] rfl ?_
          refine LW.ex rfl rfl rfl rfl (Ex.move rfl) hS.rd ?_
          refine LW.ex rfl rfl rfl rfl (Ex.indexSl Try.underlying27 ti57 rfl rfl rfl (by omega)) hS.rd ?_
          refine LW.ex rfl rfl rfl rfl (Ex.load5c ti57 rfl rfl (by first | exact Rd.obj (k := 0) rfl rfl | exact Rd.obj (k := 1) rfl rfl | exact Rd.obj (k := 2) rfl rfl | exact Rd.obj (k := 3) rfl rfl | exact Rd.obj (k := 4) rfl rfl | exact Rd.imm (by assumption) | exact Rd.sl (k := 0) rfl (by assumption) | exact Rd.sl (k := 1) rfl (by assumption) | exact Rd.sl (k := 2) rfl (by assumption) | exact Rd.sl (k := 3) rfl (by assumption)) (by first | exact Rd.obj (k := 0) rfl rfl | exact Rd.obj (k := 1) rfl rfl | exact Rd.obj (k := 2) rfl rfl | exact Rd.obj (k := 3) rfl rfl | exact Rd.obj (k := 4) rfl rfl | exact Rd.imm (by assumption) | exact Rd.sl (k := 0) rfl (by assumption) | exact Rd.sl (k := 1) rfl (by assumption) | exact Rd.sl (k := 2) rfl (by assumption) | exact Rd.sl (k := 3) rfl (by assumption)) (by first | exact Rd.obj (k := 0) rfl rfl | exact Rd.obj (k := 1) rfl rfl | exact Rd.obj (k := 2) rfl rfl | exact Rd.obj (k := 3) rfl rfl | exact Rd.obj (k := 4) rfl rfl | exact Rd.imm (by assumption) | exact Rd.sl (k := 0) rfl (by assumption) | exact Rd.sl (k := 1) rfl (by assumption) | exact Rd.sl (k := 2) rfl (by assumption) | exact Rd.sl (k := 3) rfl (by assumption)) (by first | exact Rd.obj (k := 0) rfl rfl | exact Rd.obj (k := 1) rfl rfl | exact Rd.obj (k := 2) rfl rfl | exact Rd.obj (k := 3) rfl rfl | exact Rd.obj (k := 4) rfl rfl | exact Rd.imm (by assumption) | exact Rd.sl (k := 0) rfl (by assumption) | exact Rd.sl (k := 1) rfl (by assumption) | exact Rd.sl (k := 2) rfl (by assumption) | exact Rd.sl (k := 3) rfl (by assumption)) (by first | exact Rd.obj (k := 0) rfl rfl | exact Rd.obj (k := 1) rfl rfl | exact Rd.obj (k := 2) rfl rfl | exact Rd.obj (k := 3) rfl rfl | exact Rd.obj (k := 4) rfl rfl | exact Rd.imm (by assumption) | exact Rd.sl (k := 0) rfl (by assumption) | exact Rd.sl (k := 1) rfl (by assumption) | exact Rd.sl (k := 2) rfl (by assumption) | exact Rd.sl (k := 3) rfl (by assumption))) hS.rd ?_
          refine LW.hv rfl rfl rfl rfl (Hv.alloc ti57 hS) fun v w7 ⟨b7, hv, hb7, hS⟩ => ?_
          subst hv
          refine LW.ex rfl rfl rfl rfl (Ex.assign rfl) hS.rd ?_
          refine LW.hu rfl rfl rfl (Hv.storeN (k := 0) ti57 hS rfl rfl rfl rfl (by simp [Value.oneCell'])) fun _ w_5 hS => ?_
          dsimp only [List.set] at hS
          refine LW.nil fun aa ha => hK66 _ _ _ ?_ aa ha
          refine CW.seq fun K67 hK67 => ?_
          refine CW.region [0, 1, 2, 3, 4, 5] rfl ?_
          refine LW.ex rfl rfl rfl rfl (Ex.fieldO 0 Try.underlying31 rfl rfl ti27 rfl) hS.rd ?_
          refine LW.ex rfl rfl rfl rfl (Ex.load1 ti27 rfl rfl (by first | exact Rd.obj (k := 0) rfl rfl | exact Rd.obj (k := 1) rfl rfl | exact Rd.obj (k := 2) rfl rfl | exact Rd.obj (k := 3) rfl rfl | exact Rd.obj (k := 4) rfl rfl | exact Rd.imm (by assumption) | exact Rd.sl (k := 0) rfl (by assumption) | exact Rd.sl (k := 1) rfl (by assumption) | exact Rd.sl (k := 2) rfl (by assumption) | exact Rd.sl (k := 3) rfl (by assumption))) hS.rd ?_
          refine LW.ex rfl rfl rfl rfl (Ex.move rfl) hS.rd ?_
          refine LW.ex rfl rfl rfl rfl (Ex.sliceTo Try.underlying27 ti57 rfl rfl rfl (by have := h0.1; omega)) hS.rd ?_
          refine LW.ex rfl rfl rfl rfl (Ex.lenSl rfl Try.underlying27 rfl) hS.rd ?_
          refine LW.ex rfl rfl rfl rfl (Ex.move rfl) hS.rd ?_
          refine LW.nil fun aa ha => hK67 _ _ _ ?_ aa ha
          refine CW.block ?_
          refine CW.loop (fun q m wl10 => ∃ (k : Nat), k ≤ i ∧ q = i - k ∧ m = [(1, .pointer (some ⟨b1, 0, none⟩)), (7, .pointer (some ⟨b7, 0, none⟩)), (30, .slice (some ⟨bl, ol, none⟩) b.Areas.length c0), (31, .int .i64 b.Areas.length), (32, .int .i64 i), (40, .slice (some ⟨bl, ol, none⟩) i c0), (41, .int .i64 i), (42, .int .i64 k)] ∧ St w wl10 μ [Own.obj b7 (areaL b.Areas[i]) 57, Own.obj b1 [.slice (some ⟨bl, ol, none⟩) b.Areas.length c0, .slice a1 b.Templates.length c1, .slice a2 b.Chords.length c2] 31] ∧ (∀ j (h : j < b.Areas.length), j < k → apartA b.Areas[i] b.Areas[j] = true)) _ ⟨0, (by first | omega | (simp; done) | (simp; omega)), rfl, rfl, hS, fun j _ hj => by omega⟩ ⟨rfl, rfl, rfl, rfl, rfl, rfl, rfl, rfl, trivial⟩ ?_
          clear hS
          rintro q m wl10 ⟨k, hk, hq, rfl, hS, hin⟩
          refine CW.seq fun K68 hK68 => ?_
          refine CW.region [0] rfl ?_
          refine LW.ex rfl rfl rfl rfl (Ex.lss rfl rfl rfl) hS.rd ?_
          refine LW.splitB (fun h10_0 => ?_) (fun h10_0 => ?_)
          · have h10_0 := of_decide_eq_true h10_0
            refine LW.nil fun aa ha => hK68 _ _ _ ?_ aa ha
            refine CW.seq fun K69 hK69 => ?_
            refine CW.yes rfl ?_
            refine CW.skip fun aa ha => hK69 _ _ _ ?_ aa ha
            refine CW.seq fun K70 hK70 => ?_
            refine CW.block ?_
            refine CW.seq fun K71 hK71 => ?_
            have hk7 : k < b.Areas.length := by omega
            obtain ⟨bl', ol', e', j0, j1, j2, j3, j4⟩ := h0.at hk7
            cases e'
            refine CW.region [0, 1, 2, 3] rfl ?_
            refine LW.ex rfl rfl rfl rfl (Ex.indexSl Try.underlying27 ti57 rfl rfl rfl (by omega)) hS.rd ?_
            refine LW.ex rfl rfl rfl rfl (Ex.load5c ti57 rfl rfl (by first | exact Rd.obj (k := 0) rfl rfl | exact Rd.obj (k := 1) rfl rfl | exact Rd.obj (k := 2) rfl rfl | exact Rd.obj (k := 3) rfl rfl | exact Rd.obj (k := 4) rfl rfl | exact Rd.imm (by assumption) | exact Rd.sl (k := 0) rfl (by assumption) | exact Rd.sl (k := 1) rfl (by assumption) | exact Rd.sl (k := 2) rfl (by assumption) | exact Rd.sl (k := 3) rfl (by assumption)) (by first | exact Rd.obj (k := 0) rfl rfl | exact Rd.obj (k := 1) rfl rfl | exact Rd.obj (k := 2) rfl rfl | exact Rd.obj (k := 3) rfl rfl | exact Rd.obj (k := 4) rfl rfl | exact Rd.imm (by assumption) | exact Rd.sl (k := 0) rfl (by assumption) | exact Rd.sl (k := 1) rfl (by assumption) | exact Rd.sl (k := 2) rfl (by assumption) | exact Rd.sl (k := 3) rfl (by assumption)) (by first | exact Rd.obj (k := 0) rfl rfl | exact Rd.obj (k := 1) rfl rfl | exact Rd.obj (k := 2) rfl rfl | exact Rd.obj (k := 3) rfl rfl | exact Rd.obj (k := 4) rfl rfl | exact Rd.imm (by assumption) | exact Rd.sl (k := 0) rfl (by assumption) | exact Rd.sl (k := 1) rfl (by assumption) | exact Rd.sl (k := 2) rfl (by assumption) | exact Rd.sl (k := 3) rfl (by assumption)) (by first | exact Rd.obj (k := 0) rfl rfl | exact Rd.obj (k := 1) rfl rfl | exact Rd.obj (k := 2) rfl rfl | exact Rd.obj (k := 3) rfl rfl | exact Rd.obj (k := 4) rfl rfl | exact Rd.imm (by assumption) | exact Rd.sl (k := 0) rfl (by assumption) | exact Rd.sl (k := 1) rfl (by assumption) | exact Rd.sl (k := 2) rfl (by assumption) | exact Rd.sl (k := 3) rfl (by assumption)) (by first | exact Rd.obj (k := 0) rfl rfl | exact Rd.obj (k := 1) rfl rfl | exact Rd.obj (k := 2) rfl rfl | exact Rd.obj (k := 3) rfl rfl | exact Rd.obj (k := 4) rfl rfl | exact Rd.imm (by assumption) | exact Rd.sl (k := 0) rfl (by assumption) | exact Rd.sl (k := 1) rfl (by assumption) | exact Rd.sl (k := 2) rfl (by assumption) | exact Rd.sl (k := 3) rfl (by assumption))) hS.rd ?_
            refine LW.hv rfl rfl rfl rfl (Hv.alloc ti57 hS) fun v w9 ⟨b9, hv, hb9, hS⟩ => ?_
            subst hv
            refine LW.hu rfl rfl rfl (Hv.storeN (k := 0) ti57 hS rfl rfl rfl rfl (by simp [Value.oneCell'])) fun _ w_3 hS => ?_
            dsimp only [List.set] at hS
            refine LW.nil fun aa ha => hK71 _ _ _ ?_ aa ha
            refine CW.seq fun K72 hK72 => ?_
            refine CW.region [0, 1, 2, 3] rfl ?_
            refine LW.ex rfl rfl rfl rfl (Ex.load5c ti57 rfl rfl (by first | exact Rd.obj (k := 0) rfl rfl | exact Rd.obj (k := 1) rfl rfl | exact Rd.obj (k := 2) rfl rfl | exact Rd.obj (k := 3) rfl rfl | exact Rd.obj (k := 4) rfl rfl | exact Rd.imm (by assumption) | exact Rd.sl (k := 0) rfl (by assumption) | exact Rd.sl (k := 1) rfl (by assumption) | exact Rd.sl (k := 2) rfl (by assumption) | exact Rd.sl (k := 3) rfl (by assumption)) (by first | exact Rd.obj (k := 0) rfl rfl | exact Rd.obj (k := 1) rfl rfl | exact Rd.obj (k := 2) rfl rfl | exact Rd.obj (k := 3) rfl rfl | exact Rd.obj (k := 4) rfl rfl | exact Rd.imm (by assumption) | exact Rd.sl (k := 0) rfl (by assumption) | exact Rd.sl (k := 1) rfl (by assumption) | exact Rd.sl (k := 2) rfl (by assumption) | exact Rd.sl (k := 3) rfl (by assumption)) (by first | exact Rd.obj (k := 0) rfl rfl | exact Rd.obj (k := 1) rfl rfl | exact Rd.obj (k := 2) rfl rfl | exact Rd.obj (k := 3) rfl rfl | exact Rd.obj (k := 4) rfl rfl | exact Rd.imm (by assumption) | exact Rd.sl (k := 0) rfl (by assumption) | exact Rd.sl (k := 1) rfl (by assumption) | exact Rd.sl (k := 2) rfl (by assumption) | exact Rd.sl (k := 3) rfl (by assumption)) (by first | exact Rd.obj (k := 0) rfl rfl | exact Rd.obj (k := 1) rfl rfl | exact Rd.obj (k := 2) rfl rfl | exact Rd.obj (k := 3) rfl rfl | exact Rd.obj (k := 4) rfl rfl | exact Rd.imm (by assumption) | exact Rd.sl (k := 0) rfl (by assumption) | exact Rd.sl (k := 1) rfl (by assumption) | exact Rd.sl (k := 2) rfl (by assumption) | exact Rd.sl (k := 3) rfl (by assumption)) (by first | exact Rd.obj (k := 0) rfl rfl | exact Rd.obj (k := 1) rfl rfl | exact Rd.obj (k := 2) rfl rfl | exact Rd.obj (k := 3) rfl rfl | exact Rd.obj (k := 4) rfl rfl | exact Rd.imm (by assumption) | exact Rd.sl (k := 0) rfl (by assumption) | exact Rd.sl (k := 1) rfl (by assumption) | exact Rd.sl (k := 2) rfl (by assumption) | exact Rd.sl (k := 3) rfl (by assumption))) hS.rd ?_
            refine LW.ex rfl rfl rfl rfl (Ex.load5c ti57 rfl rfl (by first | exact Rd.obj (k := 0) rfl rfl | exact Rd.obj (k := 1) rfl rfl | exact Rd.obj (k := 2) rfl rfl | exact Rd.obj (k := 3) rfl rfl | exact Rd.obj (k := 4) rfl rfl | exact Rd.imm (by assumption) | exact Rd.sl (k := 0) rfl (by assumption) | exact Rd.sl (k := 1) rfl (by assumption) | exact Rd.sl (k := 2) rfl (by assumption) | exact Rd.sl (k := 3) rfl (by assumption)) (by first | exact Rd.obj (k := 0) rfl rfl | exact Rd.obj (k := 1) rfl rfl | exact Rd.obj (k := 2) rfl rfl | exact Rd.obj (k := 3) rfl rfl | exact Rd.obj (k := 4) rfl rfl | exact Rd.imm (by assumption) | exact Rd.sl (k := 0) rfl (by assumption) | exact Rd.sl (k := 1) rfl (by assumption) | exact Rd.sl (k := 2) rfl (by assumption) | exact Rd.sl (k := 3) rfl (by assumption)) (by first | exact Rd.obj (k := 0) rfl rfl | exact Rd.obj (k := 1) rfl rfl | exact Rd.obj (k := 2) rfl rfl | exact Rd.obj (k := 3) rfl rfl | exact Rd.obj (k := 4) rfl rfl | exact Rd.imm (by assumption) | exact Rd.sl (k := 0) rfl (by assumption) | exact Rd.sl (k := 1) rfl (by assumption) | exact Rd.sl (k := 2) rfl (by assumption) | exact Rd.sl (k := 3) rfl (by assumption)) (by first | exact Rd.obj (k := 0) rfl rfl | exact Rd.obj (k := 1) rfl rfl | exact Rd.obj (k := 2) rfl rfl | exact Rd.obj (k := 3) rfl rfl | exact Rd.obj (k := 4) rfl rfl | exact Rd.imm (by assumption) | exact Rd.sl (k := 0) rfl (by assumption) | exact Rd.sl (k := 1) rfl (by assumption) | exact Rd.sl (k := 2) rfl (by assumption) | exact Rd.sl (k := 3) rfl (by assumption)) (by first | exact Rd.obj (k := 0) rfl rfl | exact Rd.obj (k := 1) rfl rfl | exact Rd.obj (k := 2) rfl rfl | exact Rd.obj (k := 3) rfl rfl | exact Rd.obj (k := 4) rfl rfl | exact Rd.imm (by assumption) | exact Rd.sl (k := 0) rfl (by assumption) | exact Rd.sl (k := 1) rfl (by assumption) | exact Rd.sl (k := 2) rfl (by assumption) | exact Rd.sl (k := 3) rfl (by assumption))) hS.rd ?_
            refine LW.hv rfl rfl rfl rfl (Hv.callS hS rfl rfl rfl cb56 (apart_c _ _ _)) fun v w48 ⟨hv, hS⟩ => ?_
            subst hv
            refine LW.splitB (fun h12_2 => ?_) (fun h12_2 => ?_)
            · skip
              refine LW.ex rfl rfl rfl rfl (Ex.not rfl rfl) hS.rd ?_
              refine LW.nil fun aa ha => hK72 _ _ _ ?_ aa ha
              refine CW.no rfl ?_
              refine CW.skip fun aa ha => hK70 _ _ _ ?_ aa ha
              refine CW.region [0, 1] rfl ?_
              refine LW.ex rfl rfl rfl rfl (Ex.add rfl rfl (by first | exact inc64 (by omega) | exact addN (by omega) | exact w64 (by omega) (by omega))) hS.rd ?_
              refine LW.ex rfl rfl rfl rfl (Ex.move rfl) hS.rd ?_
              refine LW.nil fun aa ha => ?_
              have hS := hS.drop 0 rfl
              dsimp only [List.eraseIdx] at hS
              refine ⟨_, _, ?m10, ⟨k + 1, (by first | omega | (simp; done) | (simp; omega)), rfl, rfl, hS, ?_⟩, ha.sub ⟨rfl, rfl, rfl, rfl, rfl, rfl, rfl, rfl, trivial⟩⟩
              case m10 => omega
              intro j hj hjk
              by_cases hjk' : j = k
              · subst hjk'; exact h12_2
              · exact hin j hj (by omega)
            · skip
              refine LW.ex rfl rfl rfl rfl (Ex.not rfl rfl) hS.rd ?_
              refine LW.nil fun aa ha => hK72 _ _ _ ?_ aa ha
              refine CW.yes rfl ?_
              refine CW.seq fun K73 hK73 => ?_
              refine CW.region [0] rfl ?_
              refine LW.ex rfl rfl rfl rfl (Ex.assign rfl) hS.rd ?_
              refine LW.nil fun aa ha => hK73 _ _ _ ?_ aa ha
              refine CW.ret fun aa ha => ?_
              refine ret_one ha Try.results23 rfl ?_
              refine hS.retB ?_
              symm
              unfold validA
              rw [Bool.and_eq_false_iff]; right
              rw [List.all_eq_false]
              refine ⟨i, by simp [hi7], ?_⟩
              rw [List.getElem?_eq_getElem hi7]
              simp only [Bool.not_eq_true, List.all_eq_false]
              exact ⟨b.Areas[k], List.mem_take_iff_getElem.2 ⟨k, by omega, rfl⟩, by simpa using h12_2⟩
          · have h10_0 := of_decide_eq_false h10_0
            refine LW.nil fun aa ha => hK68 _ _ _ ?_ aa ha
            refine CW.seq fun K74 hK74 => ?_
            refine CW.no rfl ?_
            refine CW.exit fun aa ha => hK65 _ _ _ ?_ aa ha
            refine CW.region [0, 1] rfl ?_
            refine LW.ex rfl rfl rfl rfl (Ex.add rfl rfl (by first | exact inc64 (by omega) | exact addN (by omega) | exact w64 (by omega) (by omega))) hS.rd ?_
            refine LW.ex rfl rfl rfl rfl (Ex.move rfl) hS.rd ?_
            refine LW.nil fun aa ha => ?_
            have hS := hS.drop 0 rfl
            dsimp only [List.eraseIdx] at hS
            refine ⟨_, _, ?m7, ⟨i + 1, (by first | omega | (simp; done) | (simp; omega)), rfl, rfl, hS, ?_⟩, ha.sub ⟨rfl, rfl, rfl, rfl, trivial⟩⟩
            case m7 => omega
            intro j hj
            by_cases hji : j = i
            · subst hji
              rw [List.all_eq_true]
              intro x hx
              obtain ⟨y, hy, rfl⟩ := List.getElem_of_mem hx
              rw [List.getElem_take, List.getElem?_eq_getElem hi7]
              rw [List.length_take] at hy
              exact hin y (by omega) (by omega)
            · exact he j (by omega)
        · have h7_0 := of_decide_eq_false h7_0
          refine LW.nil fun aa ha => hK63 _ _ _ ?_ aa ha
          refine CW.seq fun K75 hK75 => ?_
          refine CW.no rfl ?_
          refine CW.exit fun aa ha => hK61 _ _ _ ?_ aa ha
          refine CW.seq fun K76 hK76 => ?_
          refine CW.region [0] rfl ?_
          refine LW.ex rfl rfl rfl rfl (Ex.assign rfl) hS.rd ?_
          refine LW.nil fun aa ha => hK76 _ _ _ ?_ aa ha
          refine CW.ret fun aa ha => ?_
          refine ret_one ha Try.results23 rfl ?_
          refine hS.retB ?_
          symm
          unfold validA
          rw [h1_2, h2_2, h3_2]
          simp only [Bool.true_and, List.all_eq_true, List.mem_range]
          intro j hj x hx
          exact List.all_eq_true.1 (he j (by omega)) x hx
      · skip
        refine LW.ex rfl rfl rfl rfl (Ex.assign rfl) hS.rd ?_
        refine LW.nil fun aa ha => hK58 _ _ _ ?_ aa ha
        refine CW.seq fun K77 hK77 => ?_
        refine CW.seq fun K78 hK78 => ?_
        refine CW.region [0, 1, 2, 3, 4, 5, 6, 7, 8, 9] rfl ?_
        refine LW.ex rfl rfl rfl rfl (Ex.move rfl) hS.rd ?_
        refine LW.ex rfl rfl rfl rfl (Ex.not rfl rfl) hS.rd ?_
        refine LW.ex rfl rfl rfl rfl (Ex.move rfl) hS.rd ?_
        refine LW.ex rfl rfl rfl rfl (Ex.move rfl) hS.rd ?_
        refine LW.ex rfl rfl rfl rfl (Ex.not rfl rfl) hS.rd ?_
        refine LW.ex rfl rfl rfl rfl (by first | exact Ex.pick_yes rfl rfl | exact Ex.pick_no rfl rfl) hS.rd ?_
        refine LW.ex rfl rfl rfl rfl (Ex.move rfl) hS.rd ?_
        refine LW.ex rfl rfl rfl rfl (Ex.move rfl) hS.rd ?_
        refine LW.ex rfl rfl rfl rfl (Ex.not rfl rfl) hS.rd ?_
        refine LW.ex rfl rfl rfl rfl (by first | exact Ex.pick_yes rfl rfl | exact Ex.pick_no rfl rfl) hS.rd ?_
        refine LW.nil fun aa ha => hK78 _ _ _ ?_ aa ha
        refine CW.yes rfl ?_
        refine CW.seq fun K79 hK79 => ?_
        refine CW.region [0] rfl ?_
        refine LW.ex rfl rfl rfl rfl (Ex.assign rfl) hS.rd ?_
        refine LW.nil fun aa ha => hK79 _ _ _ ?_ aa ha
        refine CW.ret fun aa ha => ?_
        refine ret_one ha Try.results23 rfl ?_
        refine hS.retB ?_
        unfold validA
        rw [h1_2, h2_2, h3_2]; simp
    · skip
      refine LW.ex rfl rfl rfl rfl (Ex.assign rfl) hS.rd ?_
      refine LW.nil fun aa ha => hK57 _ _ _ ?_ aa ha
      refine CW.seq fun K80 hK80 => ?_
      refine CW.region [0, 1, 2, 3] rfl ?_
      refine LW.ex rfl rfl rfl rfl (Ex.fieldO 2 Try.underlying31 rfl rfl ti29 rfl) hS.rd ?_
      refine LW.ex rfl rfl rfl rfl (Ex.load1 ti29 rfl rfl (by first | exact Rd.obj (k := 0) rfl rfl | exact Rd.obj (k := 1) rfl rfl | exact Rd.obj (k := 2) rfl rfl | exact Rd.obj (k := 3) rfl rfl | exact Rd.obj (k := 4) rfl rfl | exact Rd.imm (by assumption) | exact Rd.sl (k := 0) rfl (by assumption) | exact Rd.sl (k := 1) rfl (by assumption) | exact Rd.sl (k := 2) rfl (by assumption) | exact Rd.sl (k := 3) rfl (by assumption))) hS.rd ?_
      refine LW.hv rfl rfl rfl rfl (Hv.callS hS rfl rfl rfl cb53 (risingC_c b.Chords _ _ μ _ hS.imm h2)) fun v w18 ⟨hv, hS⟩ => ?_
      subst hv
      refine LW.splitB (fun h3_2 => ?_) (fun h3_2 => ?_)
      · skip
        refine LW.ex rfl rfl rfl rfl (Ex.assign rfl) hS.rd ?_
        refine LW.nil fun aa ha => hK80 _ _ _ ?_ aa ha
        refine CW.seq fun K81 hK81 => ?_
        refine CW.seq fun K82 hK82 => ?_
        refine CW.region [0, 1, 2, 3, 4, 5, 6, 7, 8, 9] rfl ?_
        refine LW.ex rfl rfl rfl rfl (Ex.move rfl) hS.rd ?_
        refine LW.ex rfl rfl rfl rfl (Ex.not rfl rfl) hS.rd ?_
        refine LW.ex rfl rfl rfl rfl (Ex.move rfl) hS.rd ?_
        refine LW.ex rfl rfl rfl rfl (Ex.move rfl) hS.rd ?_
        refine LW.ex rfl rfl rfl rfl (Ex.not rfl rfl) hS.rd ?_
        refine LW.ex rfl rfl rfl rfl (by first | exact Ex.pick_yes rfl rfl | exact Ex.pick_no rfl rfl) hS.rd ?_
        refine LW.ex rfl rfl rfl rfl (Ex.move rfl) hS.rd ?_
        refine LW.skip rfl rfl rfl rfl ?_
        refine LW.skip rfl rfl rfl rfl ?_
        refine LW.ex rfl rfl rfl rfl (by first | exact Ex.pick_yes rfl rfl | exact Ex.pick_no rfl rfl) hS.rd ?_
        refine LW.nil fun aa ha => hK82 _ _ _ ?_ aa ha
        refine CW.yes rfl ?_
        refine CW.seq fun K83 hK83 => ?_
        refine CW.region [0] rfl ?_
        refine LW.ex rfl rfl rfl rfl (Ex.assign rfl) hS.rd ?_
        refine LW.nil fun aa ha => hK83 _ _ _ ?_ aa ha
        refine CW.ret fun aa ha => ?_
        refine ret_one ha Try.results23 rfl ?_
        refine hS.retB ?_
        unfold validA
        rw [h1_2, h2_2, h3_2]; simp
      · skip
        refine LW.ex rfl rfl rfl rfl (Ex.assign rfl) hS.rd ?_
        refine LW.nil fun aa ha => hK80 _ _ _ ?_ aa ha
        refine CW.seq fun K84 hK84 => ?_
        refine CW.seq fun K85 hK85 => ?_
        refine CW.region [0, 1, 2, 3, 4, 5, 6, 7, 8, 9] rfl ?_
        refine LW.ex rfl rfl rfl rfl (Ex.move rfl) hS.rd ?_
        refine LW.ex rfl rfl rfl rfl (Ex.not rfl rfl) hS.rd ?_
        refine LW.ex rfl rfl rfl rfl (Ex.move rfl) hS.rd ?_
        refine LW.ex rfl rfl rfl rfl (Ex.move rfl) hS.rd ?_
        refine LW.ex rfl rfl rfl rfl (Ex.not rfl rfl) hS.rd ?_
        refine LW.ex rfl rfl rfl rfl (by first | exact Ex.pick_yes rfl rfl | exact Ex.pick_no rfl rfl) hS.rd ?_
        refine LW.ex rfl rfl rfl rfl (Ex.move rfl) hS.rd ?_
        refine LW.skip rfl rfl rfl rfl ?_
        refine LW.skip rfl rfl rfl rfl ?_
        refine LW.ex rfl rfl rfl rfl (by first | exact Ex.pick_yes rfl rfl | exact Ex.pick_no rfl rfl) hS.rd ?_
        refine LW.nil fun aa ha => hK85 _ _ _ ?_ aa ha
        refine CW.yes rfl ?_
        refine CW.seq fun K86 hK86 => ?_
        refine CW.region [0] rfl ?_
        refine LW.ex rfl rfl rfl rfl (Ex.assign rfl) hS.rd ?_
        refine LW.nil fun aa ha => hK86 _ _ _ ?_ aa ha
        refine CW.ret fun aa ha => ?_
        refine ret_one ha Try.results23 rfl ?_
        refine hS.retB ?_
        unfold validA
        rw [h1_2, h2_2, h3_2]; simp
  · skip
    refine LW.ex rfl rfl rfl rfl (Ex.assign rfl) hS.rd ?_
    refine LW.nil fun aa ha => hK56 _ _ _ ?_ aa ha
    refine CW.seq fun K87 hK87 => ?_
    refine CW.region [0, 1, 2, 3] rfl ?_
    refine LW.ex rfl rfl rfl rfl (Ex.fieldO 1 Try.underlying31 rfl rfl ti28 rfl) hS.rd ?_
    refine LW.ex rfl rfl rfl rfl (Ex.load1 ti28 rfl rfl (by first | exact Rd.obj (k := 0) rfl rfl | exact Rd.obj (k := 1) rfl rfl | exact Rd.obj (k := 2) rfl rfl | exact Rd.obj (k := 3) rfl rfl | exact Rd.obj (k := 4) rfl rfl | exact Rd.imm (by assumption) | exact Rd.sl (k := 0) rfl (by assumption) | exact Rd.sl (k := 1) rfl (by assumption) | exact Rd.sl (k := 2) rfl (by assumption) | exact Rd.sl (k := 3) rfl (by assumption))) hS.rd ?_
    refine LW.hv rfl rfl rfl rfl (Hv.callS hS rfl rfl rfl cb50 (risingT_c b.Templates _ _ μ _ hS.imm h1)) fun v w15 ⟨hv, hS⟩ => ?_
    subst hv
    refine LW.splitB (fun h2_2 => ?_) (fun h2_2 => ?_)
    · skip
      refine LW.ex rfl rfl rfl rfl (Ex.assign rfl) hS.rd ?_
      refine LW.nil fun aa ha => hK87 _ _ _ ?_ aa ha
      refine CW.seq fun K88 hK88 => ?_
      refine CW.region [0, 1, 2, 3] rfl ?_
      refine LW.ex rfl rfl rfl rfl (Ex.fieldO 2 Try.underlying31 rfl rfl ti29 rfl) hS.rd ?_
      refine LW.ex rfl rfl rfl rfl (Ex.load1 ti29 rfl rfl (by first | exact Rd.obj (k := 0) rfl rfl | exact Rd.obj (k := 1) rfl rfl | exact Rd.obj (k := 2) rfl rfl | exact Rd.obj (k := 3) rfl rfl | exact Rd.obj (k := 4) rfl rfl | exact Rd.imm (by assumption) | exact Rd.sl (k := 0) rfl (by assumption) | exact Rd.sl (k := 1) rfl (by assumption) | exact Rd.sl (k := 2) rfl (by assumption) | exact Rd.sl (k := 3) rfl (by assumption))) hS.rd ?_
      refine LW.hv rfl rfl rfl rfl (Hv.callS hS rfl rfl rfl cb53 (risingC_c b.Chords _ _ μ _ hS.imm h2)) fun v w18 ⟨hv, hS⟩ => ?_
      subst hv
      refine LW.splitB (fun h3_2 => ?_) (fun h3_2 => ?_)
      · skip
        refine LW.ex rfl rfl rfl rfl (Ex.assign rfl) hS.rd ?_
        refine LW.nil fun aa ha => hK88 _ _ _ ?_ aa ha
        refine CW.seq fun K89 hK89 => ?_
        refine CW.seq fun K90 hK90 => ?_
        refine CW.region [0, 1, 2, 3, 4, 5, 6, 7, 8, 9] rfl ?_
        refine LW.ex rfl rfl rfl rfl (Ex.move rfl) hS.rd ?_
        refine LW.ex rfl rfl rfl rfl (Ex.not rfl rfl) hS.rd ?_
        refine LW.ex rfl rfl rfl rfl (Ex.move rfl) hS.rd ?_
        refine LW.skip rfl rfl rfl rfl ?_
        refine LW.skip rfl rfl rfl rfl ?_
        refine LW.ex rfl rfl rfl rfl (by first | exact Ex.pick_yes rfl rfl | exact Ex.pick_no rfl rfl) hS.rd ?_
        refine LW.ex rfl rfl rfl rfl (Ex.move rfl) hS.rd ?_
        refine LW.skip rfl rfl rfl rfl ?_
        refine LW.skip rfl rfl rfl rfl ?_
        refine LW.ex rfl rfl rfl rfl (by first | exact Ex.pick_yes rfl rfl | exact Ex.pick_no rfl rfl) hS.rd ?_
        refine LW.nil fun aa ha => hK90 _ _ _ ?_ aa ha
        refine CW.yes rfl ?_
        refine CW.seq fun K91 hK91 => ?_
        refine CW.region [0] rfl ?_
        refine LW.ex rfl rfl rfl rfl (Ex.assign rfl) hS.rd ?_
        refine LW.nil fun aa ha => hK91 _ _ _ ?_ aa ha
        refine CW.ret fun aa ha => ?_
        refine ret_one ha Try.results23 rfl ?_
        refine hS.retB ?_
        unfold validA
        rw [h1_2, h2_2, h3_2]; simp
      · skip
        refine LW.ex rfl rfl rfl rfl (Ex.assign rfl) hS.rd ?_
        refine LW.nil fun aa ha => hK88 _ _ _ ?_ aa ha
        refine CW.seq fun K92 hK92 => ?_
        refine CW.seq fun K93 hK93 => ?_
        refine CW.region [0, 1, 2, 3, 4, 5, 6, 7, 8, 9] rfl ?_
        refine LW.ex rfl rfl rfl rfl (Ex.move rfl) hS.rd ?_
        refine LW.ex rfl rfl rfl rfl (Ex.not rfl rfl) hS.rd ?_
        refine LW.ex rfl rfl rfl rfl (Ex.move rfl) hS.rd ?_
        refine LW.skip rfl rfl rfl rfl ?_
        refine LW.skip rfl rfl rfl rfl ?_
        refine LW.ex rfl rfl rfl rfl (by first | exact Ex.pick_yes rfl rfl | exact Ex.pick_no rfl rfl) hS.rd ?_
        refine LW.ex rfl rfl rfl rfl (Ex.move rfl) hS.rd ?_
        refine LW.skip rfl rfl rfl rfl ?_
        refine LW.skip rfl rfl rfl rfl ?_
        refine LW.ex rfl rfl rfl rfl (by first | exact Ex.pick_yes rfl rfl | exact Ex.pick_no rfl rfl) hS.rd ?_
        refine LW.nil fun aa ha => hK93 _ _ _ ?_ aa ha
        refine CW.yes rfl ?_
        refine CW.seq fun K94 hK94 => ?_
        refine CW.region [0] rfl ?_
        refine LW.ex rfl rfl rfl rfl (Ex.assign rfl) hS.rd ?_
        refine LW.nil fun aa ha => hK94 _ _ _ ?_ aa ha
        refine CW.ret fun aa ha => ?_
        refine ret_one ha Try.results23 rfl ?_
        refine hS.retB ?_
        unfold validA
        rw [h1_2, h2_2, h3_2]; simp
    · skip
      refine LW.ex rfl rfl rfl rfl (Ex.assign rfl) hS.rd ?_
      refine LW.nil fun aa ha => hK87 _ _ _ ?_ aa ha
      refine CW.seq fun K95 hK95 => ?_
      refine CW.region [0, 1, 2, 3] rfl ?_
      refine LW.ex rfl rfl rfl rfl (Ex.fieldO 2 Try.underlying31 rfl rfl ti29 rfl) hS.rd ?_
      refine LW.ex rfl rfl rfl rfl (Ex.load1 ti29 rfl rfl (by first | exact Rd.obj (k := 0) rfl rfl | exact Rd.obj (k := 1) rfl rfl | exact Rd.obj (k := 2) rfl rfl | exact Rd.obj (k := 3) rfl rfl | exact Rd.obj (k := 4) rfl rfl | exact Rd.imm (by assumption) | exact Rd.sl (k := 0) rfl (by assumption) | exact Rd.sl (k := 1) rfl (by assumption) | exact Rd.sl (k := 2) rfl (by assumption) | exact Rd.sl (k := 3) rfl (by assumption))) hS.rd ?_
      refine LW.hv rfl rfl rfl rfl (Hv.callS hS rfl rfl rfl cb53 (risingC_c b.Chords _ _ μ _ hS.imm h2)) fun v w18 ⟨hv, hS⟩ => ?_
      subst hv
      refine LW.splitB (fun h3_2 => ?_) (fun h3_2 => ?_)
      · skip
        refine LW.ex rfl rfl rfl rfl (Ex.assign rfl) hS.rd ?_
        refine LW.nil fun aa ha => hK95 _ _ _ ?_ aa ha
        refine CW.seq fun K96 hK96 => ?_
        refine CW.seq fun K97 hK97 => ?_
        refine CW.region [0, 1, 2, 3, 4, 5, 6, 7, 8, 9] rfl ?_
        refine LW.ex rfl rfl rfl rfl (Ex.move rfl) hS.rd ?_
        refine LW.ex rfl rfl rfl rfl (Ex.not rfl rfl) hS.rd ?_
        refine LW.ex rfl rfl rfl rfl (Ex.move rfl) hS.rd ?_
        refine LW.skip rfl rfl rfl rfl ?_
        refine LW.skip rfl rfl rfl rfl ?_
        refine LW.ex rfl rfl rfl rfl (by first | exact Ex.pick_yes rfl rfl | exact Ex.pick_no rfl rfl) hS.rd ?_
        refine LW.ex rfl rfl rfl rfl (Ex.move rfl) hS.rd ?_
        refine LW.skip rfl rfl rfl rfl ?_
        refine LW.skip rfl rfl rfl rfl ?_
        refine LW.ex rfl rfl rfl rfl (by first | exact Ex.pick_yes rfl rfl | exact Ex.pick_no rfl rfl) hS.rd ?_
        refine LW.nil fun aa ha => hK97 _ _ _ ?_ aa ha
        refine CW.yes rfl ?_
        refine CW.seq fun K98 hK98 => ?_
        refine CW.region [0] rfl ?_
        refine LW.ex rfl rfl rfl rfl (Ex.assign rfl) hS.rd ?_
        refine LW.nil fun aa ha => hK98 _ _ _ ?_ aa ha
        refine CW.ret fun aa ha => ?_
        refine ret_one ha Try.results23 rfl ?_
        refine hS.retB ?_
        unfold validA
        rw [h1_2, h2_2, h3_2]; simp
      · skip
        refine LW.ex rfl rfl rfl rfl (Ex.assign rfl) hS.rd ?_
        refine LW.nil fun aa ha => hK95 _ _ _ ?_ aa ha
        refine CW.seq fun K99 hK99 => ?_
        refine CW.seq fun K100 hK100 => ?_
        refine CW.region [0, 1, 2, 3, 4, 5, 6, 7, 8, 9] rfl ?_
        refine LW.ex rfl rfl rfl rfl (Ex.move rfl) hS.rd ?_
        refine LW.ex rfl rfl rfl rfl (Ex.not rfl rfl) hS.rd ?_
        refine LW.ex rfl rfl rfl rfl (Ex.move rfl) hS.rd ?_
        refine LW.skip rfl rfl rfl rfl ?_
        refine LW.skip rfl rfl rfl rfl ?_
        refine LW.ex rfl rfl rfl rfl (by first | exact Ex.pick_yes rfl rfl | exact Ex.pick_no rfl rfl) hS.rd ?_
        refine LW.ex rfl rfl rfl rfl (Ex.move rfl) hS.rd ?_
        refine LW.skip rfl rfl rfl rfl ?_
        refine LW.skip rfl rfl rfl rfl ?_
        refine LW.ex rfl rfl rfl rfl (by first | exact Ex.pick_yes rfl rfl | exact Ex.pick_no rfl rfl) hS.rd ?_
        refine LW.nil fun aa ha => hK100 _ _ _ ?_ aa ha
        refine CW.yes rfl ?_
        refine CW.seq fun K101 hK101 => ?_
        refine CW.region [0] rfl ?_
        refine LW.ex rfl rfl rfl rfl (Ex.assign rfl) hS.rd ?_
        refine LW.nil fun aa ha => hK101 _ _ _ ?_ aa ha
        refine CW.ret fun aa ha => ?_
        refine ret_one ha Try.results23 rfl ?_
        refine hS.retB ?_
        unfold validA
        rw [h1_2, h2_2, h3_2]; simp
end Go.Proofs.Ytphgjongflkolaa

