/-
  Areas: the walks of the reference's Valid.
-/
import Derived.Test.YtphgjongflkolaaArK
namespace Go.Proofs.Ytphgjongflkolaa
open Go.RowKit Sy

def areasR (l : List Area) : Bool := rises okArea (fun x y => keyLt x.Key y.Key) none l && decide (l.length ≤ 26) && (List.range l.length).all fun i => (l.take i).all fun o => match l[i]? with | some a => apartA a o | none => true
theorem areasR_not1 {l : List Area} (h : rises okArea (fun x y => keyLt x.Key y.Key) none l = false) : areasR l = false := by unfold areasR; rw [h]; rfl
set_option maxRecDepth 100000 in
set_option maxHeartbeats 1000000 in
theorem refareas_c (l : List Area) (ad : Option Addr) (c : Nat) (μ : Mem) (w : World) (hμ : Imm μ w) (hl : Sl μ ad c l) :
    Calls Try.prog 57 #[.slice ad l.length c] w (RetS w (.bool (areasR l))) := by
  have hll : l.length ≤ 9223372036854775807 := by have := hl.1; have := hl.2.1; simp only [maxLen] at this; omega
  have hS := St.start w μ hμ
  refine calls_start 113 [.slice ad l.length c] Try.func57 rfl Try.ntmps57 rfl rfl ?_
  refine CW.seq fun K1 hK1 => ?_
  refine CW.region [0] rfl ?_
  refine LW.ex rfl rfl rfl rfl (Ex.assign rfl) hS.rd ?_
  refine LW.nil fun aa ha => hK1 _ _ _ ?_ aa ha
  refine CW.seq fun K2 hK2 => ?_
  refine CW.seq fun K3 hK3 => ?_
  refine CW.region [0] rfl ?_
  refine LW.ex rfl rfl rfl rfl (Ex.assign rfl) hS.rd ?_
  refine LW.nil fun aa ha => hK3 _ _ _ ?_ aa ha
  refine CW.block ?_
  refine CW.loop (fun q m wl2 => ∃ (i : Nat), i ≤ l.length ∧ q = l.length - i ∧ m = [(0, .slice ad l.length c), (3, .int .i64 i)] ∧ St w wl2 μ [] ∧ (rises okArea (fun x y => keyLt x.Key y.Key) none l = rises okArea (fun x y => keyLt x.Key y.Key) (prevOf l i) (l.drop i)) ∧ (∀ j, j < i → ((l.take j).all fun o => match l[j]? with | some a => apartA a o | none => true) = true)) _ ⟨0, (by first | omega | (simp; done) | (simp; omega)), rfl, rfl, hS, rfl, fun j hj => by omega⟩ ⟨rfl, rfl, trivial⟩ ?_
  clear hS
  rintro q m wl2 ⟨i, hi, hq, rfl, hS, he, ha2⟩
  refine CW.seq fun K4 hK4 => ?_
  refine CW.seq fun K5 hK5 => ?_
  refine CW.region [0, 1, 2, 3] rfl ?_
  refine LW.ex rfl rfl rfl rfl (Ex.move rfl) hS.rd ?_
  refine LW.ex rfl rfl rfl rfl (Ex.move rfl) hS.rd ?_
  refine LW.ex rfl rfl rfl rfl (Ex.lenSl rfl Try.underlying27 rfl) hS.rd ?_
  refine LW.ex rfl rfl rfl rfl (Ex.lss rfl rfl rfl) hS.rd ?_
  refine LW.splitB (fun h2_3 => ?_) (fun h2_3 => ?_)
  · have h2_3 := of_decide_eq_true h2_3
    refine LW.nil fun aa ha => hK5 _ _ _ ?_ aa ha
    refine CW.yes rfl ?_
    refine CW.skip fun aa ha => hK4 _ _ _ ?_ aa ha
    refine CW.seq fun K6 hK6 => ?_
    refine CW.block ?_
    refine CW.seq fun K7 hK7 => ?_
    have hi2 : i < l.length := by omega
    have hnn : i - 1 < l.length := by omega
    obtain ⟨bl, ol, rfl, k0, k1, k2, k3, k4⟩ := hl.at hi2
    obtain ⟨bl', ol', e', j0, j1, j2, j3, j4⟩ := hl.at hnn
    cases e'
    refine CW.region [0, 1, 2, 3, 4, 5] rfl ?_
    refine LW.ex rfl rfl rfl rfl (Ex.move rfl) hS.rd ?_
    refine LW.ex rfl rfl rfl rfl (Ex.move rfl) hS.rd ?_
    refine LW.ex rfl rfl rfl rfl (Ex.indexSl Try.underlying27 ti57 rfl rfl rfl (by omega)) hS.rd ?_
    refine LW.ex rfl rfl rfl rfl (Ex.load5c ti57 rfl rfl (by first | exact Rd.obj (k := 0) rfl rfl | exact Rd.obj (k := 1) rfl rfl | exact Rd.obj (k := 2) rfl rfl | exact Rd.obj (k := 3) rfl rfl | exact Rd.obj (k := 4) rfl rfl | exact Rd.imm (by assumption) | exact Rd.sl (k := 0) rfl (by assumption) | exact Rd.sl (k := 1) rfl (by assumption) | exact Rd.sl (k := 2) rfl (by assumption) | exact Rd.sl (k := 3) rfl (by assumption)) (by first | exact Rd.obj (k := 0) rfl rfl | exact Rd.obj (k := 1) rfl rfl | exact Rd.obj (k := 2) rfl rfl | exact Rd.obj (k := 3) rfl rfl | exact Rd.obj (k := 4) rfl rfl | exact Rd.imm (by assumption) | exact Rd.sl (k := 0) rfl (by assumption) | exact Rd.sl (k := 1) rfl (by assumption) | exact Rd.sl (k := 2) rfl (by assumption) | exact Rd.sl (k := 3) rfl (by assumption)) (by first | exact Rd.obj (k := 0) rfl rfl | exact Rd.obj (k := 1) rfl rfl | exact Rd.obj (k := 2) rfl rfl | exact Rd.obj (k := 3) rfl rfl | exact Rd.obj (k := 4) rfl rfl | exact Rd.imm (by assumption) | exact Rd.sl (k := 0) rfl (by assumption) | exact Rd.sl (k := 1) rfl (by assumption) | exact Rd.sl (k := 2) rfl (by assumption) | exact Rd.sl (k := 3) rfl (by assumption)) (by first | exact Rd.obj (k := 0) rfl rfl | exact Rd.obj (k := 1) rfl rfl | exact Rd.obj (k := 2) rfl rfl | exact Rd.obj (k := 3) rfl rfl | exact Rd.obj (k := 4) rfl rfl | exact Rd.imm (by assumption) | exact Rd.sl (k := 0) rfl (by assumption) | exact Rd.sl (k := 1) rfl (by assumption) | exact Rd.sl (k := 2) rfl (by assumption) | exact Rd.sl (k := 3) rfl (by assumption)) (by first | exact Rd.obj (k := 0) rfl rfl | exact Rd.obj (k := 1) rfl rfl | exact Rd.obj (k := 2) rfl rfl | exact Rd.obj (k := 3) rfl rfl | exact Rd.obj (k := 4) rfl rfl | exact Rd.imm (by assumption) | exact Rd.sl (k := 0) rfl (by assumption) | exact Rd.sl (k := 1) rfl (by assumption) | exact Rd.sl (k := 2) rfl (by assumption) | exact Rd.sl (k := 3) rfl (by assumption))) hS.rd ?_
    refine LW.hv rfl rfl rfl rfl (Hv.alloc ti57 hS) fun v w4 ⟨b4, hv, hb4, hS⟩ => ?_
    subst hv
    refine LW.hu rfl rfl rfl (Hv.storeN (k := 0) ti57 hS rfl rfl rfl rfl (by simp [Value.oneCell'])) fun _ w_5 hS => ?_
    dsimp only [List.set] at hS
    refine LW.nil fun aa ha => hK7 _ _ _ ?_ aa ha
    refine CW.seq fun K8 hK8 => ?_
    have hJ5 : ∀ (wj : World) , St w wj μ [Own.obj b4 (areaL l[i]) 57] → (okArea l[i] = true) → (0 < i → keyLt l[i - 1].Key l[i].Key = true) → KW K8 113 [(0, .slice (some ⟨bl, ol, none⟩) l.length c), (3, .int .i64 i), (4, .pointer (some ⟨b4, 0, none⟩))] wj := by
      intro wj  hS hok hlt
      refine hK8 _ _ _ ?_
      refine CW.seq fun K9 hK9 => ?_
      refine CW.region [0] rfl ?_
      refine LW.ex rfl rfl rfl rfl (Ex.assign rfl) hS.rd ?_
      refine LW.nil fun aa ha => hK9 _ _ _ ?_ aa ha
      refine CW.block ?_
      refine CW.loop (fun q m wl8 => ∃ (k : Nat), k ≤ i ∧ q = i - k ∧ m = [(0, .slice (some ⟨bl, ol, none⟩) l.length c), (3, .int .i64 i), (4, .pointer (some ⟨b4, 0, none⟩)), (5, .int .i64 k)] ∧ St w wl8 μ [Own.obj b4 (areaL l[i]) 57] ∧ (∀ j (h : j < l.length), j < k → apartA l[i] l[j] = true)) _ ⟨0, (by first | omega | (simp; done) | (simp; omega)), rfl, rfl, hS, fun j _ hj => by omega⟩ ⟨rfl, rfl, rfl, rfl, trivial⟩ ?_
      clear hS
      clear j0 j1 j2 j3 j4
      rintro q m wl8 ⟨k, hk, hq, rfl, hS, hin⟩
      refine CW.seq fun K10 hK10 => ?_
      refine CW.seq fun K11 hK11 => ?_
      refine CW.region [0, 1, 2] rfl ?_
      refine LW.ex rfl rfl rfl rfl (Ex.move rfl) hS.rd ?_
      refine LW.ex rfl rfl rfl rfl (Ex.move rfl) hS.rd ?_
      refine LW.ex rfl rfl rfl rfl (Ex.lss rfl rfl rfl) hS.rd ?_
      refine LW.splitB (fun h8_2 => ?_) (fun h8_2 => ?_)
      · have h8_2 := of_decide_eq_true h8_2
        refine LW.nil fun aa ha => hK11 _ _ _ ?_ aa ha
        refine CW.yes rfl ?_
        refine CW.skip fun aa ha => hK10 _ _ _ ?_ aa ha
        refine CW.seq fun K12 hK12 => ?_
        refine CW.block ?_
        refine CW.seq fun K13 hK13 => ?_
        have hk7 : k < l.length := by omega
        obtain ⟨bl', ol', e', j0, j1, j2, j3, j4⟩ := hl.at hk7
        cases e'
        have hS := hS.drew
        refine CW.draw 38 (.ex 0 <| .ex 1 <| .ex 2 <| .ex 3 <| .ex 4 <| .ex 5 <| .ex 6 <| .ex 7 <| .ex 8 <| .ex 9 <| .ex 10 <| .ex 11 <| .ex 12 <| .ex 13 <| .ex 14 <| .ex 15 <| .ex 16 <| .ex 17 <| .ex 18 <| .ex 19 <| .ex 20 <| .ex 21 <| .ex 22 <| .ex 23 <| .ex 24 <| .ex 25 <| .ex 26 <| .ex 27 <| .ex 28 <| .ex 29 <| .ex 30 <| .ex 31 <| .ex 32 <| .ex 33 <| .ex 34 <| .ex 35 <| .ex 36 <| .ex 37 <| .done) [] (Rd _ _) mixed (by kernel_rfl) rfl rfl hS.rd ?_
        refine PW.ex rfl rfl rfl rfl (Ex.fieldO 1 Try.underlying57 rfl rfl ti3 rfl) ?_
        refine PW.ex rfl rfl rfl rfl (Ex.load1 ti3 rfl rfl (by first | exact Rd.obj (k := 0) rfl rfl | exact Rd.obj (k := 1) rfl rfl | exact Rd.obj (k := 2) rfl rfl | exact Rd.obj (k := 3) rfl rfl | exact Rd.obj (k := 4) rfl rfl | exact Rd.imm (by assumption) | exact Rd.sl (k := 0) rfl (by assumption) | exact Rd.sl (k := 1) rfl (by assumption) | exact Rd.sl (k := 2) rfl (by assumption) | exact Rd.sl (k := 3) rfl (by assumption))) ?_
        refine PW.ex rfl rfl rfl rfl (Ex.move rfl) ?_
        refine PW.ex rfl rfl rfl rfl (Ex.move rfl) ?_
        refine PW.ex rfl rfl rfl rfl (Ex.indexSl Try.underlying27 ti57 rfl rfl rfl (by omega)) ?_
        refine PW.ex rfl rfl rfl rfl (Ex.fieldO 3 Try.underlying57 rfl rfl ti3 rfl) ?_
        refine PW.ex rfl rfl rfl rfl (Ex.load1 ti3 rfl rfl (by first | exact Rd.obj (k := 0) rfl rfl | exact Rd.obj (k := 1) rfl rfl | exact Rd.obj (k := 2) rfl rfl | exact Rd.obj (k := 3) rfl rfl | exact Rd.obj (k := 4) rfl rfl | exact Rd.imm (by assumption) | exact Rd.sl (k := 0) rfl (by assumption) | exact Rd.sl (k := 1) rfl (by assumption) | exact Rd.sl (k := 2) rfl (by assumption) | exact Rd.sl (k := 3) rfl (by assumption))) ?_
        refine PW.ex rfl rfl rfl rfl (Ex.leq rfl rfl rfl) ?_
        refine PW.splitB (fun h10_7 => ?_) (fun h10_7 => ?_)
        · have h10_7 := of_decide_eq_true h10_7
          refine PW.ex rfl rfl rfl rfl (Ex.move rfl) ?_
          refine PW.ex rfl rfl rfl rfl (Ex.move rfl) ?_
          refine PW.ex rfl rfl rfl rfl (Ex.move rfl) ?_
          refine PW.ex rfl rfl rfl rfl (Ex.indexSl Try.underlying27 ti57 rfl rfl rfl (by omega)) ?_
          refine PW.ex rfl rfl rfl rfl (Ex.fieldO 1 Try.underlying57 rfl rfl ti3 rfl) ?_
          refine PW.ex rfl rfl rfl rfl (Ex.load1 ti3 rfl rfl (by first | exact Rd.obj (k := 0) rfl rfl | exact Rd.obj (k := 1) rfl rfl | exact Rd.obj (k := 2) rfl rfl | exact Rd.obj (k := 3) rfl rfl | exact Rd.obj (k := 4) rfl rfl | exact Rd.imm (by assumption) | exact Rd.sl (k := 0) rfl (by assumption) | exact Rd.sl (k := 1) rfl (by assumption) | exact Rd.sl (k := 2) rfl (by assumption) | exact Rd.sl (k := 3) rfl (by assumption))) ?_
          refine PW.ex rfl rfl rfl rfl (Ex.fieldO 3 Try.underlying57 rfl rfl ti3 rfl) ?_
          refine PW.ex rfl rfl rfl rfl (Ex.load1 ti3 rfl rfl (by first | exact Rd.obj (k := 0) rfl rfl | exact Rd.obj (k := 1) rfl rfl | exact Rd.obj (k := 2) rfl rfl | exact Rd.obj (k := 3) rfl rfl | exact Rd.obj (k := 4) rfl rfl | exact Rd.imm (by assumption) | exact Rd.sl (k := 0) rfl (by assumption) | exact Rd.sl (k := 1) rfl (by assumption) | exact Rd.sl (k := 2) rfl (by assumption) | exact Rd.sl (k := 3) rfl (by assumption))) ?_
          refine PW.ex rfl rfl rfl rfl (Ex.leq rfl rfl rfl) ?_
          refine PW.splitB (fun h10_16 => ?_) (fun h10_16 => ?_)
          · have h10_16 := of_decide_eq_true h10_16
            refine PW.ex rfl rfl rfl rfl (by first | exact Ex.pick_yes rfl rfl | exact Ex.pick_no rfl rfl) ?_
            refine PW.ex rfl rfl rfl rfl (Ex.move rfl) ?_
            refine PW.ex rfl rfl rfl rfl (Ex.fieldO 2 Try.underlying57 rfl rfl ti3 rfl) ?_
            refine PW.ex rfl rfl rfl rfl (Ex.load1 ti3 rfl rfl (by first | exact Rd.obj (k := 0) rfl rfl | exact Rd.obj (k := 1) rfl rfl | exact Rd.obj (k := 2) rfl rfl | exact Rd.obj (k := 3) rfl rfl | exact Rd.obj (k := 4) rfl rfl | exact Rd.imm (by assumption) | exact Rd.sl (k := 0) rfl (by assumption) | exact Rd.sl (k := 1) rfl (by assumption) | exact Rd.sl (k := 2) rfl (by assumption) | exact Rd.sl (k := 3) rfl (by assumption))) ?_
            refine PW.ex rfl rfl rfl rfl (Ex.move rfl) ?_
            refine PW.ex rfl rfl rfl rfl (Ex.move rfl) ?_
            refine PW.ex rfl rfl rfl rfl (Ex.indexSl Try.underlying27 ti57 rfl rfl rfl (by omega)) ?_
            refine PW.ex rfl rfl rfl rfl (Ex.fieldO 4 Try.underlying57 rfl rfl ti3 rfl) ?_
            refine PW.ex rfl rfl rfl rfl (Ex.load1 ti3 rfl rfl (by first | exact Rd.obj (k := 0) rfl rfl | exact Rd.obj (k := 1) rfl rfl | exact Rd.obj (k := 2) rfl rfl | exact Rd.obj (k := 3) rfl rfl | exact Rd.obj (k := 4) rfl rfl | exact Rd.imm (by assumption) | exact Rd.sl (k := 0) rfl (by assumption) | exact Rd.sl (k := 1) rfl (by assumption) | exact Rd.sl (k := 2) rfl (by assumption) | exact Rd.sl (k := 3) rfl (by assumption))) ?_
            refine PW.ex rfl rfl rfl rfl (Ex.leq rfl rfl rfl) ?_
            refine PW.splitB (fun h10_26 => ?_) (fun h10_26 => ?_)
            · have h10_26 := of_decide_eq_true h10_26
              refine PW.ex rfl rfl rfl rfl (by first | exact Ex.pick_yes rfl rfl | exact Ex.pick_no rfl rfl) ?_
              refine PW.ex rfl rfl rfl rfl (Ex.move rfl) ?_
              refine PW.ex rfl rfl rfl rfl (Ex.move rfl) ?_
              refine PW.ex rfl rfl rfl rfl (Ex.move rfl) ?_
              refine PW.ex rfl rfl rfl rfl (Ex.indexSl Try.underlying27 ti57 rfl rfl rfl (by omega)) ?_
              refine PW.ex rfl rfl rfl rfl (Ex.fieldO 2 Try.underlying57 rfl rfl ti3 rfl) ?_
              refine PW.ex rfl rfl rfl rfl (Ex.load1 ti3 rfl rfl (by first | exact Rd.obj (k := 0) rfl rfl | exact Rd.obj (k := 1) rfl rfl | exact Rd.obj (k := 2) rfl rfl | exact Rd.obj (k := 3) rfl rfl | exact Rd.obj (k := 4) rfl rfl | exact Rd.imm (by assumption) | exact Rd.sl (k := 0) rfl (by assumption) | exact Rd.sl (k := 1) rfl (by assumption) | exact Rd.sl (k := 2) rfl (by assumption) | exact Rd.sl (k := 3) rfl (by assumption))) ?_
              refine PW.ex rfl rfl rfl rfl (Ex.fieldO 4 Try.underlying57 rfl rfl ti3 rfl) ?_
              refine PW.ex rfl rfl rfl rfl (Ex.load1 ti3 rfl rfl (by first | exact Rd.obj (k := 0) rfl rfl | exact Rd.obj (k := 1) rfl rfl | exact Rd.obj (k := 2) rfl rfl | exact Rd.obj (k := 3) rfl rfl | exact Rd.obj (k := 4) rfl rfl | exact Rd.imm (by assumption) | exact Rd.sl (k := 0) rfl (by assumption) | exact Rd.sl (k := 1) rfl (by assumption) | exact Rd.sl (k := 2) rfl (by assumption) | exact Rd.sl (k := 3) rfl (by assumption))) ?_
              refine PW.ex rfl rfl rfl rfl (Ex.leq rfl rfl rfl) ?_
              refine PW.splitB (fun h10_36 => ?_) (fun h10_36 => ?_)
              · have h10_36 := of_decide_eq_true h10_36
                refine PW.ex rfl rfl rfl rfl (by first | exact Ex.pick_yes rfl rfl | exact Ex.pick_no rfl rfl) ?_
                refine PW.nil ?_
                refine LW.nil fun aa ha => hK13 _ _ _ ?_ aa ha
                refine CW.yes rfl ?_
                refine CW.seq fun K14 hK14 => ?_
                refine CW.region [0] rfl ?_
                refine LW.ex rfl rfl rfl rfl (Ex.assign rfl) hS.rd ?_
                refine LW.nil fun aa ha => hK14 _ _ _ ?_ aa ha
                refine CW.ret fun aa ha => ?_
                refine ret_one ha Try.results57 rfl ?_
                refine hS.retB ?_
                symm
                unfold areasR
                rw [Bool.and_eq_false_iff]; right
                rw [List.all_eq_false]
                refine ⟨i, by simp [hi2], ?_⟩
                rw [List.getElem?_eq_getElem hi2]
                simp only [Bool.not_eq_true, List.all_eq_false]
                exact ⟨l[k], List.mem_take_iff_getElem.2 ⟨k, by omega, rfl⟩, by simp only [apartA]; simp; omega⟩
              · have h10_36 := of_decide_eq_false h10_36
                refine PW.ex rfl rfl rfl rfl (by first | exact Ex.pick_yes rfl rfl | exact Ex.pick_no rfl rfl) ?_
                refine PW.nil ?_
                refine LW.nil fun aa ha => hK13 _ _ _ ?_ aa ha
                refine CW.no rfl ?_
                refine CW.skip fun aa ha => hK12 _ _ _ ?_ aa ha
                refine CW.region [0, 1, 2] rfl ?_
                refine LW.ex rfl rfl rfl rfl (Ex.move rfl) hS.rd ?_
                refine LW.ex rfl rfl rfl rfl (Ex.add rfl rfl (by first | exact inc64 (by omega) | exact addN (by omega) | exact w64 (by omega) (by omega))) hS.rd ?_
                refine LW.ex rfl rfl rfl rfl (Ex.assign rfl) hS.rd ?_
                refine LW.nil fun aa ha => ?_
                refine ⟨_, _, ?m8, ⟨k + 1, (by first | omega | (simp; done) | (simp; omega)), rfl, rfl, hS, ?_⟩, ha.sub ⟨rfl, rfl, rfl, rfl, trivial⟩⟩
                case m8 => omega
                intro j hj hjk
                by_cases hjk' : j = k
                · subst hjk'; exact decide_eq_true (by omega)
                · exact hin j hj (by omega)
            · have h10_26 := of_decide_eq_false h10_26
              refine PW.ex rfl rfl rfl rfl (by first | exact Ex.pick_yes rfl rfl | exact Ex.pick_no rfl rfl) ?_
              refine PW.ex rfl rfl rfl rfl (Ex.move rfl) ?_
              refine PW.skip rfl rfl rfl rfl ?_
              refine PW.skip rfl rfl rfl rfl ?_
              refine PW.skip rfl rfl rfl rfl ?_
              refine PW.skip rfl rfl rfl rfl ?_
              refine PW.skip rfl rfl rfl rfl ?_
              refine PW.skip rfl rfl rfl rfl ?_
              refine PW.skip rfl rfl rfl rfl ?_
              refine PW.skip rfl rfl rfl rfl ?_
              refine PW.ex rfl rfl rfl rfl (by first | exact Ex.pick_yes rfl rfl | exact Ex.pick_no rfl rfl) ?_
              refine PW.nil ?_
              refine LW.nil fun aa ha => hK13 _ _ _ ?_ aa ha
              refine CW.no rfl ?_
              refine CW.skip fun aa ha => hK12 _ _ _ ?_ aa ha
              refine CW.region [0, 1, 2] rfl ?_
              refine LW.ex rfl rfl rfl rfl (Ex.move rfl) hS.rd ?_
              refine LW.ex rfl rfl rfl rfl (Ex.add rfl rfl (by first | exact inc64 (by omega) | exact addN (by omega) | exact w64 (by omega) (by omega))) hS.rd ?_
              refine LW.ex rfl rfl rfl rfl (Ex.assign rfl) hS.rd ?_
              refine LW.nil fun aa ha => ?_
              refine ⟨_, _, ?m8, ⟨k + 1, (by first | omega | (simp; done) | (simp; omega)), rfl, rfl, hS, ?_⟩, ha.sub ⟨rfl, rfl, rfl, rfl, trivial⟩⟩
              case m8 => omega
              intro j hj hjk
              by_cases hjk' : j = k
              · subst hjk'; exact decide_eq_true (by omega)
              · exact hin j hj (by omega)
          · have h10_16 := of_decide_eq_false h10_16
            refine PW.ex rfl rfl rfl rfl (by first | exact Ex.pick_yes rfl rfl | exact Ex.pick_no rfl rfl) ?_
            refine PW.ex rfl rfl rfl rfl (Ex.move rfl) ?_
            refine PW.skip rfl rfl rfl rfl ?_
            refine PW.skip rfl rfl rfl rfl ?_
            refine PW.skip rfl rfl rfl rfl ?_
            refine PW.skip rfl rfl rfl rfl ?_
            refine PW.skip rfl rfl rfl rfl ?_
            refine PW.skip rfl rfl rfl rfl ?_
            refine PW.skip rfl rfl rfl rfl ?_
            refine PW.skip rfl rfl rfl rfl ?_
            refine PW.ex rfl rfl rfl rfl (by first | exact Ex.pick_yes rfl rfl | exact Ex.pick_no rfl rfl) ?_
            refine PW.ex rfl rfl rfl rfl (Ex.move rfl) ?_
            refine PW.skip rfl rfl rfl rfl ?_
            refine PW.skip rfl rfl rfl rfl ?_
            refine PW.skip rfl rfl rfl rfl ?_
            refine PW.skip rfl rfl rfl rfl ?_
            refine PW.skip rfl rfl rfl rfl ?_
            refine PW.skip rfl rfl rfl rfl ?_
            refine PW.skip rfl rfl rfl rfl ?_
            refine PW.skip rfl rfl rfl rfl ?_
            refine PW.ex rfl rfl rfl rfl (by first | exact Ex.pick_yes rfl rfl | exact Ex.pick_no rfl rfl) ?_
            refine PW.nil ?_
            refine LW.nil fun aa ha => hK13 _ _ _ ?_ aa ha
            refine CW.no rfl ?_
            refine CW.skip fun aa ha => hK12 _ _ _ ?_ aa ha
            refine CW.region [0, 1, 2] rfl ?_
            refine LW.ex rfl rfl rfl rfl (Ex.move rfl) hS.rd ?_
            refine LW.ex rfl rfl rfl rfl (Ex.add rfl rfl (by first | exact inc64 (by omega) | exact addN (by omega) | exact w64 (by omega) (by omega))) hS.rd ?_
            refine LW.ex rfl rfl rfl rfl (Ex.assign rfl) hS.rd ?_
            refine LW.nil fun aa ha => ?_
            refine ⟨_, _, ?m8, ⟨k + 1, (by first | omega | (simp; done) | (simp; omega)), rfl, rfl, hS, ?_⟩, ha.sub ⟨rfl, rfl, rfl, rfl, trivial⟩⟩
            case m8 => omega
            intro j hj hjk
            by_cases hjk' : j = k
            · subst hjk'; exact decide_eq_true (by omega)
            · exact hin j hj (by omega)
        · have h10_7 := of_decide_eq_false h10_7
          refine PW.ex rfl rfl rfl rfl (Ex.move rfl) ?_
          refine PW.skip rfl rfl rfl rfl ?_
          refine PW.skip rfl rfl rfl rfl ?_
          refine PW.skip rfl rfl rfl rfl ?_
          refine PW.skip rfl rfl rfl rfl ?_
          refine PW.skip rfl rfl rfl rfl ?_
          refine PW.skip rfl rfl rfl rfl ?_
          refine PW.skip rfl rfl rfl rfl ?_
          refine PW.skip rfl rfl rfl rfl ?_
          refine PW.ex rfl rfl rfl rfl (by first | exact Ex.pick_yes rfl rfl | exact Ex.pick_no rfl rfl) ?_
          refine PW.ex rfl rfl rfl rfl (Ex.move rfl) ?_
          refine PW.skip rfl rfl rfl rfl ?_
          refine PW.skip rfl rfl rfl rfl ?_
          refine PW.skip rfl rfl rfl rfl ?_
          refine PW.skip rfl rfl rfl rfl ?_
          refine PW.skip rfl rfl rfl rfl ?_
          refine PW.skip rfl rfl rfl rfl ?_
          refine PW.skip rfl rfl rfl rfl ?_
          refine PW.skip rfl rfl rfl rfl ?_
          refine PW.ex rfl rfl rfl rfl (by first | exact Ex.pick_yes rfl rfl | exact Ex.pick_no rfl rfl) ?_
          refine PW.ex rfl rfl rfl rfl (Ex.move rfl) ?_
          refine PW.skip rfl rfl rfl rfl ?_
          refine PW.skip rfl rfl rfl rfl ?_
          refine PW.skip rfl rfl rfl rfl ?_
          refine PW.skip rfl rfl rfl rfl ?_
          refine PW.skip rfl rfl rfl rfl ?_
          refine PW.skip rfl rfl rfl rfl ?_
          refine PW.skip rfl rfl rfl rfl ?_
          refine PW.skip rfl rfl rfl rfl ?_
          refine PW.ex rfl rfl rfl rfl (by first | exact Ex.pick_yes rfl rfl | exact Ex.pick_no rfl rfl) ?_
          refine PW.nil ?_
          refine LW.nil fun aa ha => hK13 _ _ _ ?_ aa ha
          refine CW.no rfl ?_
          refine CW.skip fun aa ha => hK12 _ _ _ ?_ aa ha
          refine CW.region [0, 1, 2] rfl ?_
          refine LW.ex rfl rfl rfl rfl (Ex.move rfl) hS.rd ?_
          refine LW.ex rfl rfl rfl rfl (Ex.add rfl rfl (by first | exact inc64 (by omega) | exact addN (by omega) | exact w64 (by omega) (by omega))) hS.rd ?_
          refine LW.ex rfl rfl rfl rfl (Ex.assign rfl) hS.rd ?_
          refine LW.nil fun aa ha => ?_
          refine ⟨_, _, ?m8, ⟨k + 1, (by first | omega | (simp; done) | (simp; omega)), rfl, rfl, hS, ?_⟩, ha.sub ⟨rfl, rfl, rfl, rfl, trivial⟩⟩
          case m8 => omega
          intro j hj hjk
          by_cases hjk' : j = k
          · subst hjk'; exact decide_eq_true (by omega)
          · exact hin j hj (by omega)
      · have h8_2 := of_decide_eq_false h8_2
        refine LW.nil fun aa ha => hK11 _ _ _ ?_ aa ha
        refine CW.no rfl ?_
        refine CW.exit fun aa ha => hK6 _ _ _ ?_ aa ha
        refine CW.region [0, 1, 2] rfl ?_
        refine LW.ex rfl rfl rfl rfl (Ex.move rfl) hS.rd ?_
        refine LW.ex rfl rfl rfl rfl (Ex.add rfl rfl (by first | exact inc64 (by omega) | exact addN (by omega) | exact w64 (by omega) (by omega))) hS.rd ?_
        refine LW.ex rfl rfl rfl rfl (Ex.assign rfl) hS.rd ?_
        refine LW.nil fun aa ha => ?_
        have hS := hS.drop 0 rfl
        dsimp only [List.eraseIdx] at hS
        refine ⟨_, _, ?m2, ⟨i + 1, (by first | omega | (simp; done) | (simp; omega)), rfl, rfl, hS, ?_, ?_⟩, ha.sub ⟨rfl, rfl, trivial⟩⟩
        case m2 => omega
        · rw [he]; exact rises_step _ _ _ _ hi2 hok hlt
        · intro j hj
          by_cases hji : j = i
          · subst hji
            rw [List.all_eq_true]
            intro x hx
            obtain ⟨y, hy, rfl⟩ := List.getElem_of_mem hx
            rw [List.getElem_take, List.getElem?_eq_getElem hi2]
            rw [List.length_take] at hy
            exact hin y (by omega) (by omega)
          · exact ha2 j (by omega)
    refine CW.seq fun K15 hK15 => ?_
    have hS := hS.drew
    refine CW.draw 51 (.ex 0 <| .ex 1 <| .one 2 <| .ex 3 <| .ex 4 <| .ex 5 <| .ex 6 <| .ex 7 <| .ex 8 <| .ex 9 <| .ex 10 <| .ex 11 <| .ex 12 <| .ex 13 <| .ex 14 <| .ex 15 <| .ex 16 <| .ex 17 <| .ex 18 <| .ex 19 <| .ex 20 <| .ex 21 <| .ex 22 <| .ex 23 <| .ex 24 <| .one 25 <| .ex 26 <| .ex 27 <| .ex 28 <| .ex 29 <| .ex 30 <| .ex 31 <| .ex 32 <| .ex 33 <| .one 34 <| .ex 35 <| .ex 36 <| .ex 37 <| .ex 38 <| .ex 39 <| .ex 40 <| .ex 41 <| .ex 42 <| .ex 43 <| .ex 44 <| .ex 45 <| .ex 46 <| .ex 47 <| .ex 48 <| .ex 49 <| .ex 50 <| .done) [] (Rd _ _) mixed (by kernel_rfl) rfl rfl hS.rd ?_
    refine PW.ex rfl rfl rfl rfl (Ex.fieldO 0 Try.underlying57 rfl rfl ti5 rfl) ?_
    refine PW.ex rfl rfl rfl rfl (Ex.load1 ti5 rfl rfl (by first | exact Rd.obj (k := 0) rfl rfl | exact Rd.obj (k := 1) rfl rfl | exact Rd.obj (k := 2) rfl rfl | exact Rd.obj (k := 3) rfl rfl | exact Rd.obj (k := 4) rfl rfl | exact Rd.imm (by assumption) | exact Rd.sl (k := 0) rfl (by assumption) | exact Rd.sl (k := 1) rfl (by assumption) | exact Rd.sl (k := 2) rfl (by assumption) | exact Rd.sl (k := 3) rfl (by assumption))) ?_
    refine PW.hv rfl rfl rfl rfl (Hv.callS hS rfl rfl rfl cb61 (refletter_c _ _)) (fun _ _ h => h.2.rd) fun v w18 ⟨hv, hS⟩ => ?_
    subst hv
    refine PW.splitB (fun h5_2 => ?_) (fun h5_2 => ?_)
    · skip
      refine PW.ex rfl rfl rfl rfl (Ex.not rfl rfl) ?_
      refine PW.ex rfl rfl rfl rfl (Ex.move rfl) ?_
      refine PW.ex rfl rfl rfl rfl (Ex.move rfl) ?_
      refine PW.ex rfl rfl rfl rfl (Ex.gtr rfl rfl rfl) ?_
      refine PW.splitB (fun h5_6 => ?_) (fun h5_6 => ?_)
      · have h5_6 := of_decide_eq_true h5_6
        refine PW.ex rfl rfl rfl rfl (Ex.move rfl) ?_
        refine PW.ex rfl rfl rfl rfl (Ex.fieldO 0 Try.underlying57 rfl rfl ti5 rfl) ?_
        refine PW.ex rfl rfl rfl rfl (Ex.load1 ti5 rfl rfl (by first | exact Rd.obj (k := 0) rfl rfl | exact Rd.obj (k := 1) rfl rfl | exact Rd.obj (k := 2) rfl rfl | exact Rd.obj (k := 3) rfl rfl | exact Rd.obj (k := 4) rfl rfl | exact Rd.imm (by assumption) | exact Rd.sl (k := 0) rfl (by assumption) | exact Rd.sl (k := 1) rfl (by assumption) | exact Rd.sl (k := 2) rfl (by assumption) | exact Rd.sl (k := 3) rfl (by assumption))) ?_
        refine PW.ex rfl rfl rfl rfl (Ex.move rfl) ?_
        refine PW.ex rfl rfl rfl rfl (Ex.move rfl) ?_
        refine PW.ex rfl rfl rfl rfl (Ex.sub rfl rfl (by first | exact dec64 (by omega) (by omega) | exact subN (by omega) (by omega) | exact w64 (by omega) (by omega))) ?_
        refine PW.ex rfl rfl rfl rfl (Ex.indexSl Try.underlying27 ti57 rfl rfl rfl (by omega)) ?_
        refine PW.ex rfl rfl rfl rfl (Ex.fieldO 0 Try.underlying57 rfl rfl ti5 rfl) ?_
        refine PW.ex rfl rfl rfl rfl (Ex.load1 ti5 rfl rfl (by first | exact Rd.obj (k := 0) rfl rfl | exact Rd.obj (k := 1) rfl rfl | exact Rd.obj (k := 2) rfl rfl | exact Rd.obj (k := 3) rfl rfl | exact Rd.obj (k := 4) rfl rfl | exact Rd.imm (by assumption) | exact Rd.sl (k := 0) rfl (by assumption) | exact Rd.sl (k := 1) rfl (by assumption) | exact Rd.sl (k := 2) rfl (by assumption) | exact Rd.sl (k := 3) rfl (by assumption))) ?_
        refine PW.ex rfl rfl rfl rfl (Ex.leq rfl rfl rfl) ?_
        refine PW.splitB (fun h5_16 => ?_) (fun h5_16 => ?_)
        · have h5_16 := of_decide_eq_true h5_16
          refine PW.ex rfl rfl rfl rfl (by first | exact Ex.pick_yes rfl rfl | exact Ex.pick_no rfl rfl) ?_
          refine PW.ex rfl rfl rfl rfl (by first | exact Ex.pick_yes rfl rfl | exact Ex.pick_no rfl rfl) ?_
          refine PW.ex rfl rfl rfl rfl (Ex.move rfl) ?_
          refine PW.skip rfl rfl rfl rfl ?_
          refine PW.skip rfl rfl rfl rfl ?_
          refine PW.skip rfl rfl rfl rfl ?_
          refine PW.skip rfl rfl rfl rfl ?_
          refine PW.skip rfl rfl rfl rfl ?_
          refine PW.skip1 rfl rfl rfl rfl ?_
          refine PW.skip rfl rfl rfl rfl ?_
          refine PW.ex rfl rfl rfl rfl (by first | exact Ex.pick_yes rfl rfl | exact Ex.pick_no rfl rfl) ?_
          refine PW.ex rfl rfl rfl rfl (Ex.move rfl) ?_
          refine PW.skip rfl rfl rfl rfl ?_
          refine PW.skip rfl rfl rfl rfl ?_
          refine PW.skip rfl rfl rfl rfl ?_
          refine PW.skip rfl rfl rfl rfl ?_
          refine PW.skip rfl rfl rfl rfl ?_
          refine PW.skip1 rfl rfl rfl rfl ?_
          refine PW.skip rfl rfl rfl rfl ?_
          refine PW.ex rfl rfl rfl rfl (by first | exact Ex.pick_yes rfl rfl | exact Ex.pick_no rfl rfl) ?_
          refine PW.ex rfl rfl rfl rfl (Ex.move rfl) ?_
          refine PW.skip rfl rfl rfl rfl ?_
          refine PW.skip rfl rfl rfl rfl ?_
          refine PW.skip rfl rfl rfl rfl ?_
          refine PW.skip rfl rfl rfl rfl ?_
          refine PW.skip rfl rfl rfl rfl ?_
          refine PW.ex rfl rfl rfl rfl (by first | exact Ex.pick_yes rfl rfl | exact Ex.pick_no rfl rfl) ?_
          refine PW.ex rfl rfl rfl rfl (Ex.move rfl) ?_
          refine PW.skip rfl rfl rfl rfl ?_
          refine PW.skip rfl rfl rfl rfl ?_
          refine PW.skip rfl rfl rfl rfl ?_
          refine PW.skip rfl rfl rfl rfl ?_
          refine PW.skip rfl rfl rfl rfl ?_
          refine PW.ex rfl rfl rfl rfl (by first | exact Ex.pick_yes rfl rfl | exact Ex.pick_no rfl rfl) ?_
          refine PW.nil ?_
          refine LW.nil fun aa ha => hK15 _ _ _ ?_ aa ha
          refine CW.yes rfl ?_
          refine CW.seq fun K16 hK16 => ?_
          refine CW.region [0] rfl ?_
          refine LW.ex rfl rfl rfl rfl (Ex.assign rfl) hS.rd ?_
          refine LW.nil fun aa ha => hK16 _ _ _ ?_ aa ha
          refine CW.ret fun aa ha => ?_
          refine ret_one ha Try.results57 rfl ?_
          rw [areasR_not1 (by rw [he, rises_not2 _ _ _ _ hi2 (by omega) (decide_eq_false (by omega))])]; exact hS.retS
        · have h5_16 := of_decide_eq_false h5_16
          refine PW.ex rfl rfl rfl rfl (by first | exact Ex.pick_yes rfl rfl | exact Ex.pick_no rfl rfl) ?_
          refine PW.ex rfl rfl rfl rfl (by first | exact Ex.pick_yes rfl rfl | exact Ex.pick_no rfl rfl) ?_
          refine PW.ex rfl rfl rfl rfl (Ex.move rfl) ?_
          refine PW.ex rfl rfl rfl rfl (Ex.fieldO 1 Try.underlying57 rfl rfl ti3 rfl) ?_
          refine PW.ex rfl rfl rfl rfl (Ex.load1 ti3 rfl rfl (by first | exact Rd.obj (k := 0) rfl rfl | exact Rd.obj (k := 1) rfl rfl | exact Rd.obj (k := 2) rfl rfl | exact Rd.obj (k := 3) rfl rfl | exact Rd.obj (k := 4) rfl rfl | exact Rd.imm (by assumption) | exact Rd.sl (k := 0) rfl (by assumption) | exact Rd.sl (k := 1) rfl (by assumption) | exact Rd.sl (k := 2) rfl (by assumption) | exact Rd.sl (k := 3) rfl (by assumption))) ?_
          refine PW.ex rfl rfl rfl rfl (Ex.fieldO 2 Try.underlying57 rfl rfl ti3 rfl) ?_
          refine PW.ex rfl rfl rfl rfl (Ex.load1 ti3 rfl rfl (by first | exact Rd.obj (k := 0) rfl rfl | exact Rd.obj (k := 1) rfl rfl | exact Rd.obj (k := 2) rfl rfl | exact Rd.obj (k := 3) rfl rfl | exact Rd.obj (k := 4) rfl rfl | exact Rd.imm (by assumption) | exact Rd.sl (k := 0) rfl (by assumption) | exact Rd.sl (k := 1) rfl (by assumption) | exact Rd.sl (k := 2) rfl (by assumption) | exact Rd.sl (k := 3) rfl (by assumption))) ?_
          refine PW.ex rfl rfl rfl rfl (Ex.buildS st36 rfl rfl rfl) ?_
          refine PW.hv rfl rfl rfl rfl (Hv.callS hS rfl rfl rfl cb39 (refinside_c ⟨l[i].X0, l[i].Y0⟩ _)) (fun _ _ h => h.2.rd) fun v w41 ⟨hv, hS⟩ => ?_
          subst hv
          refine PW.splitB (fun h5_25 => ?_) (fun h5_25 => ?_)
          · skip
            refine PW.ex rfl rfl rfl rfl (Ex.not rfl rfl) ?_
            refine PW.ex rfl rfl rfl rfl (by first | exact Ex.pick_yes rfl rfl | exact Ex.pick_no rfl rfl) ?_
            refine PW.ex rfl rfl rfl rfl (Ex.move rfl) ?_
            refine PW.ex rfl rfl rfl rfl (Ex.fieldO 3 Try.underlying57 rfl rfl ti3 rfl) ?_
            refine PW.ex rfl rfl rfl rfl (Ex.load1 ti3 rfl rfl (by first | exact Rd.obj (k := 0) rfl rfl | exact Rd.obj (k := 1) rfl rfl | exact Rd.obj (k := 2) rfl rfl | exact Rd.obj (k := 3) rfl rfl | exact Rd.obj (k := 4) rfl rfl | exact Rd.imm (by assumption) | exact Rd.sl (k := 0) rfl (by assumption) | exact Rd.sl (k := 1) rfl (by assumption) | exact Rd.sl (k := 2) rfl (by assumption) | exact Rd.sl (k := 3) rfl (by assumption))) ?_
            refine PW.ex rfl rfl rfl rfl (Ex.fieldO 4 Try.underlying57 rfl rfl ti3 rfl) ?_
            refine PW.ex rfl rfl rfl rfl (Ex.load1 ti3 rfl rfl (by first | exact Rd.obj (k := 0) rfl rfl | exact Rd.obj (k := 1) rfl rfl | exact Rd.obj (k := 2) rfl rfl | exact Rd.obj (k := 3) rfl rfl | exact Rd.obj (k := 4) rfl rfl | exact Rd.imm (by assumption) | exact Rd.sl (k := 0) rfl (by assumption) | exact Rd.sl (k := 1) rfl (by assumption) | exact Rd.sl (k := 2) rfl (by assumption) | exact Rd.sl (k := 3) rfl (by assumption))) ?_
            refine PW.ex rfl rfl rfl rfl (Ex.buildS st36 rfl rfl rfl) ?_
            refine PW.hv rfl rfl rfl rfl (Hv.callS hS rfl rfl rfl cb39 (refinside_c ⟨l[i].X1, l[i].Y1⟩ _)) (fun _ _ h => h.2.rd) fun v w50 ⟨hv, hS⟩ => ?_
            subst hv
            refine PW.splitB (fun h5_34 => ?_) (fun h5_34 => ?_)
            · skip
              refine PW.ex rfl rfl rfl rfl (Ex.not rfl rfl) ?_
              refine PW.ex rfl rfl rfl rfl (by first | exact Ex.pick_yes rfl rfl | exact Ex.pick_no rfl rfl) ?_
              refine PW.ex rfl rfl rfl rfl (Ex.move rfl) ?_
              refine PW.ex rfl rfl rfl rfl (Ex.fieldO 1 Try.underlying57 rfl rfl ti3 rfl) ?_
              refine PW.ex rfl rfl rfl rfl (Ex.load1 ti3 rfl rfl (by first | exact Rd.obj (k := 0) rfl rfl | exact Rd.obj (k := 1) rfl rfl | exact Rd.obj (k := 2) rfl rfl | exact Rd.obj (k := 3) rfl rfl | exact Rd.obj (k := 4) rfl rfl | exact Rd.imm (by assumption) | exact Rd.sl (k := 0) rfl (by assumption) | exact Rd.sl (k := 1) rfl (by assumption) | exact Rd.sl (k := 2) rfl (by assumption) | exact Rd.sl (k := 3) rfl (by assumption))) ?_
              refine PW.ex rfl rfl rfl rfl (Ex.fieldO 3 Try.underlying57 rfl rfl ti3 rfl) ?_
              refine PW.ex rfl rfl rfl rfl (Ex.load1 ti3 rfl rfl (by first | exact Rd.obj (k := 0) rfl rfl | exact Rd.obj (k := 1) rfl rfl | exact Rd.obj (k := 2) rfl rfl | exact Rd.obj (k := 3) rfl rfl | exact Rd.obj (k := 4) rfl rfl | exact Rd.imm (by assumption) | exact Rd.sl (k := 0) rfl (by assumption) | exact Rd.sl (k := 1) rfl (by assumption) | exact Rd.sl (k := 2) rfl (by assumption) | exact Rd.sl (k := 3) rfl (by assumption))) ?_
              refine PW.ex rfl rfl rfl rfl (Ex.gtr rfl rfl rfl) ?_
              refine PW.splitB (fun h5_42 => ?_) (fun h5_42 => ?_)
              · have h5_42 := of_decide_eq_true h5_42
                refine PW.ex rfl rfl rfl rfl (by first | exact Ex.pick_yes rfl rfl | exact Ex.pick_no rfl rfl) ?_
                refine PW.ex rfl rfl rfl rfl (Ex.move rfl) ?_
                refine PW.skip rfl rfl rfl rfl ?_
                refine PW.skip rfl rfl rfl rfl ?_
                refine PW.skip rfl rfl rfl rfl ?_
                refine PW.skip rfl rfl rfl rfl ?_
                refine PW.skip rfl rfl rfl rfl ?_
                refine PW.ex rfl rfl rfl rfl (by first | exact Ex.pick_yes rfl rfl | exact Ex.pick_no rfl rfl) ?_
                refine PW.nil ?_
                refine LW.nil fun aa ha => hK15 _ _ _ ?_ aa ha
                refine CW.yes rfl ?_
                refine CW.seq fun K17 hK17 => ?_
                refine CW.region [0] rfl ?_
                refine LW.ex rfl rfl rfl rfl (Ex.assign rfl) hS.rd ?_
                refine LW.nil fun aa ha => hK17 _ _ _ ?_ aa ha
                refine CW.ret fun aa ha => ?_
                refine ret_one ha Try.results57 rfl ?_
                rw [areasR_not1 (by rw [he, rises_not _ _ _ _ hi2 (by simp_all [okArea]; try omega)])]; exact hS.retS
              · have h5_42 := of_decide_eq_false h5_42
                refine PW.ex rfl rfl rfl rfl (by first | exact Ex.pick_yes rfl rfl | exact Ex.pick_no rfl rfl) ?_
                refine PW.ex rfl rfl rfl rfl (Ex.move rfl) ?_
                refine PW.ex rfl rfl rfl rfl (Ex.fieldO 2 Try.underlying57 rfl rfl ti3 rfl) ?_
                refine PW.ex rfl rfl rfl rfl (Ex.load1 ti3 rfl rfl (by first | exact Rd.obj (k := 0) rfl rfl | exact Rd.obj (k := 1) rfl rfl | exact Rd.obj (k := 2) rfl rfl | exact Rd.obj (k := 3) rfl rfl | exact Rd.obj (k := 4) rfl rfl | exact Rd.imm (by assumption) | exact Rd.sl (k := 0) rfl (by assumption) | exact Rd.sl (k := 1) rfl (by assumption) | exact Rd.sl (k := 2) rfl (by assumption) | exact Rd.sl (k := 3) rfl (by assumption))) ?_
                refine PW.ex rfl rfl rfl rfl (Ex.fieldO 4 Try.underlying57 rfl rfl ti3 rfl) ?_
                refine PW.ex rfl rfl rfl rfl (Ex.load1 ti3 rfl rfl (by first | exact Rd.obj (k := 0) rfl rfl | exact Rd.obj (k := 1) rfl rfl | exact Rd.obj (k := 2) rfl rfl | exact Rd.obj (k := 3) rfl rfl | exact Rd.obj (k := 4) rfl rfl | exact Rd.imm (by assumption) | exact Rd.sl (k := 0) rfl (by assumption) | exact Rd.sl (k := 1) rfl (by assumption) | exact Rd.sl (k := 2) rfl (by assumption) | exact Rd.sl (k := 3) rfl (by assumption))) ?_
                refine PW.ex rfl rfl rfl rfl (Ex.gtr rfl rfl rfl) ?_
                refine PW.splitB (fun h5_49 => ?_) (fun h5_49 => ?_)
                · have h5_49 := of_decide_eq_true h5_49
                  refine PW.ex rfl rfl rfl rfl (by first | exact Ex.pick_yes rfl rfl | exact Ex.pick_no rfl rfl) ?_
                  refine PW.nil ?_
                  refine LW.nil fun aa ha => hK15 _ _ _ ?_ aa ha
                  refine CW.yes rfl ?_
                  refine CW.seq fun K18 hK18 => ?_
                  refine CW.region [0] rfl ?_
                  refine LW.ex rfl rfl rfl rfl (Ex.assign rfl) hS.rd ?_
                  refine LW.nil fun aa ha => hK18 _ _ _ ?_ aa ha
                  refine CW.ret fun aa ha => ?_
                  refine ret_one ha Try.results57 rfl ?_
                  rw [areasR_not1 (by rw [he, rises_not _ _ _ _ hi2 (by simp_all [okArea]; try omega)])]; exact hS.retS
                · have h5_49 := of_decide_eq_false h5_49
                  refine PW.ex rfl rfl rfl rfl (by first | exact Ex.pick_yes rfl rfl | exact Ex.pick_no rfl rfl) ?_
                  refine PW.nil ?_
                  refine LW.nil fun aa ha => hK15 _ _ _ ?_ aa ha
                  refine CW.no rfl ?_
                  refine CW.skip fun aa ha => ?_
                  refine hJ5 _  hS ?_ ?_ aa (ha.sub ⟨rfl, rfl, rfl, trivial⟩)
                  · simp_all [okArea]; try omega
                  · intro _; exact decide_eq_true (by omega)
            · skip
              refine PW.ex rfl rfl rfl rfl (Ex.not rfl rfl) ?_
              refine PW.ex rfl rfl rfl rfl (by first | exact Ex.pick_yes rfl rfl | exact Ex.pick_no rfl rfl) ?_
              refine PW.ex rfl rfl rfl rfl (Ex.move rfl) ?_
              refine PW.skip rfl rfl rfl rfl ?_
              refine PW.skip rfl rfl rfl rfl ?_
              refine PW.skip rfl rfl rfl rfl ?_
              refine PW.skip rfl rfl rfl rfl ?_
              refine PW.skip rfl rfl rfl rfl ?_
              refine PW.ex rfl rfl rfl rfl (by first | exact Ex.pick_yes rfl rfl | exact Ex.pick_no rfl rfl) ?_
              refine PW.ex rfl rfl rfl rfl (Ex.move rfl) ?_
              refine PW.skip rfl rfl rfl rfl ?_
              refine PW.skip rfl rfl rfl rfl ?_
              refine PW.skip rfl rfl rfl rfl ?_
              refine PW.skip rfl rfl rfl rfl ?_
              refine PW.skip rfl rfl rfl rfl ?_
              refine PW.ex rfl rfl rfl rfl (by first | exact Ex.pick_yes rfl rfl | exact Ex.pick_no rfl rfl) ?_
              refine PW.nil ?_
              refine LW.nil fun aa ha => hK15 _ _ _ ?_ aa ha
              refine CW.yes rfl ?_
              refine CW.seq fun K19 hK19 => ?_
              refine CW.region [0] rfl ?_
              refine LW.ex rfl rfl rfl rfl (Ex.assign rfl) hS.rd ?_
              refine LW.nil fun aa ha => hK19 _ _ _ ?_ aa ha
              refine CW.ret fun aa ha => ?_
              refine ret_one ha Try.results57 rfl ?_
              rw [areasR_not1 (by rw [he, rises_not _ _ _ _ hi2 (by simp_all [okArea]; try omega)])]; exact hS.retS
          · skip
            refine PW.ex rfl rfl rfl rfl (Ex.not rfl rfl) ?_
            refine PW.ex rfl rfl rfl rfl (by first | exact Ex.pick_yes rfl rfl | exact Ex.pick_no rfl rfl) ?_
            refine PW.ex rfl rfl rfl rfl (Ex.move rfl) ?_
            refine PW.skip rfl rfl rfl rfl ?_
            refine PW.skip rfl rfl rfl rfl ?_
            refine PW.skip rfl rfl rfl rfl ?_
            refine PW.skip rfl rfl rfl rfl ?_
            refine PW.skip rfl rfl rfl rfl ?_
            refine PW.skip1 rfl rfl rfl rfl ?_
            refine PW.skip rfl rfl rfl rfl ?_
            refine PW.ex rfl rfl rfl rfl (by first | exact Ex.pick_yes rfl rfl | exact Ex.pick_no rfl rfl) ?_
            refine PW.ex rfl rfl rfl rfl (Ex.move rfl) ?_
            refine PW.skip rfl rfl rfl rfl ?_
            refine PW.skip rfl rfl rfl rfl ?_
            refine PW.skip rfl rfl rfl rfl ?_
            refine PW.skip rfl rfl rfl rfl ?_
            refine PW.skip rfl rfl rfl rfl ?_
            refine PW.ex rfl rfl rfl rfl (by first | exact Ex.pick_yes rfl rfl | exact Ex.pick_no rfl rfl) ?_
            refine PW.ex rfl rfl rfl rfl (Ex.move rfl) ?_
            refine PW.skip rfl rfl rfl rfl ?_
            refine PW.skip rfl rfl rfl rfl ?_
            refine PW.skip rfl rfl rfl rfl ?_
            refine PW.skip rfl rfl rfl rfl ?_
            refine PW.skip rfl rfl rfl rfl ?_
            refine PW.ex rfl rfl rfl rfl (by first | exact Ex.pick_yes rfl rfl | exact Ex.pick_no rfl rfl) ?_
            refine PW.nil ?_
            refine LW.nil fun aa ha => hK15 _ _ _ ?_ aa ha
            refine CW.yes rfl ?_
            refine CW.seq fun K20 hK20 => ?_
            refine CW.region [0] rfl ?_
            refine LW.ex rfl rfl rfl rfl (Ex.assign rfl) hS.rd ?_
            refine LW.nil fun aa ha => hK20 _ _ _ ?_ aa ha
            refine CW.ret fun aa ha => ?_
            refine ret_one ha Try.results57 rfl ?_
            rw [areasR_not1 (by rw [he, rises_not _ _ _ _ hi2 (by simp_all [okArea]; try omega)])]; exact hS.retS
      · have h5_6 := of_decide_eq_false h5_6
        refine PW.ex rfl rfl rfl rfl (Ex.move rfl) ?_
        refine PW.skip rfl rfl rfl rfl ?_
        refine PW.skip rfl rfl rfl rfl ?_
        refine PW.skip rfl rfl rfl rfl ?_
        refine PW.skip rfl rfl rfl rfl ?_
        refine PW.skip rfl rfl rfl rfl ?_
        refine PW.skip rfl rfl rfl rfl ?_
        refine PW.skip rfl rfl rfl rfl ?_
        refine PW.skip rfl rfl rfl rfl ?_
        refine PW.skip rfl rfl rfl rfl ?_
        refine PW.ex rfl rfl rfl rfl (by first | exact Ex.pick_yes rfl rfl | exact Ex.pick_no rfl rfl) ?_
        refine PW.ex rfl rfl rfl rfl (by first | exact Ex.pick_yes rfl rfl | exact Ex.pick_no rfl rfl) ?_
        refine PW.ex rfl rfl rfl rfl (Ex.move rfl) ?_
        refine PW.ex rfl rfl rfl rfl (Ex.fieldO 1 Try.underlying57 rfl rfl ti3 rfl) ?_
        refine PW.ex rfl rfl rfl rfl (Ex.load1 ti3 rfl rfl (by first | exact Rd.obj (k := 0) rfl rfl | exact Rd.obj (k := 1) rfl rfl | exact Rd.obj (k := 2) rfl rfl | exact Rd.obj (k := 3) rfl rfl | exact Rd.obj (k := 4) rfl rfl | exact Rd.imm (by assumption) | exact Rd.sl (k := 0) rfl (by assumption) | exact Rd.sl (k := 1) rfl (by assumption) | exact Rd.sl (k := 2) rfl (by assumption) | exact Rd.sl (k := 3) rfl (by assumption))) ?_
        refine PW.ex rfl rfl rfl rfl (Ex.fieldO 2 Try.underlying57 rfl rfl ti3 rfl) ?_
        refine PW.ex rfl rfl rfl rfl (Ex.load1 ti3 rfl rfl (by first | exact Rd.obj (k := 0) rfl rfl | exact Rd.obj (k := 1) rfl rfl | exact Rd.obj (k := 2) rfl rfl | exact Rd.obj (k := 3) rfl rfl | exact Rd.obj (k := 4) rfl rfl | exact Rd.imm (by assumption) | exact Rd.sl (k := 0) rfl (by assumption) | exact Rd.sl (k := 1) rfl (by assumption) | exact Rd.sl (k := 2) rfl (by assumption) | exact Rd.sl (k := 3) rfl (by assumption))) ?_
        refine PW.ex rfl rfl rfl rfl (Ex.buildS st36 rfl rfl rfl) ?_
        refine PW.hv rfl rfl rfl rfl (Hv.callS hS rfl rfl rfl cb39 (refinside_c ⟨l[i].X0, l[i].Y0⟩ _)) (fun _ _ h => h.2.rd) fun v w41 ⟨hv, hS⟩ => ?_
        subst hv
        refine PW.splitB (fun h5_25 => ?_) (fun h5_25 => ?_)
        · skip
          refine PW.ex rfl rfl rfl rfl (Ex.not rfl rfl) ?_
          refine PW.ex rfl rfl rfl rfl (by first | exact Ex.pick_yes rfl rfl | exact Ex.pick_no rfl rfl) ?_
          refine PW.ex rfl rfl rfl rfl (Ex.move rfl) ?_
          refine PW.ex rfl rfl rfl rfl (Ex.fieldO 3 Try.underlying57 rfl rfl ti3 rfl) ?_
          refine PW.ex rfl rfl rfl rfl (Ex.load1 ti3 rfl rfl (by first | exact Rd.obj (k := 0) rfl rfl | exact Rd.obj (k := 1) rfl rfl | exact Rd.obj (k := 2) rfl rfl | exact Rd.obj (k := 3) rfl rfl | exact Rd.obj (k := 4) rfl rfl | exact Rd.imm (by assumption) | exact Rd.sl (k := 0) rfl (by assumption) | exact Rd.sl (k := 1) rfl (by assumption) | exact Rd.sl (k := 2) rfl (by assumption) | exact Rd.sl (k := 3) rfl (by assumption))) ?_
          refine PW.ex rfl rfl rfl rfl (Ex.fieldO 4 Try.underlying57 rfl rfl ti3 rfl) ?_
          refine PW.ex rfl rfl rfl rfl (Ex.load1 ti3 rfl rfl (by first | exact Rd.obj (k := 0) rfl rfl | exact Rd.obj (k := 1) rfl rfl | exact Rd.obj (k := 2) rfl rfl | exact Rd.obj (k := 3) rfl rfl | exact Rd.obj (k := 4) rfl rfl | exact Rd.imm (by assumption) | exact Rd.sl (k := 0) rfl (by assumption) | exact Rd.sl (k := 1) rfl (by assumption) | exact Rd.sl (k := 2) rfl (by assumption) | exact Rd.sl (k := 3) rfl (by assumption))) ?_
          refine PW.ex rfl rfl rfl rfl (Ex.buildS st36 rfl rfl rfl) ?_
          refine PW.hv rfl rfl rfl rfl (Hv.callS hS rfl rfl rfl cb39 (refinside_c ⟨l[i].X1, l[i].Y1⟩ _)) (fun _ _ h => h.2.rd) fun v w50 ⟨hv, hS⟩ => ?_
          subst hv
          refine PW.splitB (fun h5_34 => ?_) (fun h5_34 => ?_)
          · skip
            refine PW.ex rfl rfl rfl rfl (Ex.not rfl rfl) ?_
            refine PW.ex rfl rfl rfl rfl (by first | exact Ex.pick_yes rfl rfl | exact Ex.pick_no rfl rfl) ?_
            refine PW.ex rfl rfl rfl rfl (Ex.move rfl) ?_
            refine PW.ex rfl rfl rfl rfl (Ex.fieldO 1 Try.underlying57 rfl rfl ti3 rfl) ?_
            refine PW.ex rfl rfl rfl rfl (Ex.load1 ti3 rfl rfl (by first | exact Rd.obj (k := 0) rfl rfl | exact Rd.obj (k := 1) rfl rfl | exact Rd.obj (k := 2) rfl rfl | exact Rd.obj (k := 3) rfl rfl | exact Rd.obj (k := 4) rfl rfl | exact Rd.imm (by assumption) | exact Rd.sl (k := 0) rfl (by assumption) | exact Rd.sl (k := 1) rfl (by assumption) | exact Rd.sl (k := 2) rfl (by assumption) | exact Rd.sl (k := 3) rfl (by assumption))) ?_
            refine PW.ex rfl rfl rfl rfl (Ex.fieldO 3 Try.underlying57 rfl rfl ti3 rfl) ?_
            refine PW.ex rfl rfl rfl rfl (Ex.load1 ti3 rfl rfl (by first | exact Rd.obj (k := 0) rfl rfl | exact Rd.obj (k := 1) rfl rfl | exact Rd.obj (k := 2) rfl rfl | exact Rd.obj (k := 3) rfl rfl | exact Rd.obj (k := 4) rfl rfl | exact Rd.imm (by assumption) | exact Rd.sl (k := 0) rfl (by assumption) | exact Rd.sl (k := 1) rfl (by assumption) | exact Rd.sl (k := 2) rfl (by assumption) | exact Rd.sl (k := 3) rfl (by assumption))) ?_
            refine PW.ex rfl rfl rfl rfl (Ex.gtr rfl rfl rfl) ?_
            refine PW.splitB (fun h5_42 => ?_) (fun h5_42 => ?_)
            · have h5_42 := of_decide_eq_true h5_42
              refine PW.ex rfl rfl rfl rfl (by first | exact Ex.pick_yes rfl rfl | exact Ex.pick_no rfl rfl) ?_
              refine PW.ex rfl rfl rfl rfl (Ex.move rfl) ?_
              refine PW.skip rfl rfl rfl rfl ?_
              refine PW.skip rfl rfl rfl rfl ?_
              refine PW.skip rfl rfl rfl rfl ?_
              refine PW.skip rfl rfl rfl rfl ?_
              refine PW.skip rfl rfl rfl rfl ?_
              refine PW.ex rfl rfl rfl rfl (by first | exact Ex.pick_yes rfl rfl | exact Ex.pick_no rfl rfl) ?_
              refine PW.nil ?_
              refine LW.nil fun aa ha => hK15 _ _ _ ?_ aa ha
              refine CW.yes rfl ?_
              refine CW.seq fun K21 hK21 => ?_
              refine CW.region [0] rfl ?_
              refine LW.ex rfl rfl rfl rfl (Ex.assign rfl) hS.rd ?_
              refine LW.nil fun aa ha => hK21 _ _ _ ?_ aa ha
              refine CW.ret fun aa ha => ?_
              refine ret_one ha Try.results57 rfl ?_
              rw [areasR_not1 (by rw [he, rises_not _ _ _ _ hi2 (by simp_all [okArea]; try omega)])]; exact hS.retS
            · have h5_42 := of_decide_eq_false h5_42
              refine PW.ex rfl rfl rfl rfl (by first | exact Ex.pick_yes rfl rfl | exact Ex.pick_no rfl rfl) ?_
              refine PW.ex rfl rfl rfl rfl (Ex.move rfl) ?_
              refine PW.ex rfl rfl rfl rfl (Ex.fieldO 2 Try.underlying57 rfl rfl ti3 rfl) ?_
              refine PW.ex rfl rfl rfl rfl (Ex.load1 ti3 rfl rfl (by first | exact Rd.obj (k := 0) rfl rfl | exact Rd.obj (k := 1) rfl rfl | exact Rd.obj (k := 2) rfl rfl | exact Rd.obj (k := 3) rfl rfl | exact Rd.obj (k := 4) rfl rfl | exact Rd.imm (by assumption) | exact Rd.sl (k := 0) rfl (by assumption) | exact Rd.sl (k := 1) rfl (by assumption) | exact Rd.sl (k := 2) rfl (by assumption) | exact Rd.sl (k := 3) rfl (by assumption))) ?_
              refine PW.ex rfl rfl rfl rfl (Ex.fieldO 4 Try.underlying57 rfl rfl ti3 rfl) ?_
              refine PW.ex rfl rfl rfl rfl (Ex.load1 ti3 rfl rfl (by first | exact Rd.obj (k := 0) rfl rfl | exact Rd.obj (k := 1) rfl rfl | exact Rd.obj (k := 2) rfl rfl | exact Rd.obj (k := 3) rfl rfl | exact Rd.obj (k := 4) rfl rfl | exact Rd.imm (by assumption) | exact Rd.sl (k := 0) rfl (by assumption) | exact Rd.sl (k := 1) rfl (by assumption) | exact Rd.sl (k := 2) rfl (by assumption) | exact Rd.sl (k := 3) rfl (by assumption))) ?_
              refine PW.ex rfl rfl rfl rfl (Ex.gtr rfl rfl rfl) ?_
              refine PW.splitB (fun h5_49 => ?_) (fun h5_49 => ?_)
              · have h5_49 := of_decide_eq_true h5_49
                refine PW.ex rfl rfl rfl rfl (by first | exact Ex.pick_yes rfl rfl | exact Ex.pick_no rfl rfl) ?_
                refine PW.nil ?_
                refine LW.nil fun aa ha => hK15 _ _ _ ?_ aa ha
                refine CW.yes rfl ?_
                refine CW.seq fun K22 hK22 => ?_
                refine CW.region [0] rfl ?_
                refine LW.ex rfl rfl rfl rfl (Ex.assign rfl) hS.rd ?_
                refine LW.nil fun aa ha => hK22 _ _ _ ?_ aa ha
                refine CW.ret fun aa ha => ?_
                refine ret_one ha Try.results57 rfl ?_
                rw [areasR_not1 (by rw [he, rises_not _ _ _ _ hi2 (by simp_all [okArea]; try omega)])]; exact hS.retS
              · have h5_49 := of_decide_eq_false h5_49
                refine PW.ex rfl rfl rfl rfl (by first | exact Ex.pick_yes rfl rfl | exact Ex.pick_no rfl rfl) ?_
                refine PW.nil ?_
                refine LW.nil fun aa ha => hK15 _ _ _ ?_ aa ha
                refine CW.no rfl ?_
                refine CW.skip fun aa ha => ?_
                refine hJ5 _  hS ?_ ?_ aa (ha.sub ⟨rfl, rfl, rfl, trivial⟩)
                · simp_all [okArea]; try omega
                · intro h; omega
          · skip
            refine PW.ex rfl rfl rfl rfl (Ex.not rfl rfl) ?_
            refine PW.ex rfl rfl rfl rfl (by first | exact Ex.pick_yes rfl rfl | exact Ex.pick_no rfl rfl) ?_
            refine PW.ex rfl rfl rfl rfl (Ex.move rfl) ?_
            refine PW.skip rfl rfl rfl rfl ?_
            refine PW.skip rfl rfl rfl rfl ?_
            refine PW.skip rfl rfl rfl rfl ?_
            refine PW.skip rfl rfl rfl rfl ?_
            refine PW.skip rfl rfl rfl rfl ?_
            refine PW.ex rfl rfl rfl rfl (by first | exact Ex.pick_yes rfl rfl | exact Ex.pick_no rfl rfl) ?_
            refine PW.ex rfl rfl rfl rfl (Ex.move rfl) ?_
            refine PW.skip rfl rfl rfl rfl ?_
            refine PW.skip rfl rfl rfl rfl ?_
            refine PW.skip rfl rfl rfl rfl ?_
            refine PW.skip rfl rfl rfl rfl ?_
            refine PW.skip rfl rfl rfl rfl ?_
            refine PW.ex rfl rfl rfl rfl (by first | exact Ex.pick_yes rfl rfl | exact Ex.pick_no rfl rfl) ?_
            refine PW.nil ?_
            refine LW.nil fun aa ha => hK15 _ _ _ ?_ aa ha
            refine CW.yes rfl ?_
            refine CW.seq fun K23 hK23 => ?_
            refine CW.region [0] rfl ?_
            refine LW.ex rfl rfl rfl rfl (Ex.assign rfl) hS.rd ?_
            refine LW.nil fun aa ha => hK23 _ _ _ ?_ aa ha
            refine CW.ret fun aa ha => ?_
            refine ret_one ha Try.results57 rfl ?_
            rw [areasR_not1 (by rw [he, rises_not _ _ _ _ hi2 (by simp_all [okArea]; try omega)])]; exact hS.retS
        · skip
          refine PW.ex rfl rfl rfl rfl (Ex.not rfl rfl) ?_
          refine PW.ex rfl rfl rfl rfl (by first | exact Ex.pick_yes rfl rfl | exact Ex.pick_no rfl rfl) ?_
          refine PW.ex rfl rfl rfl rfl (Ex.move rfl) ?_
          refine PW.skip rfl rfl rfl rfl ?_
          refine PW.skip rfl rfl rfl rfl ?_
          refine PW.skip rfl rfl rfl rfl ?_
          refine PW.skip rfl rfl rfl rfl ?_
          refine PW.skip rfl rfl rfl rfl ?_
          refine PW.skip1 rfl rfl rfl rfl ?_
          refine PW.skip rfl rfl rfl rfl ?_
          refine PW.ex rfl rfl rfl rfl (by first | exact Ex.pick_yes rfl rfl | exact Ex.pick_no rfl rfl) ?_
          refine PW.ex rfl rfl rfl rfl (Ex.move rfl) ?_
          refine PW.skip rfl rfl rfl rfl ?_
          refine PW.skip rfl rfl rfl rfl ?_
          refine PW.skip rfl rfl rfl rfl ?_
          refine PW.skip rfl rfl rfl rfl ?_
          refine PW.skip rfl rfl rfl rfl ?_
          refine PW.ex rfl rfl rfl rfl (by first | exact Ex.pick_yes rfl rfl | exact Ex.pick_no rfl rfl) ?_
          refine PW.ex rfl rfl rfl rfl (Ex.move rfl) ?_
          refine PW.skip rfl rfl rfl rfl ?_
          refine PW.skip rfl rfl rfl rfl ?_
          refine PW.skip rfl rfl rfl rfl ?_
          refine PW.skip rfl rfl rfl rfl ?_
          refine PW.skip rfl rfl rfl rfl ?_
          refine PW.ex rfl rfl rfl rfl (by first | exact Ex.pick_yes rfl rfl | exact Ex.pick_no rfl rfl) ?_
          refine PW.nil ?_
          refine LW.nil fun aa ha => hK15 _ _ _ ?_ aa ha
          refine CW.yes rfl ?_
          refine CW.seq fun K24 hK24 => ?_
          refine CW.region [0] rfl ?_
          refine LW.ex rfl rfl rfl rfl (Ex.assign rfl) hS.rd ?_
          refine LW.nil fun aa ha => hK24 _ _ _ ?_ aa ha
          refine CW.ret fun aa ha => ?_
          refine ret_one ha Try.results57 rfl ?_
          rw [areasR_not1 (by rw [he, rises_not _ _ _ _ hi2 (by simp_all [okArea]; try omega)])]; exact hS.retS
    · skip
      refine PW.ex rfl rfl rfl rfl (Ex.not rfl rfl) ?_
      refine PW.ex rfl rfl rfl rfl (Ex.move rfl) ?_
      refine PW.skip rfl rfl rfl rfl ?_
      refine PW.skip rfl rfl rfl rfl ?_
      refine PW.skip rfl rfl rfl rfl ?_
      refine PW.skip rfl rfl rfl rfl ?_
      refine PW.skip rfl rfl rfl rfl ?_
      refine PW.skip rfl rfl rfl rfl ?_
      refine PW.skip rfl rfl rfl rfl ?_
      refine PW.skip rfl rfl rfl rfl ?_
      refine PW.skip rfl rfl rfl rfl ?_
      refine PW.skip rfl rfl rfl rfl ?_
      refine PW.skip rfl rfl rfl rfl ?_
      refine PW.skip rfl rfl rfl rfl ?_
      refine PW.skip rfl rfl rfl rfl ?_
      refine PW.ex rfl rfl rfl rfl (by first | exact Ex.pick_yes rfl rfl | exact Ex.pick_no rfl rfl) ?_
      refine PW.ex rfl rfl rfl rfl (Ex.move rfl) ?_
      refine PW.skip rfl rfl rfl rfl ?_
      refine PW.skip rfl rfl rfl rfl ?_
      refine PW.skip rfl rfl rfl rfl ?_
      refine PW.skip rfl rfl rfl rfl ?_
      refine PW.skip rfl rfl rfl rfl ?_
      refine PW.skip1 rfl rfl rfl rfl ?_
      refine PW.skip rfl rfl rfl rfl ?_
      refine PW.ex rfl rfl rfl rfl (by first | exact Ex.pick_yes rfl rfl | exact Ex.pick_no rfl rfl) ?_
      refine PW.ex rfl rfl rfl rfl (Ex.move rfl) ?_
      refine PW.skip rfl rfl rfl rfl ?_
      refine PW.skip rfl rfl rfl rfl ?_
      refine PW.skip rfl rfl rfl rfl ?_
      refine PW.skip rfl rfl rfl rfl ?_
      refine PW.skip rfl rfl rfl rfl ?_
      refine PW.skip1 rfl rfl rfl rfl ?_
      refine PW.skip rfl rfl rfl rfl ?_
      refine PW.ex rfl rfl rfl rfl (by first | exact Ex.pick_yes rfl rfl | exact Ex.pick_no rfl rfl) ?_
      refine PW.ex rfl rfl rfl rfl (Ex.move rfl) ?_
      refine PW.skip rfl rfl rfl rfl ?_
      refine PW.skip rfl rfl rfl rfl ?_
      refine PW.skip rfl rfl rfl rfl ?_
      refine PW.skip rfl rfl rfl rfl ?_
      refine PW.skip rfl rfl rfl rfl ?_
      refine PW.ex rfl rfl rfl rfl (by first | exact Ex.pick_yes rfl rfl | exact Ex.pick_no rfl rfl) ?_
      refine PW.ex rfl rfl rfl rfl (Ex.move rfl) ?_
      refine PW.skip rfl rfl rfl rfl ?_
      refine PW.skip rfl rfl rfl rfl ?_
      refine PW.skip rfl rfl rfl rfl ?_
      refine PW.skip rfl rfl rfl rfl ?_
      refine PW.skip rfl rfl rfl rfl ?_
      refine PW.ex rfl rfl rfl rfl (by first | exact Ex.pick_yes rfl rfl | exact Ex.pick_no rfl rfl) ?_
      refine PW.nil ?_
      refine LW.nil fun aa ha => hK15 _ _ _ ?_ aa ha
      refine CW.yes rfl ?_
      refine CW.seq fun K25 hK25 => ?_
      refine CW.region [0] rfl ?_
      refine LW.ex rfl rfl rfl rfl (Ex.assign rfl) hS.rd ?_
      refine LW.nil fun aa ha => hK25 _ _ _ ?_ aa ha
      refine CW.ret fun aa ha => ?_
      refine ret_one ha Try.results57 rfl ?_
      rw [areasR_not1 (by rw [he, rises_not _ _ _ _ hi2 (by simp_all [okArea]; try omega)])]; exact hS.retS
  · have h2_3 := of_decide_eq_false h2_3
    refine LW.nil fun aa ha => hK5 _ _ _ ?_ aa ha
    refine CW.no rfl ?_
    refine CW.exit fun aa ha => hK2 _ _ _ ?_ aa ha
    refine CW.seq fun K26 hK26 => ?_
    refine CW.region [0, 1, 2, 3] rfl ?_
    refine LW.ex rfl rfl rfl rfl (Ex.move rfl) hS.rd ?_
    refine LW.ex rfl rfl rfl rfl (Ex.lenSl rfl Try.underlying27 rfl) hS.rd ?_
    refine LW.ex rfl rfl rfl rfl (Ex.leq rfl rfl (by first | exact decide_eq_true (by omega) | exact decide_eq_false (by omega) | rfl)) hS.rd ?_
    refine LW.ex rfl rfl rfl rfl (Ex.assign rfl) hS.rd ?_
    refine LW.nil fun aa ha => hK26 _ _ _ ?_ aa ha
    refine CW.ret fun aa ha => ?_
    refine ret_one ha Try.results57 rfl ?_
    refine hS.retB ?_
    have hdr : rises okArea (fun x y => keyLt x.Key y.Key) none l = true := by rw [he, List.drop_of_length_le (by omega)]; cases prevOf l i <;> rfl
    have hal : ((List.range l.length).all fun i => (l.take i).all fun o => match l[i]? with | some a => apartA a o | none => true) = true := by
      simp only [List.all_eq_true, List.mem_range]
      intro j hj x hx
      exact List.all_eq_true.1 (ha2 j (by omega)) x hx
    unfold areasR
    rw [hdr, hal]; simp only [Bool.true_and, Bool.and_true]; exact decide_eq_decide.2 (by omega)
end Go.Proofs.Ytphgjongflkolaa

