import Derived.Test.YtgnpjhellmfhoaaW12

/-
  Context: the walks of the references' inserting: words, pairs, edges.
-/
namespace Go.Proofs.Ytgnpjhellmfhoaa
open Go.RowKit Sy


theorem RepL.strs (μ : Mem) : ∀ xs : List ByteArray, RepL μ (xs.map Value.string) xs := fun xs =>
  ⟨by show _ = xs.length * 1; simp, fun i hi => by show (if 0 < 1 then _ else _) = _; simp; show xs[i * 1]? = _; simp [hi]⟩
def insS (s : ByteArray) : List ByteArray → List ByteArray := insG (fun q => sLt s q) (fun q => s == q) id s false
set_option maxRecDepth 100000 in
set_option maxHeartbeats 1000000 in
theorem insS_c (L : List ByteArray) (s : ByteArray) (hb : L.length ≤ 1000000) (ad0 : Option Addr) (c0 : Nat) (μ : Mem) (w : World) (hμ : Imm μ w) (hl : Sl μ ad0 c0 L) :
    Calls Try.prog 28 #[.slice ad0 L.length c0, .string s] w (RetV w μ (IsSl (insS s L))) := by
  have hS := St.start w μ hμ
  refine calls_start 52 [.slice ad0 L.length c0, .string s] Try.func28 rfl Try.ntmps28 rfl rfl ?_
  refine CW.seq fun K1 hK1 => ?_
  refine CW.region [0] rfl ?_
  refine LW.ex rfl rfl rfl rfl (Ex.assign rfl) hS.rd ?_
  refine LW.nil fun aa ha => hK1 _ _ _ ?_ aa ha
  refine CW.seq fun K2 hK2 => ?_
  refine CW.region [0, 1, 2] rfl ?_
  refine LW.hv rfl rfl rfl rfl (Hv.buildSl hS Try.underlying30 ti9 rfl rfl rfl rfl rfl rfl) fun v w8 ⟨b8, hv, hb8, hS⟩ => ?_
  subst hv
  refine LW.ex rfl rfl rfl rfl (Ex.assign rfl) hS.rd ?_
  refine LW.ex rfl rfl rfl rfl (Ex.assign rfl) hS.rd ?_
  refine LW.nil fun aa ha => hK2 _ _ _ ?_ aa ha
  refine CW.seq fun K3 hK3 => ?_
  refine CW.seq fun K4 hK4 => ?_
  refine CW.region [0] rfl ?_
  refine LW.ex rfl rfl rfl rfl (Ex.assign rfl) hS.rd ?_
  refine LW.nil fun aa ha => hK4 _ _ _ ?_ aa ha
  refine CW.block ?_
  have hS : St w _ μ (_ :: _) := hS.row_sl (k := 0) rfl 0 1 rfl (by simp [maxLen])
  refine CW.loop (fun qq frm wl3 => ∃ (i : Nat) (ad : Option Addr) (c : Nat) (l : Nat) (ls : List ByteArray) (d : Bool), i ≤ L.length ∧ l = ls.length ∧ l ≤ 2 * i ∧ qq = L.length - i ∧ frm = [(0, .slice ad0 L.length c0), (1, .string s), (5, .slice ad l c), (6, .bool d), (7, .int .i64 i)] ∧ St w wl3 μ [Own.sl ad l c 9 1 (ls.map Value.string)] ∧ (insS s L = ls ++ insG (fun q => sLt s q) (fun q => s == q) id s d (L.drop i))) _ ⟨0, some ⟨b8, 0, none⟩, 0, 0, [], false, (by first | omega | (simp; done) | (simp; omega)), (by first | omega | (simp; done) | (simp; omega)), (by first | omega | (simp; done) | (simp; omega)), rfl, rfl, hS, rfl⟩ ⟨rfl, rfl, rfl, rfl, rfl, trivial⟩ ?_
  clear hS
  rintro qq frm wl3 ⟨i, ad, c, l, ls, d, hi, hll, hlb, hq, rfl, hS, hG⟩
  refine CW.seq fun K5 hK5 => ?_
  refine CW.seq fun K6 hK6 => ?_
  refine CW.region [0, 1, 2, 3] rfl ?_
  refine LW.ex rfl rfl rfl rfl (Ex.move rfl) hS.rd ?_
  refine LW.ex rfl rfl rfl rfl (Ex.move rfl) hS.rd ?_
  refine LW.ex rfl rfl rfl rfl (Ex.lenSl rfl Try.underlying30 rfl) hS.rd ?_
  refine LW.ex rfl rfl rfl rfl (Ex.lss rfl rfl rfl) hS.rd ?_
  refine LW.splitB (fun h3_3 => ?_) (fun h3_3 => ?_)
  · have h3_3 := of_decide_eq_true h3_3
    refine LW.nil fun aa ha => hK6 _ _ _ ?_ aa ha
    refine CW.yes rfl ?_
    refine CW.skip fun aa ha => hK5 _ _ _ ?_ aa ha
    refine CW.seq fun K7 hK7 => ?_
    refine CW.block ?_
    refine CW.seq fun K8 hK8 => ?_
    refine CW.seq fun K9 hK9 => ?_
    have hi2 : i < L.length := by omega
    rw [drop_cons hi2, insG] at hG
    obtain ⟨bl', ol, rfl, k0⟩ := hl.at hi2
    refine CW.region [0, 1, 2, 3, 4, 5, 6, 7, 8, 9] rfl ?_
    refine LW.ex rfl rfl rfl rfl (Ex.move rfl) hS.rd ?_
    refine LW.splitB (fun h5_0 => ?_) (fun h5_0 => ?_)
    · subst h5_0
      refine LW.ex rfl rfl rfl rfl (Ex.not rfl rfl) hS.rd ?_
      refine LW.ex rfl rfl rfl rfl (Ex.move rfl) hS.rd ?_
      refine LW.skip rfl rfl rfl rfl ?_
      refine LW.skip rfl rfl rfl rfl ?_
      refine LW.skip rfl rfl rfl rfl ?_
      refine LW.skip rfl rfl rfl rfl ?_
      refine LW.skip rfl rfl rfl rfl ?_
      refine LW.skip rfl rfl rfl rfl ?_
      refine LW.ex rfl rfl rfl rfl (by first | exact Ex.pick_yes rfl rfl | exact Ex.pick_no rfl rfl) hS.rd ?_
      refine LW.nil fun aa ha => hK9 _ _ _ ?_ aa ha
      refine CW.no rfl ?_
      refine CW.skip fun aa ha => hK8 _ _ _ ?_ aa ha
      refine CW.seq fun K10 hK10 => ?_
      refine CW.region [0, 1, 2, 3, 4, 5, 6, 7, 8, 9] rfl ?_
      refine LW.ex rfl rfl rfl rfl (Ex.move rfl) hS.rd ?_
      refine LW.ex rfl rfl rfl rfl (Ex.move rfl) hS.rd ?_
      refine LW.skip rfl rfl rfl rfl ?_
      refine LW.skip rfl rfl rfl rfl ?_
      refine LW.skip rfl rfl rfl rfl ?_
      refine LW.skip rfl rfl rfl rfl ?_
      refine LW.skip rfl rfl rfl rfl ?_
      refine LW.skip rfl rfl rfl rfl ?_
      refine LW.ex rfl rfl rfl rfl (by first | exact Ex.pick_yes rfl rfl | exact Ex.pick_no rfl rfl) hS.rd ?_
      refine LW.ex rfl rfl rfl rfl (Ex.assign rfl) hS.rd ?_
      refine LW.nil fun aa ha => hK10 _ _ _ ?_ aa ha
      refine CW.region [0, 1, 2, 3, 4, 5, 6, 7] rfl ?_
      refine LW.ex rfl rfl rfl rfl (Ex.move rfl) hS.rd ?_
      refine LW.ex rfl rfl rfl rfl (Ex.move rfl) hS.rd ?_
      refine LW.ex rfl rfl rfl rfl (Ex.move rfl) hS.rd ?_
      refine LW.ex rfl rfl rfl rfl (Ex.indexSl Try.underlying30 ti9 rfl rfl rfl (by omega)) hS.rd ?_
      refine LW.ex rfl rfl rfl rfl (Ex.load1 ti9 rfl rfl (by first | exact obT rfl | exact Rd.imm ‹_› | exact slT ‹_›)) hS.rd ?_
      refine LW.hv rfl rfl rfl rfl (Hv.buildSl hS Try.underlying30 ti9 rfl rfl rfl rfl rfl rfl) fun v w43 ⟨b43, hv, hb43, hS⟩ => ?_
      subst hv
      refine LW.hv rfl rfl rfl rfl (Hv.append (k := 1) rfl Try.underlying30 ti9 rfl hS rfl rfl rfl rfl (Rd.objAll (k := 0) rfl hS.rd) (by simp [Value.oneCell']) (by unfold maxLen; omega) (by omega)) fun v w44 ⟨ad44, c44, hv, hS⟩ => ?_
      subst hv
      dsimp only [List.set] at hS
      have hS := hS.drop 0 rfl
      dsimp only [List.eraseIdx] at hS
      rw [show ls.map Value.string ++ [Value.string L[i]] = (ls ++ [L[i]]).map Value.string by rw [List.map_append]; rfl] at hS
      refine LW.ex rfl rfl rfl rfl (Ex.assign rfl) hS.rd ?_
      refine LW.nil fun aa ha => hK7 _ _ _ ?_ aa ha
      refine CW.region [0, 1, 2] rfl ?_
      refine LW.ex rfl rfl rfl rfl (Ex.move rfl) hS.rd ?_
      refine LW.ex rfl rfl rfl rfl (Ex.add rfl rfl (by first | exact inc64 (by omega) | exact addN (by omega) | exact w64 (by omega) (by omega))) hS.rd ?_
      refine LW.ex rfl rfl rfl rfl (Ex.assign rfl) hS.rd ?_
      refine LW.nil fun aa ha => ?_
      refine ⟨_, _, ?m3, ⟨i + 1, ad44, c44, l + 1, ls ++ [L[i]], true, (by first | omega | (simp; done) | (simp; omega)), (by first | omega | (simp; done) | (simp; omega)), (by first | omega | (simp; done) | (simp; omega)), rfl, rfl, hS, by rw [hG]; simp_all⟩, ha.sub ⟨rfl, rfl, rfl, rfl, rfl, trivial⟩⟩
      case m3 => omega
    · subst h5_0
      refine LW.ex rfl rfl rfl rfl (Ex.not rfl rfl) hS.rd ?_
      refine LW.ex rfl rfl rfl rfl (Ex.move rfl) hS.rd ?_
      refine LW.ex rfl rfl rfl rfl (Ex.move rfl) hS.rd ?_
      refine LW.ex rfl rfl rfl rfl (Ex.move rfl) hS.rd ?_
      refine LW.ex rfl rfl rfl rfl (Ex.move rfl) hS.rd ?_
      refine LW.ex rfl rfl rfl rfl (Ex.indexSl Try.underlying30 ti9 rfl rfl rfl (by omega)) hS.rd ?_
      refine LW.ex rfl rfl rfl rfl (Ex.load1 ti9 rfl rfl (by first | exact obT rfl | exact Rd.imm ‹_› | exact slT ‹_›)) hS.rd ?_
      refine LW.ex rfl rfl rfl rfl (Ex.lssS rfl rfl rfl) hS.rd ?_
      refine LW.splitB (fun h5_8 => ?_) (fun h5_8 => ?_)
      · skip
        refine LW.ex rfl rfl rfl rfl (by first | exact Ex.pick_yes rfl rfl | exact Ex.pick_no rfl rfl) hS.rd ?_
        refine LW.nil fun aa ha => hK9 _ _ _ ?_ aa ha
        refine CW.yes rfl ?_
        refine CW.region [0, 1, 2, 3, 4, 5] rfl ?_
        refine LW.ex rfl rfl rfl rfl (Ex.move rfl) hS.rd ?_
        refine LW.ex rfl rfl rfl rfl (Ex.move rfl) hS.rd ?_
        refine LW.hv rfl rfl rfl rfl (Hv.buildSl hS Try.underlying30 ti9 rfl rfl rfl rfl rfl rfl) fun v w27 ⟨b27, hv, hb27, hS⟩ => ?_
        subst hv
        refine LW.hv rfl rfl rfl rfl (Hv.append (k := 1) rfl Try.underlying30 ti9 rfl hS rfl rfl rfl rfl (Rd.objAll (k := 0) rfl hS.rd) (by simp [Value.oneCell']) (by unfold maxLen; omega) (by omega)) fun v w28 ⟨ad28, c28, hv, hS⟩ => ?_
        subst hv
        dsimp only [List.set] at hS
        have hS := hS.drop 0 rfl
        dsimp only [List.eraseIdx] at hS
        rw [show ls.map Value.string ++ [Value.string s] = (ls ++ [s]).map Value.string by rw [List.map_append]; rfl] at hS
        refine LW.ex rfl rfl rfl rfl (Ex.assign rfl) hS.rd ?_
        refine LW.ex rfl rfl rfl rfl (Ex.assign rfl) hS.rd ?_
        refine LW.nil fun aa ha => hK8 _ _ _ ?_ aa ha
        refine CW.seq fun K11 hK11 => ?_
        refine CW.region [0, 1, 2, 3, 4, 5, 6, 7, 8, 9] rfl ?_
        refine LW.ex rfl rfl rfl rfl (Ex.move rfl) hS.rd ?_
        refine LW.ex rfl rfl rfl rfl (Ex.move rfl) hS.rd ?_
        refine LW.skip rfl rfl rfl rfl ?_
        refine LW.skip rfl rfl rfl rfl ?_
        refine LW.skip rfl rfl rfl rfl ?_
        refine LW.skip rfl rfl rfl rfl ?_
        refine LW.skip rfl rfl rfl rfl ?_
        refine LW.skip rfl rfl rfl rfl ?_
        refine LW.ex rfl rfl rfl rfl (by first | exact Ex.pick_yes rfl rfl | exact Ex.pick_no rfl rfl) hS.rd ?_
        refine LW.ex rfl rfl rfl rfl (Ex.assign rfl) hS.rd ?_
        refine LW.nil fun aa ha => hK11 _ _ _ ?_ aa ha
        refine CW.region [0, 1, 2, 3, 4, 5, 6, 7] rfl ?_
        refine LW.ex rfl rfl rfl rfl (Ex.move rfl) hS.rd ?_
        refine LW.ex rfl rfl rfl rfl (Ex.move rfl) hS.rd ?_
        refine LW.ex rfl rfl rfl rfl (Ex.move rfl) hS.rd ?_
        refine LW.ex rfl rfl rfl rfl (Ex.indexSl Try.underlying30 ti9 rfl rfl rfl (by omega)) hS.rd ?_
        refine LW.ex rfl rfl rfl rfl (Ex.load1 ti9 rfl rfl (by first | exact obT rfl | exact Rd.imm ‹_› | exact slT ‹_›)) hS.rd ?_
        refine LW.hv rfl rfl rfl rfl (Hv.buildSl hS Try.underlying30 ti9 rfl rfl rfl rfl rfl rfl) fun v w43 ⟨b43, hv, hb43, hS⟩ => ?_
        subst hv
        refine LW.hv rfl rfl rfl rfl (Hv.append (k := 1) rfl Try.underlying30 ti9 rfl hS rfl rfl rfl rfl (Rd.objAll (k := 0) rfl hS.rd) (by simp [Value.oneCell']) (by unfold maxLen; omega) (by omega)) fun v w44 ⟨ad44, c44, hv, hS⟩ => ?_
        subst hv
        dsimp only [List.set] at hS
        have hS := hS.drop 0 rfl
        dsimp only [List.eraseIdx] at hS
        rw [show (ls ++ [s]).map Value.string ++ [Value.string L[i]] = (ls ++ [s] ++ [L[i]]).map Value.string by simp] at hS
        refine LW.ex rfl rfl rfl rfl (Ex.assign rfl) hS.rd ?_
        refine LW.nil fun aa ha => hK7 _ _ _ ?_ aa ha
        refine CW.region [0, 1, 2] rfl ?_
        refine LW.ex rfl rfl rfl rfl (Ex.move rfl) hS.rd ?_
        refine LW.ex rfl rfl rfl rfl (Ex.add rfl rfl (by first | exact inc64 (by omega) | exact addN (by omega) | exact w64 (by omega) (by omega))) hS.rd ?_
        refine LW.ex rfl rfl rfl rfl (Ex.assign rfl) hS.rd ?_
        refine LW.nil fun aa ha => ?_
        refine ⟨_, _, ?m3, ⟨i + 1, ad44, c44, l + 1 + 1, ls ++ [s] ++ [L[i]], true, (by first | omega | (simp; done) | (simp; omega)), (by first | omega | (simp; done) | (simp; omega)), (by first | omega | (simp; done) | (simp; omega)), rfl, rfl, hS, by rw [hG]; simp_all⟩, ha.sub ⟨rfl, rfl, rfl, rfl, rfl, trivial⟩⟩
        case m3 => omega
      · skip
        refine LW.ex rfl rfl rfl rfl (by first | exact Ex.pick_yes rfl rfl | exact Ex.pick_no rfl rfl) hS.rd ?_
        refine LW.nil fun aa ha => hK9 _ _ _ ?_ aa ha
        refine CW.no rfl ?_
        refine CW.skip fun aa ha => hK8 _ _ _ ?_ aa ha
        refine CW.seq fun K12 hK12 => ?_
        refine CW.region [0, 1, 2, 3, 4, 5, 6, 7, 8, 9] rfl ?_
        refine LW.ex rfl rfl rfl rfl (Ex.move rfl) hS.rd ?_
        refine LW.ex rfl rfl rfl rfl (Ex.move rfl) hS.rd ?_
        refine LW.ex rfl rfl rfl rfl (Ex.move rfl) hS.rd ?_
        refine LW.ex rfl rfl rfl rfl (Ex.move rfl) hS.rd ?_
        refine LW.ex rfl rfl rfl rfl (Ex.move rfl) hS.rd ?_
        refine LW.ex rfl rfl rfl rfl (Ex.indexSl Try.underlying30 ti9 rfl rfl rfl (by omega)) hS.rd ?_
        refine LW.ex rfl rfl rfl rfl (Ex.load1 ti9 rfl rfl (by first | exact obT rfl | exact Rd.imm ‹_› | exact slT ‹_›)) hS.rd ?_
        refine LW.ex rfl rfl rfl rfl (Ex.eqlS rfl rfl rfl) hS.rd ?_
        refine LW.splitB (fun h7_7 => ?_) (fun h7_7 => ?_)
        · skip
          refine LW.ex rfl rfl rfl rfl (by first | exact Ex.pick_yes rfl rfl | exact Ex.pick_no rfl rfl) hS.rd ?_
          refine LW.ex rfl rfl rfl rfl (Ex.assign rfl) hS.rd ?_
          refine LW.nil fun aa ha => hK12 _ _ _ ?_ aa ha
          refine CW.region [0, 1, 2, 3, 4, 5, 6, 7] rfl ?_
          refine LW.ex rfl rfl rfl rfl (Ex.move rfl) hS.rd ?_
          refine LW.ex rfl rfl rfl rfl (Ex.move rfl) hS.rd ?_
          refine LW.ex rfl rfl rfl rfl (Ex.move rfl) hS.rd ?_
          refine LW.ex rfl rfl rfl rfl (Ex.indexSl Try.underlying30 ti9 rfl rfl rfl (by omega)) hS.rd ?_
          refine LW.ex rfl rfl rfl rfl (Ex.load1 ti9 rfl rfl (by first | exact obT rfl | exact Rd.imm ‹_› | exact slT ‹_›)) hS.rd ?_
          refine LW.hv rfl rfl rfl rfl (Hv.buildSl hS Try.underlying30 ti9 rfl rfl rfl rfl rfl rfl) fun v w43 ⟨b43, hv, hb43, hS⟩ => ?_
          subst hv
          refine LW.hv rfl rfl rfl rfl (Hv.append (k := 1) rfl Try.underlying30 ti9 rfl hS rfl rfl rfl rfl (Rd.objAll (k := 0) rfl hS.rd) (by simp [Value.oneCell']) (by unfold maxLen; omega) (by omega)) fun v w44 ⟨ad44, c44, hv, hS⟩ => ?_
          subst hv
          dsimp only [List.set] at hS
          have hS := hS.drop 0 rfl
          dsimp only [List.eraseIdx] at hS
          rw [show ls.map Value.string ++ [Value.string L[i]] = (ls ++ [L[i]]).map Value.string by rw [List.map_append]; rfl] at hS
          refine LW.ex rfl rfl rfl rfl (Ex.assign rfl) hS.rd ?_
          refine LW.nil fun aa ha => hK7 _ _ _ ?_ aa ha
          refine CW.region [0, 1, 2] rfl ?_
          refine LW.ex rfl rfl rfl rfl (Ex.move rfl) hS.rd ?_
          refine LW.ex rfl rfl rfl rfl (Ex.add rfl rfl (by first | exact inc64 (by omega) | exact addN (by omega) | exact w64 (by omega) (by omega))) hS.rd ?_
          refine LW.ex rfl rfl rfl rfl (Ex.assign rfl) hS.rd ?_
          refine LW.nil fun aa ha => ?_
          refine ⟨_, _, ?m3, ⟨i + 1, ad44, c44, l + 1, ls ++ [L[i]], true, (by first | omega | (simp; done) | (simp; omega)), (by first | omega | (simp; done) | (simp; omega)), (by first | omega | (simp; done) | (simp; omega)), rfl, rfl, hS, by rw [hG]; simp_all⟩, ha.sub ⟨rfl, rfl, rfl, rfl, rfl, trivial⟩⟩
          case m3 => omega
        · skip
          refine LW.ex rfl rfl rfl rfl (by first | exact Ex.pick_yes rfl rfl | exact Ex.pick_no rfl rfl) hS.rd ?_
          refine LW.ex rfl rfl rfl rfl (Ex.assign rfl) hS.rd ?_
          refine LW.nil fun aa ha => hK12 _ _ _ ?_ aa ha
          refine CW.region [0, 1, 2, 3, 4, 5, 6, 7] rfl ?_
          refine LW.ex rfl rfl rfl rfl (Ex.move rfl) hS.rd ?_
          refine LW.ex rfl rfl rfl rfl (Ex.move rfl) hS.rd ?_
          refine LW.ex rfl rfl rfl rfl (Ex.move rfl) hS.rd ?_
          refine LW.ex rfl rfl rfl rfl (Ex.indexSl Try.underlying30 ti9 rfl rfl rfl (by omega)) hS.rd ?_
          refine LW.ex rfl rfl rfl rfl (Ex.load1 ti9 rfl rfl (by first | exact obT rfl | exact Rd.imm ‹_› | exact slT ‹_›)) hS.rd ?_
          refine LW.hv rfl rfl rfl rfl (Hv.buildSl hS Try.underlying30 ti9 rfl rfl rfl rfl rfl rfl) fun v w43 ⟨b43, hv, hb43, hS⟩ => ?_
          subst hv
          refine LW.hv rfl rfl rfl rfl (Hv.append (k := 1) rfl Try.underlying30 ti9 rfl hS rfl rfl rfl rfl (Rd.objAll (k := 0) rfl hS.rd) (by simp [Value.oneCell']) (by unfold maxLen; omega) (by omega)) fun v w44 ⟨ad44, c44, hv, hS⟩ => ?_
          subst hv
          dsimp only [List.set] at hS
          have hS := hS.drop 0 rfl
          dsimp only [List.eraseIdx] at hS
          rw [show ls.map Value.string ++ [Value.string L[i]] = (ls ++ [L[i]]).map Value.string by rw [List.map_append]; rfl] at hS
          refine LW.ex rfl rfl rfl rfl (Ex.assign rfl) hS.rd ?_
          refine LW.nil fun aa ha => hK7 _ _ _ ?_ aa ha
          refine CW.region [0, 1, 2] rfl ?_
          refine LW.ex rfl rfl rfl rfl (Ex.move rfl) hS.rd ?_
          refine LW.ex rfl rfl rfl rfl (Ex.add rfl rfl (by first | exact inc64 (by omega) | exact addN (by omega) | exact w64 (by omega) (by omega))) hS.rd ?_
          refine LW.ex rfl rfl rfl rfl (Ex.assign rfl) hS.rd ?_
          refine LW.nil fun aa ha => ?_
          refine ⟨_, _, ?m3, ⟨i + 1, ad44, c44, l + 1, ls ++ [L[i]], false, (by first | omega | (simp; done) | (simp; omega)), (by first | omega | (simp; done) | (simp; omega)), (by first | omega | (simp; done) | (simp; omega)), rfl, rfl, hS, by rw [hG]; simp_all⟩, ha.sub ⟨rfl, rfl, rfl, rfl, rfl, trivial⟩⟩
          case m3 => omega
  · have h3_3 := of_decide_eq_false h3_3
    refine LW.nil fun aa ha => hK6 _ _ _ ?_ aa ha
    refine CW.no rfl ?_
    refine CW.exit fun aa ha => hK3 _ _ _ ?_ aa ha
    refine CW.seq fun K13 hK13 => ?_
    refine CW.seq fun K14 hK14 => ?_
    rw [List.drop_of_length_le (by omega), insG] at hG
    refine CW.region [0, 1] rfl ?_
    refine LW.ex rfl rfl rfl rfl (Ex.move rfl) hS.rd ?_
    refine LW.splitB (fun h9_0 => ?_) (fun h9_0 => ?_)
    · subst h9_0
      refine LW.ex rfl rfl rfl rfl (Ex.not rfl rfl) hS.rd ?_
      refine LW.nil fun aa ha => hK14 _ _ _ ?_ aa ha
      refine CW.no rfl ?_
      refine CW.skip fun aa ha => hK13 _ _ _ ?_ aa ha
      refine CW.seq fun K15 hK15 => ?_
      refine CW.region [0, 1] rfl ?_
      refine LW.ex rfl rfl rfl rfl (Ex.move rfl) hS.rd ?_
      refine LW.ex rfl rfl rfl rfl (Ex.assign rfl) hS.rd ?_
      refine LW.nil fun aa ha => hK15 _ _ _ ?_ aa ha
      refine CW.ret fun aa ha => ?_
      refine ret_one ha Try.results28 rfl ?_
      have e : insS s L = ls := by rw [hG]; simp
      obtain ⟨bs, μ1, hmm1, hS, hφ⟩ := hS.shut 0 rfl
      rw [e]; exact ⟨_, μ1, rfl, hS.below, hmm1, hS.imm, _, _, by rw [hll], Sl.of_own hφ (RepL.strs _ _) hll⟩
    · subst h9_0
      refine LW.ex rfl rfl rfl rfl (Ex.not rfl rfl) hS.rd ?_
      refine LW.nil fun aa ha => hK14 _ _ _ ?_ aa ha
      refine CW.yes rfl ?_
      refine CW.region [0, 1, 2, 3, 4] rfl ?_
      refine LW.ex rfl rfl rfl rfl (Ex.move rfl) hS.rd ?_
      refine LW.ex rfl rfl rfl rfl (Ex.move rfl) hS.rd ?_
      refine LW.hv rfl rfl rfl rfl (Hv.buildSl hS Try.underlying30 ti9 rfl rfl rfl rfl rfl rfl) fun v w49 ⟨b49, hv, hb49, hS⟩ => ?_
      subst hv
      refine LW.hv rfl rfl rfl rfl (Hv.append (k := 1) rfl Try.underlying30 ti9 rfl hS rfl rfl rfl rfl (Rd.objAll (k := 0) rfl hS.rd) (by simp [Value.oneCell']) (by unfold maxLen; omega) (by omega)) fun v w50 ⟨ad50, c50, hv, hS⟩ => ?_
      subst hv
      dsimp only [List.set] at hS
      have hS := hS.drop 0 rfl
      dsimp only [List.eraseIdx] at hS
      rw [show ls.map Value.string ++ [Value.string s] = (ls ++ [s]).map Value.string by rw [List.map_append]; rfl] at hS
      refine LW.ex rfl rfl rfl rfl (Ex.assign rfl) hS.rd ?_
      refine LW.nil fun aa ha => hK13 _ _ _ ?_ aa ha
      refine CW.seq fun K16 hK16 => ?_
      refine CW.region [0, 1] rfl ?_
      refine LW.ex rfl rfl rfl rfl (Ex.move rfl) hS.rd ?_
      refine LW.ex rfl rfl rfl rfl (Ex.assign rfl) hS.rd ?_
      refine LW.nil fun aa ha => hK16 _ _ _ ?_ aa ha
      refine CW.ret fun aa ha => ?_
      refine ret_one ha Try.results28 rfl ?_
      have e : insS s L = ls ++ [s] := by rw [hG]; simp
      have hl2 : l + 1 = (ls ++ [s]).length := by simp [hll]
      obtain ⟨bs, μ1, hmm1, hS, hφ⟩ := hS.shut 0 rfl
      rw [e]; exact ⟨_, μ1, rfl, hS.below, hmm1, hS.imm, _, _, by rw [hl2], Sl.of_own hφ (RepL.strs _ _) hl2⟩
def prSame (p q : Pr) : Bool := decide (q.A = p.A ∧ q.B = p.B)
def prAdd (p q : Pr) : Pr := ⟨q.A, q.B, q.N + p.N⟩
def insP (p : Pr) : List Pr → List Pr := insG (fun q => prLess p q) (fun q => prSame p q) (prAdd p) p false
set_option maxRecDepth 100000 in
set_option maxHeartbeats 2000000 in
theorem insP_c (ps : List Pr) (n0 n1 : Nat) (B : Int) (p : Pr) (hb : ps.length ≤ 1000000) (hN : ∀ q ∈ ps, 0 ≤ q.N ∧ q.N ≤ 1099511627776) (hp : 0 ≤ p.N ∧ p.N ≤ 1099511627776) (a0 a1 a2 : Option Addr) (c0 c1 c2 : Nat) (μ : Mem) (w : World) (hμ : Imm μ w) (hm2 : Sl μ a2 c2 ps) :
    Calls Try.prog 30 #[.agg #[.slice a0 n0 c0, .slice a1 n1 c1, .slice a2 ps.length c2, .int .i64 B], prV p] w (RetV w μ (IsSl (insP p ps))) := by
  have hS := St.start w μ hμ
  refine calls_start 62 [.agg #[.slice a0 n0 c0, .slice a1 n1 c1, .slice a2 ps.length c2, .int .i64 B], prV p] Try.func30 rfl Try.ntmps30 rfl rfl ?_
  refine CW.seq fun K17 hK17 => ?_
  refine CW.region [0, 1, 2] rfl ?_
  refine LW.hv rfl rfl rfl rfl (Hv.boxS hS rfl rfl) fun v w2 ⟨b2, hv, hb2, hS⟩ => ?_
  subst hv
  refine LW.hv rfl rfl rfl rfl (Hv.boxS hS rfl rfl) fun v w3 ⟨b3, hv, hb3, hS⟩ => ?_
  subst hv
  refine LW.ex rfl rfl rfl rfl (Ex.assign rfl) hS.rd ?_
  refine LW.nil fun aa ha => hK17 _ _ _ ?_ aa ha
  refine CW.seq fun K18 hK18 => ?_
  refine CW.region [0, 1, 2] rfl ?_
  refine LW.hv rfl rfl rfl rfl (Hv.buildSl hS Try.underlying32 ti87 rfl rfl rfl rfl rfl rfl) fun v w9 ⟨b9, hv, hb9, hS⟩ => ?_
  subst hv
  refine LW.ex rfl rfl rfl rfl (Ex.assign rfl) hS.rd ?_
  refine LW.ex rfl rfl rfl rfl (Ex.assign rfl) hS.rd ?_
  refine LW.nil fun aa ha => hK18 _ _ _ ?_ aa ha
  refine CW.seq fun K19 hK19 => ?_
  refine CW.seq fun K20 hK20 => ?_
  refine CW.region [0] rfl ?_
  refine LW.ex rfl rfl rfl rfl (Ex.assign rfl) hS.rd ?_
  refine LW.nil fun aa ha => hK20 _ _ _ ?_ aa ha
  refine CW.block ?_
  have hS : St w _ μ (_ :: _) := hS.row_sl (k := 0) rfl 0 3 rfl (by simp [maxLen])
  refine CW.loop (fun qq frm wl3 => ∃ (i : Nat) (ad : Option Addr) (c : Nat) (l : Nat) (ls : List Pr) (d : Bool), i ≤ ps.length ∧ l = ls.length ∧ l ≤ 2 * i ∧ qq = ps.length - i ∧ frm = [(2, .pointer (some ⟨b2, 0, none⟩)), (3, .pointer (some ⟨b3, 0, none⟩)), (5, .slice ad l c), (6, .bool d), (7, .int .i64 i)] ∧ St w wl3 μ [Own.sl ad l c 87 3 (ls.flatMap prL), Own.obj b3 (prL p) 87, Own.obj b2 [.slice a0 n0 c0, .slice a1 n1 c1, .slice a2 ps.length c2, .int .i64 B] 34] ∧ (insP p ps = ls ++ insG (fun q => prLess p q) (fun q => prSame p q) (prAdd p) p d (ps.drop i))) _ ⟨0, some ⟨b9, 0, none⟩, 0, 0, [], false, (by first | omega | (simp; done) | (simp; omega)), (by first | omega | (simp; done) | (simp; omega)), (by first | omega | (simp; done) | (simp; omega)), rfl, rfl, hS, rfl⟩ ⟨rfl, rfl, rfl, rfl, rfl, trivial⟩ ?_
  clear hS
  rintro qq frm wl3 ⟨i, ad, c, l, ls, d, hi, hll, hlb, hq, rfl, hS, hG⟩
  refine CW.seq fun K21 hK21 => ?_
  refine CW.seq fun K22 hK22 => ?_
  refine CW.region [0, 1, 2, 3, 4] rfl ?_
  refine LW.ex rfl rfl rfl rfl (Ex.move rfl) hS.rd ?_
  refine LW.ex rfl rfl rfl rfl (Ex.fieldO 2 Try.underlying34 rfl rfl ti32 rfl) hS.rd ?_
  refine LW.ex rfl rfl rfl rfl (Ex.load1 ti32 rfl rfl (by first | exact obT rfl | exact Rd.imm ‹_› | exact slT ‹_›)) hS.rd ?_
  refine LW.ex rfl rfl rfl rfl (Ex.lenSl rfl Try.underlying32 rfl) hS.rd ?_
  refine LW.ex rfl rfl rfl rfl (Ex.lss rfl rfl rfl) hS.rd ?_
  refine LW.splitB (fun h3_4 => ?_) (fun h3_4 => ?_)
  · have h3_4 := of_decide_eq_true h3_4
    refine LW.nil fun aa ha => hK22 _ _ _ ?_ aa ha
    refine CW.yes rfl ?_
    refine CW.skip fun aa ha => hK21 _ _ _ ?_ aa ha
    refine CW.seq fun K23 hK23 => ?_
    refine CW.block ?_
    refine CW.seq fun K24 hK24 => ?_
    have hi2 : i < ps.length := by omega
    have hNi := hN _ (List.getElem_mem hi2)
    rw [drop_cons hi2, insG] at hG
    obtain ⟨bl', ol, rfl, k0, k1, k2⟩ := hm2.at hi2
    refine CW.region [0, 1, 2, 3, 4, 5, 6] rfl ?_
    refine LW.ex rfl rfl rfl rfl (Ex.fieldO 2 Try.underlying34 rfl rfl ti32 rfl) hS.rd ?_
    refine LW.ex rfl rfl rfl rfl (Ex.load1 ti32 rfl rfl (by first | exact obT rfl | exact Rd.imm ‹_› | exact slT ‹_›)) hS.rd ?_
    refine LW.ex rfl rfl rfl rfl (Ex.move rfl) hS.rd ?_
    refine LW.ex rfl rfl rfl rfl (Ex.indexSl Try.underlying32 ti87 rfl rfl rfl (by omega)) hS.rd ?_
    refine LW.ex rfl rfl rfl rfl (Ex.load3c ti87 rfl rfl (by first | exact obT rfl | exact Rd.imm ‹_› | exact slT ‹_›) (by first | exact obT rfl | exact Rd.imm ‹_› | exact slT ‹_›) (by first | exact obT rfl | exact Rd.imm ‹_› | exact slT ‹_›)) hS.rd ?_
    refine LW.hv rfl rfl rfl rfl (Hv.alloc ti87 hS) fun v w8 ⟨b8, hv, hb8, hS⟩ => ?_
    subst hv
    refine LW.hu rfl rfl rfl (Hv.storeN (k := 0) ti87 hS rfl rfl rfl rfl (by simp [Value.oneCell'])) fun _ w_6 hS => ?_
    dsimp only [List.set] at hS
    refine LW.nil fun aa ha => hK24 _ _ _ ?_ aa ha
    refine CW.seq fun K25 hK25 => ?_
    refine CW.seq fun K26 hK26 => ?_
    refine CW.region [0, 1, 2, 3, 4, 5, 6] rfl ?_
    refine LW.ex rfl rfl rfl rfl (Ex.move rfl) hS.rd ?_
    refine LW.splitB (fun h6_0 => ?_) (fun h6_0 => ?_)
    · subst h6_0
      refine LW.ex rfl rfl rfl rfl (Ex.not rfl rfl) hS.rd ?_
      refine LW.ex rfl rfl rfl rfl (Ex.move rfl) hS.rd ?_
      refine LW.skip rfl rfl rfl rfl ?_
      refine LW.skip rfl rfl rfl rfl ?_
      refine LW.skip rfl rfl rfl rfl ?_
      refine LW.ex rfl rfl rfl rfl (by first | exact Ex.pick_yes rfl rfl | exact Ex.pick_no rfl rfl) hS.rd ?_
      refine LW.nil fun aa ha => hK26 _ _ _ ?_ aa ha
      refine CW.no rfl ?_
      refine CW.skip fun aa ha => hK25 _ _ _ ?_ aa ha
      refine CW.seq fun K27 hK27 => ?_
      refine CW.seq fun K28 hK28 => ?_
      refine CW.region [0, 1, 2, 3, 4, 5, 6, 7, 8, 9, 10, 11] rfl ?_
      refine LW.ex rfl rfl rfl rfl (Ex.fieldO 0 Try.underlying87 rfl rfl ti3 rfl) hS.rd ?_
      refine LW.ex rfl rfl rfl rfl (Ex.load1 ti3 rfl rfl (by first | exact obT rfl | exact Rd.imm ‹_› | exact slT ‹_›)) hS.rd ?_
      refine LW.ex rfl rfl rfl rfl (Ex.fieldO 0 Try.underlying87 rfl rfl ti3 rfl) hS.rd ?_
      refine LW.ex rfl rfl rfl rfl (Ex.load1 ti3 rfl rfl (by first | exact obT rfl | exact Rd.imm ‹_› | exact slT ‹_›)) hS.rd ?_
      refine LW.ex rfl rfl rfl rfl (Ex.eql rfl rfl rfl) hS.rd ?_
      refine LW.splitB (fun h8_4 => ?_) (fun h8_4 => ?_)
      · have h8_4 := of_decide_eq_true h8_4
        refine LW.ex rfl rfl rfl rfl (Ex.move rfl) hS.rd ?_
        refine LW.ex rfl rfl rfl rfl (Ex.fieldO 1 Try.underlying87 rfl rfl ti3 rfl) hS.rd ?_
        refine LW.ex rfl rfl rfl rfl (Ex.load1 ti3 rfl rfl (by first | exact obT rfl | exact Rd.imm ‹_› | exact slT ‹_›)) hS.rd ?_
        refine LW.ex rfl rfl rfl rfl (Ex.fieldO 1 Try.underlying87 rfl rfl ti3 rfl) hS.rd ?_
        refine LW.ex rfl rfl rfl rfl (Ex.load1 ti3 rfl rfl (by first | exact obT rfl | exact Rd.imm ‹_› | exact slT ‹_›)) hS.rd ?_
        refine LW.ex rfl rfl rfl rfl (Ex.eql rfl rfl rfl) hS.rd ?_
        refine LW.splitB (fun h8_10 => ?_) (fun h8_10 => ?_)
        · have h8_10 := of_decide_eq_true h8_10
          have hsm : prSame p ps[i] = true := decide_eq_true ⟨by omega, by omega⟩
          refine LW.ex rfl rfl rfl rfl (by first | exact Ex.pick_yes rfl rfl | exact Ex.pick_no rfl rfl) hS.rd ?_
          refine LW.nil fun aa ha => hK28 _ _ _ ?_ aa ha
          refine CW.yes rfl ?_
          refine CW.seq fun K29 hK29 => ?_
          refine CW.region [0, 1, 2, 3, 4, 5, 6] rfl ?_
          refine LW.ex rfl rfl rfl rfl (Ex.fieldO 2 Try.underlying87 rfl rfl ti3 rfl) hS.rd ?_
          refine LW.ex rfl rfl rfl rfl (Ex.load1 ti3 rfl rfl (by first | exact obT rfl | exact Rd.imm ‹_› | exact slT ‹_›)) hS.rd ?_
          refine LW.ex rfl rfl rfl rfl (Ex.fieldO 2 Try.underlying87 rfl rfl ti3 rfl) hS.rd ?_
          refine LW.ex rfl rfl rfl rfl (Ex.load1 ti3 rfl rfl (by first | exact obT rfl | exact Rd.imm ‹_› | exact slT ‹_›)) hS.rd ?_
          refine LW.ex rfl rfl rfl rfl (Ex.add rfl rfl (by first | exact inc64 (by omega) | exact addN (by omega) | exact w64 (by omega) (by omega))) hS.rd ?_
          refine LW.ex rfl rfl rfl rfl (Ex.fieldO 2 Try.underlying87 rfl rfl ti3 rfl) hS.rd ?_
          refine LW.hu rfl rfl rfl (Hv.storeObj (k := 0) ti3 hS rfl rfl rfl rfl (by first | assumption | (simp; done) | omega | exact Nat.zero_lt_succ _)) fun _ w_6 hS => ?_
          dsimp only [List.set] at hS
          refine LW.nil fun aa ha => hK29 _ _ _ ?_ aa ha
          refine CW.region [0] rfl ?_
          refine LW.ex rfl rfl rfl rfl (Ex.assign rfl) hS.rd ?_
          refine LW.nil fun aa ha => hK27 _ _ _ ?_ aa ha
          refine CW.region [0, 1, 2, 3, 4] rfl ?_
          refine LW.ex rfl rfl rfl rfl (Ex.move rfl) hS.rd ?_
          refine LW.ex rfl rfl rfl rfl (Ex.load3c ti87 rfl rfl (by first | exact obT rfl | exact Rd.imm ‹_› | exact slT ‹_›) (by first | exact obT rfl | exact Rd.imm ‹_› | exact slT ‹_›) (by first | exact obT rfl | exact Rd.imm ‹_› | exact slT ‹_›)) hS.rd ?_
          refine LW.hv rfl rfl rfl rfl (Hv.buildSl hS Try.underlying32 ti87 rfl rfl rfl rfl rfl rfl) fun v w53 ⟨b53, hv, hb53, hS⟩ => ?_
          subst hv
          refine LW.hv rfl rfl rfl rfl (Hv.append (k := 2) rfl Try.underlying32 ti87 rfl hS rfl rfl rfl rfl (Rd.objAll (k := 0) rfl hS.rd) (by simp [Value.oneCell']) (by unfold maxLen; omega) (by omega)) fun v w54 ⟨ad54, c54, hv, hS⟩ => ?_
          subst hv
          dsimp only [List.set] at hS
          have hS := hS.drop 0 rfl
          dsimp only [List.eraseIdx] at hS
          rw [show ls.flatMap prL ++ [Value.int .i64 ps[i].A, .int .i64 ps[i].B, .int .i64 (ps[i].N + p.N)] = (ls ++ [prAdd p ps[i]]).flatMap prL by rw [List.flatMap_append, List.flatMap_singleton]; rfl] at hS
          refine LW.ex rfl rfl rfl rfl (Ex.assign rfl) hS.rd ?_
          refine LW.nil fun aa ha => hK23 _ _ _ ?_ aa ha
          refine CW.region [0, 1, 2] rfl ?_
          refine LW.ex rfl rfl rfl rfl (Ex.move rfl) hS.rd ?_
          refine LW.ex rfl rfl rfl rfl (Ex.add rfl rfl (by first | exact inc64 (by omega) | exact addN (by omega) | exact w64 (by omega) (by omega))) hS.rd ?_
          refine LW.ex rfl rfl rfl rfl (Ex.assign rfl) hS.rd ?_
          refine LW.nil fun aa ha => ?_
          have hS := hS.drop 0 rfl
          dsimp only [List.eraseIdx] at hS
          refine ⟨_, _, ?m3, ⟨i + 1, ad54, c54, l + 1, ls ++ [prAdd p ps[i]], true, (by first | omega | (simp; done) | (simp; omega)), (by first | omega | (simp; done) | (simp; omega)), (by first | omega | (simp; done) | (simp; omega)), rfl, rfl, hS, by rw [hG]; simp_all⟩, ha.sub ⟨rfl, rfl, rfl, rfl, rfl, trivial⟩⟩
          case m3 => omega
        · have h8_10 := of_decide_eq_false h8_10
          have hsm : prSame p ps[i] = false := decide_eq_false (by omega)
          refine LW.ex rfl rfl rfl rfl (by first | exact Ex.pick_yes rfl rfl | exact Ex.pick_no rfl rfl) hS.rd ?_
          refine LW.nil fun aa ha => hK28 _ _ _ ?_ aa ha
          refine CW.no rfl ?_
          refine CW.skip fun aa ha => hK27 _ _ _ ?_ aa ha
          refine CW.region [0, 1, 2, 3, 4] rfl ?_
          refine LW.ex rfl rfl rfl rfl (Ex.move rfl) hS.rd ?_
          refine LW.ex rfl rfl rfl rfl (Ex.load3c ti87 rfl rfl (by first | exact obT rfl | exact Rd.imm ‹_› | exact slT ‹_›) (by first | exact obT rfl | exact Rd.imm ‹_› | exact slT ‹_›) (by first | exact obT rfl | exact Rd.imm ‹_› | exact slT ‹_›)) hS.rd ?_
          refine LW.hv rfl rfl rfl rfl (Hv.buildSl hS Try.underlying32 ti87 rfl rfl rfl rfl rfl rfl) fun v w53 ⟨b53, hv, hb53, hS⟩ => ?_
          subst hv
          refine LW.hv rfl rfl rfl rfl (Hv.append (k := 2) rfl Try.underlying32 ti87 rfl hS rfl rfl rfl rfl (Rd.objAll (k := 0) rfl hS.rd) (by simp [Value.oneCell']) (by unfold maxLen; omega) (by omega)) fun v w54 ⟨ad54, c54, hv, hS⟩ => ?_
          subst hv
          dsimp only [List.set] at hS
          have hS := hS.drop 0 rfl
          dsimp only [List.eraseIdx] at hS
          rw [show ls.flatMap prL ++ [Value.int .i64 ps[i].A, .int .i64 ps[i].B, .int .i64 ps[i].N] = (ls ++ [ps[i]]).flatMap prL by rw [List.flatMap_append, List.flatMap_singleton]; rfl] at hS
          refine LW.ex rfl rfl rfl rfl (Ex.assign rfl) hS.rd ?_
          refine LW.nil fun aa ha => hK23 _ _ _ ?_ aa ha
          refine CW.region [0, 1, 2] rfl ?_
          refine LW.ex rfl rfl rfl rfl (Ex.move rfl) hS.rd ?_
          refine LW.ex rfl rfl rfl rfl (Ex.add rfl rfl (by first | exact inc64 (by omega) | exact addN (by omega) | exact w64 (by omega) (by omega))) hS.rd ?_
          refine LW.ex rfl rfl rfl rfl (Ex.assign rfl) hS.rd ?_
          refine LW.nil fun aa ha => ?_
          have hS := hS.drop 0 rfl
          dsimp only [List.eraseIdx] at hS
          refine ⟨_, _, ?m3, ⟨i + 1, ad54, c54, l + 1, ls ++ [ps[i]], true, (by first | omega | (simp; done) | (simp; omega)), (by first | omega | (simp; done) | (simp; omega)), (by first | omega | (simp; done) | (simp; omega)), rfl, rfl, hS, by rw [hG]; simp_all⟩, ha.sub ⟨rfl, rfl, rfl, rfl, rfl, trivial⟩⟩
          case m3 => omega
      · have h8_4 := of_decide_eq_false h8_4
        have hsm : prSame p ps[i] = false := decide_eq_false (by omega)
        refine LW.ex rfl rfl rfl rfl (Ex.move rfl) hS.rd ?_
        refine LW.skip rfl rfl rfl rfl ?_
        refine LW.skip rfl rfl rfl rfl ?_
        refine LW.skip rfl rfl rfl rfl ?_
        refine LW.skip rfl rfl rfl rfl ?_
        refine LW.skip rfl rfl rfl rfl ?_
        refine LW.ex rfl rfl rfl rfl (by first | exact Ex.pick_yes rfl rfl | exact Ex.pick_no rfl rfl) hS.rd ?_
        refine LW.nil fun aa ha => hK28 _ _ _ ?_ aa ha
        refine CW.no rfl ?_
        refine CW.skip fun aa ha => hK27 _ _ _ ?_ aa ha
        refine CW.region [0, 1, 2, 3, 4] rfl ?_
        refine LW.ex rfl rfl rfl rfl (Ex.move rfl) hS.rd ?_
        refine LW.ex rfl rfl rfl rfl (Ex.load3c ti87 rfl rfl (by first | exact obT rfl | exact Rd.imm ‹_› | exact slT ‹_›) (by first | exact obT rfl | exact Rd.imm ‹_› | exact slT ‹_›) (by first | exact obT rfl | exact Rd.imm ‹_› | exact slT ‹_›)) hS.rd ?_
        refine LW.hv rfl rfl rfl rfl (Hv.buildSl hS Try.underlying32 ti87 rfl rfl rfl rfl rfl rfl) fun v w53 ⟨b53, hv, hb53, hS⟩ => ?_
        subst hv
        refine LW.hv rfl rfl rfl rfl (Hv.append (k := 2) rfl Try.underlying32 ti87 rfl hS rfl rfl rfl rfl (Rd.objAll (k := 0) rfl hS.rd) (by simp [Value.oneCell']) (by unfold maxLen; omega) (by omega)) fun v w54 ⟨ad54, c54, hv, hS⟩ => ?_
        subst hv
        dsimp only [List.set] at hS
        have hS := hS.drop 0 rfl
        dsimp only [List.eraseIdx] at hS
        rw [show ls.flatMap prL ++ [Value.int .i64 ps[i].A, .int .i64 ps[i].B, .int .i64 ps[i].N] = (ls ++ [ps[i]]).flatMap prL by rw [List.flatMap_append, List.flatMap_singleton]; rfl] at hS
        refine LW.ex rfl rfl rfl rfl (Ex.assign rfl) hS.rd ?_
        refine LW.nil fun aa ha => hK23 _ _ _ ?_ aa ha
        refine CW.region [0, 1, 2] rfl ?_
        refine LW.ex rfl rfl rfl rfl (Ex.move rfl) hS.rd ?_
        refine LW.ex rfl rfl rfl rfl (Ex.add rfl rfl (by first | exact inc64 (by omega) | exact addN (by omega) | exact w64 (by omega) (by omega))) hS.rd ?_
        refine LW.ex rfl rfl rfl rfl (Ex.assign rfl) hS.rd ?_
        refine LW.nil fun aa ha => ?_
        have hS := hS.drop 0 rfl
        dsimp only [List.eraseIdx] at hS
        refine ⟨_, _, ?m3, ⟨i + 1, ad54, c54, l + 1, ls ++ [ps[i]], true, (by first | omega | (simp; done) | (simp; omega)), (by first | omega | (simp; done) | (simp; omega)), (by first | omega | (simp; done) | (simp; omega)), rfl, rfl, hS, by rw [hG]; simp_all⟩, ha.sub ⟨rfl, rfl, rfl, rfl, rfl, trivial⟩⟩
        case m3 => omega
    · subst h6_0
      refine LW.ex rfl rfl rfl rfl (Ex.not rfl rfl) hS.rd ?_
      refine LW.ex rfl rfl rfl rfl (Ex.move rfl) hS.rd ?_
      refine LW.ex rfl rfl rfl rfl (Ex.load3c ti87 rfl rfl (by first | exact obT rfl | exact Rd.imm ‹_› | exact slT ‹_›) (by first | exact obT rfl | exact Rd.imm ‹_› | exact slT ‹_›) (by first | exact obT rfl | exact Rd.imm ‹_› | exact slT ‹_›)) hS.rd ?_
      refine LW.ex rfl rfl rfl rfl (Ex.load3c ti87 rfl rfl (by first | exact obT rfl | exact Rd.imm ‹_› | exact slT ‹_›) (by first | exact obT rfl | exact Rd.imm ‹_› | exact slT ‹_›) (by first | exact obT rfl | exact Rd.imm ‹_› | exact slT ‹_›)) hS.rd ?_
      refine LW.hv rfl rfl rfl rfl (Hv.callS hS rfl rfl rfl cb53 (prLess_c p ps[i] _)) fun v w27 ⟨hv, hS⟩ => ?_
      subst hv
      refine LW.splitB (fun h6_5 => ?_) (fun h6_5 => ?_)
      · skip
        refine LW.ex rfl rfl rfl rfl (by first | exact Ex.pick_yes rfl rfl | exact Ex.pick_no rfl rfl) hS.rd ?_
        refine LW.nil fun aa ha => hK26 _ _ _ ?_ aa ha
        refine CW.yes rfl ?_
        refine CW.region [0, 1, 2, 3, 4, 5] rfl ?_
        refine LW.ex rfl rfl rfl rfl (Ex.move rfl) hS.rd ?_
        refine LW.ex rfl rfl rfl rfl (Ex.load3c ti87 rfl rfl (by first | exact obT rfl | exact Rd.imm ‹_› | exact slT ‹_›) (by first | exact obT rfl | exact Rd.imm ‹_› | exact slT ‹_›) (by first | exact obT rfl | exact Rd.imm ‹_› | exact slT ‹_›)) hS.rd ?_
        refine LW.hv rfl rfl rfl rfl (Hv.buildSl hS Try.underlying32 ti87 rfl rfl rfl rfl rfl rfl) fun v w31 ⟨b31, hv, hb31, hS⟩ => ?_
        subst hv
        refine LW.hv rfl rfl rfl rfl (Hv.append (k := 2) rfl Try.underlying32 ti87 rfl hS rfl rfl rfl rfl (Rd.objAll (k := 0) rfl hS.rd) (by simp [Value.oneCell']) (by unfold maxLen; omega) (by omega)) fun v w32 ⟨ad32, c32, hv, hS⟩ => ?_
        subst hv
        dsimp only [List.set] at hS
        have hS := hS.drop 0 rfl
        dsimp only [List.eraseIdx] at hS
        rw [show ls.flatMap prL ++ [Value.int .i64 p.A, .int .i64 p.B, .int .i64 p.N] = (ls ++ [p]).flatMap prL by rw [List.flatMap_append, List.flatMap_singleton]; rfl] at hS
        refine LW.ex rfl rfl rfl rfl (Ex.assign rfl) hS.rd ?_
        refine LW.ex rfl rfl rfl rfl (Ex.assign rfl) hS.rd ?_
        refine LW.nil fun aa ha => hK25 _ _ _ ?_ aa ha
        refine CW.seq fun K30 hK30 => ?_
        refine CW.seq fun K31 hK31 => ?_
        refine CW.region [0, 1, 2, 3, 4, 5, 6, 7, 8, 9, 10, 11] rfl ?_
        refine LW.ex rfl rfl rfl rfl (Ex.fieldO 0 Try.underlying87 rfl rfl ti3 rfl) hS.rd ?_
        refine LW.ex rfl rfl rfl rfl (Ex.load1 ti3 rfl rfl (by first | exact obT rfl | exact Rd.imm ‹_› | exact slT ‹_›)) hS.rd ?_
        refine LW.ex rfl rfl rfl rfl (Ex.fieldO 0 Try.underlying87 rfl rfl ti3 rfl) hS.rd ?_
        refine LW.ex rfl rfl rfl rfl (Ex.load1 ti3 rfl rfl (by first | exact obT rfl | exact Rd.imm ‹_› | exact slT ‹_›)) hS.rd ?_
        refine LW.ex rfl rfl rfl rfl (Ex.eql rfl rfl rfl) hS.rd ?_
        refine LW.splitB (fun h8_4 => ?_) (fun h8_4 => ?_)
        · have h8_4 := of_decide_eq_true h8_4
          refine LW.ex rfl rfl rfl rfl (Ex.move rfl) hS.rd ?_
          refine LW.ex rfl rfl rfl rfl (Ex.fieldO 1 Try.underlying87 rfl rfl ti3 rfl) hS.rd ?_
          refine LW.ex rfl rfl rfl rfl (Ex.load1 ti3 rfl rfl (by first | exact obT rfl | exact Rd.imm ‹_› | exact slT ‹_›)) hS.rd ?_
          refine LW.ex rfl rfl rfl rfl (Ex.fieldO 1 Try.underlying87 rfl rfl ti3 rfl) hS.rd ?_
          refine LW.ex rfl rfl rfl rfl (Ex.load1 ti3 rfl rfl (by first | exact obT rfl | exact Rd.imm ‹_› | exact slT ‹_›)) hS.rd ?_
          refine LW.ex rfl rfl rfl rfl (Ex.eql rfl rfl rfl) hS.rd ?_
          refine LW.splitB (fun h8_10 => ?_) (fun h8_10 => ?_)
          · have h8_10 := of_decide_eq_true h8_10
            have hsm : prSame p ps[i] = true := decide_eq_true ⟨by omega, by omega⟩
            refine LW.ex rfl rfl rfl rfl (by first | exact Ex.pick_yes rfl rfl | exact Ex.pick_no rfl rfl) hS.rd ?_
            refine LW.nil fun aa ha => hK31 _ _ _ ?_ aa ha
            refine CW.yes rfl ?_
            refine CW.seq fun K32 hK32 => ?_
            refine CW.region [0, 1, 2, 3, 4, 5, 6] rfl ?_
            refine LW.ex rfl rfl rfl rfl (Ex.fieldO 2 Try.underlying87 rfl rfl ti3 rfl) hS.rd ?_
            refine LW.ex rfl rfl rfl rfl (Ex.load1 ti3 rfl rfl (by first | exact obT rfl | exact Rd.imm ‹_› | exact slT ‹_›)) hS.rd ?_
            refine LW.ex rfl rfl rfl rfl (Ex.fieldO 2 Try.underlying87 rfl rfl ti3 rfl) hS.rd ?_
            refine LW.ex rfl rfl rfl rfl (Ex.load1 ti3 rfl rfl (by first | exact obT rfl | exact Rd.imm ‹_› | exact slT ‹_›)) hS.rd ?_
            refine LW.ex rfl rfl rfl rfl (Ex.add rfl rfl (by first | exact inc64 (by omega) | exact addN (by omega) | exact w64 (by omega) (by omega))) hS.rd ?_
            refine LW.ex rfl rfl rfl rfl (Ex.fieldO 2 Try.underlying87 rfl rfl ti3 rfl) hS.rd ?_
            refine LW.hu rfl rfl rfl (Hv.storeObj (k := 0) ti3 hS rfl rfl rfl rfl (by first | assumption | (simp; done) | omega | exact Nat.zero_lt_succ _)) fun _ w_6 hS => ?_
            dsimp only [List.set] at hS
            refine LW.nil fun aa ha => hK32 _ _ _ ?_ aa ha
            refine CW.region [0] rfl ?_
            refine LW.ex rfl rfl rfl rfl (Ex.assign rfl) hS.rd ?_
            refine LW.nil fun aa ha => hK30 _ _ _ ?_ aa ha
            refine CW.region [0, 1, 2, 3, 4] rfl ?_
            refine LW.ex rfl rfl rfl rfl (Ex.move rfl) hS.rd ?_
            refine LW.ex rfl rfl rfl rfl (Ex.load3c ti87 rfl rfl (by first | exact obT rfl | exact Rd.imm ‹_› | exact slT ‹_›) (by first | exact obT rfl | exact Rd.imm ‹_› | exact slT ‹_›) (by first | exact obT rfl | exact Rd.imm ‹_› | exact slT ‹_›)) hS.rd ?_
            refine LW.hv rfl rfl rfl rfl (Hv.buildSl hS Try.underlying32 ti87 rfl rfl rfl rfl rfl rfl) fun v w53 ⟨b53, hv, hb53, hS⟩ => ?_
            subst hv
            refine LW.hv rfl rfl rfl rfl (Hv.append (k := 2) rfl Try.underlying32 ti87 rfl hS rfl rfl rfl rfl (Rd.objAll (k := 0) rfl hS.rd) (by simp [Value.oneCell']) (by unfold maxLen; omega) (by omega)) fun v w54 ⟨ad54, c54, hv, hS⟩ => ?_
            subst hv
            dsimp only [List.set] at hS
            have hS := hS.drop 0 rfl
            dsimp only [List.eraseIdx] at hS
            rw [show (ls ++ [p]).flatMap prL ++ [Value.int .i64 ps[i].A, .int .i64 ps[i].B, .int .i64 (ps[i].N + p.N)] = (ls ++ [p] ++ [prAdd p ps[i]]).flatMap prL by rw [List.flatMap_append (xs := ls ++ [p]), List.flatMap_singleton]; rfl] at hS
            refine LW.ex rfl rfl rfl rfl (Ex.assign rfl) hS.rd ?_
            refine LW.nil fun aa ha => hK23 _ _ _ ?_ aa ha
            refine CW.region [0, 1, 2] rfl ?_
            refine LW.ex rfl rfl rfl rfl (Ex.move rfl) hS.rd ?_
            refine LW.ex rfl rfl rfl rfl (Ex.add rfl rfl (by first | exact inc64 (by omega) | exact addN (by omega) | exact w64 (by omega) (by omega))) hS.rd ?_
            refine LW.ex rfl rfl rfl rfl (Ex.assign rfl) hS.rd ?_
            refine LW.nil fun aa ha => ?_
            have hS := hS.drop 0 rfl
            dsimp only [List.eraseIdx] at hS
            refine ⟨_, _, ?m3, ⟨i + 1, ad54, c54, l + 1 + 1, ls ++ [p] ++ [prAdd p ps[i]], true, (by first | omega | (simp; done) | (simp; omega)), (by first | omega | (simp; done) | (simp; omega)), (by first | omega | (simp; done) | (simp; omega)), rfl, rfl, hS, by rw [hG]; simp_all⟩, ha.sub ⟨rfl, rfl, rfl, rfl, rfl, trivial⟩⟩
            case m3 => omega
          · have h8_10 := of_decide_eq_false h8_10
            have hsm : prSame p ps[i] = false := decide_eq_false (by omega)
            refine LW.ex rfl rfl rfl rfl (by first | exact Ex.pick_yes rfl rfl | exact Ex.pick_no rfl rfl) hS.rd ?_
            refine LW.nil fun aa ha => hK31 _ _ _ ?_ aa ha
            refine CW.no rfl ?_
            refine CW.skip fun aa ha => hK30 _ _ _ ?_ aa ha
            refine CW.region [0, 1, 2, 3, 4] rfl ?_
            refine LW.ex rfl rfl rfl rfl (Ex.move rfl) hS.rd ?_
            refine LW.ex rfl rfl rfl rfl (Ex.load3c ti87 rfl rfl (by first | exact obT rfl | exact Rd.imm ‹_› | exact slT ‹_›) (by first | exact obT rfl | exact Rd.imm ‹_› | exact slT ‹_›) (by first | exact obT rfl | exact Rd.imm ‹_› | exact slT ‹_›)) hS.rd ?_
            refine LW.hv rfl rfl rfl rfl (Hv.buildSl hS Try.underlying32 ti87 rfl rfl rfl rfl rfl rfl) fun v w53 ⟨b53, hv, hb53, hS⟩ => ?_
            subst hv
            refine LW.hv rfl rfl rfl rfl (Hv.append (k := 2) rfl Try.underlying32 ti87 rfl hS rfl rfl rfl rfl (Rd.objAll (k := 0) rfl hS.rd) (by simp [Value.oneCell']) (by unfold maxLen; omega) (by omega)) fun v w54 ⟨ad54, c54, hv, hS⟩ => ?_
            subst hv
            dsimp only [List.set] at hS
            have hS := hS.drop 0 rfl
            dsimp only [List.eraseIdx] at hS
            rw [show (ls ++ [p]).flatMap prL ++ [Value.int .i64 ps[i].A, .int .i64 ps[i].B, .int .i64 ps[i].N] = (ls ++ [p] ++ [ps[i]]).flatMap prL by rw [List.flatMap_append (xs := ls ++ [p]), List.flatMap_singleton]; rfl] at hS
            refine LW.ex rfl rfl rfl rfl (Ex.assign rfl) hS.rd ?_
            refine LW.nil fun aa ha => hK23 _ _ _ ?_ aa ha
            refine CW.region [0, 1, 2] rfl ?_
            refine LW.ex rfl rfl rfl rfl (Ex.move rfl) hS.rd ?_
            refine LW.ex rfl rfl rfl rfl (Ex.add rfl rfl (by first | exact inc64 (by omega) | exact addN (by omega) | exact w64 (by omega) (by omega))) hS.rd ?_
            refine LW.ex rfl rfl rfl rfl (Ex.assign rfl) hS.rd ?_
            refine LW.nil fun aa ha => ?_
            have hS := hS.drop 0 rfl
            dsimp only [List.eraseIdx] at hS
            refine ⟨_, _, ?m3, ⟨i + 1, ad54, c54, l + 1 + 1, ls ++ [p] ++ [ps[i]], true, (by first | omega | (simp; done) | (simp; omega)), (by first | omega | (simp; done) | (simp; omega)), (by first | omega | (simp; done) | (simp; omega)), rfl, rfl, hS, by rw [hG]; simp_all⟩, ha.sub ⟨rfl, rfl, rfl, rfl, rfl, trivial⟩⟩
            case m3 => omega
        · have h8_4 := of_decide_eq_false h8_4
          have hsm : prSame p ps[i] = false := decide_eq_false (by omega)
          refine LW.ex rfl rfl rfl rfl (Ex.move rfl) hS.rd ?_
          refine LW.skip rfl rfl rfl rfl ?_
          refine LW.skip rfl rfl rfl rfl ?_
          refine LW.skip rfl rfl rfl rfl ?_
          refine LW.skip rfl rfl rfl rfl ?_
          refine LW.skip rfl rfl rfl rfl ?_
          refine LW.ex rfl rfl rfl rfl (by first | exact Ex.pick_yes rfl rfl | exact Ex.pick_no rfl rfl) hS.rd ?_
          refine LW.nil fun aa ha => hK31 _ _ _ ?_ aa ha
          refine CW.no rfl ?_
          refine CW.skip fun aa ha => hK30 _ _ _ ?_ aa ha
          refine CW.region [0, 1, 2, 3, 4] rfl ?_
          refine LW.ex rfl rfl rfl rfl (Ex.move rfl) hS.rd ?_
          refine LW.ex rfl rfl rfl rfl (Ex.load3c ti87 rfl rfl (by first | exact obT rfl | exact Rd.imm ‹_› | exact slT ‹_›) (by first | exact obT rfl | exact Rd.imm ‹_› | exact slT ‹_›) (by first | exact obT rfl | exact Rd.imm ‹_› | exact slT ‹_›)) hS.rd ?_
          refine LW.hv rfl rfl rfl rfl (Hv.buildSl hS Try.underlying32 ti87 rfl rfl rfl rfl rfl rfl) fun v w53 ⟨b53, hv, hb53, hS⟩ => ?_
          subst hv
          refine LW.hv rfl rfl rfl rfl (Hv.append (k := 2) rfl Try.underlying32 ti87 rfl hS rfl rfl rfl rfl (Rd.objAll (k := 0) rfl hS.rd) (by simp [Value.oneCell']) (by unfold maxLen; omega) (by omega)) fun v w54 ⟨ad54, c54, hv, hS⟩ => ?_
          subst hv
          dsimp only [List.set] at hS
          have hS := hS.drop 0 rfl
          dsimp only [List.eraseIdx] at hS
          rw [show (ls ++ [p]).flatMap prL ++ [Value.int .i64 ps[i].A, .int .i64 ps[i].B, .int .i64 ps[i].N] = (ls ++ [p] ++ [ps[i]]).flatMap prL by rw [List.flatMap_append (xs := ls ++ [p]), List.flatMap_singleton]; rfl] at hS
          refine LW.ex rfl rfl rfl rfl (Ex.assign rfl) hS.rd ?_
          refine LW.nil fun aa ha => hK23 _ _ _ ?_ aa ha
          refine CW.region [0, 1, 2] rfl ?_
          refine LW.ex rfl rfl rfl rfl (Ex.move rfl) hS.rd ?_
          refine LW.ex rfl rfl rfl rfl (Ex.add rfl rfl (by first | exact inc64 (by omega) | exact addN (by omega) | exact w64 (by omega) (by omega))) hS.rd ?_
          refine LW.ex rfl rfl rfl rfl (Ex.assign rfl) hS.rd ?_
          refine LW.nil fun aa ha => ?_
          have hS := hS.drop 0 rfl
          dsimp only [List.eraseIdx] at hS
          refine ⟨_, _, ?m3, ⟨i + 1, ad54, c54, l + 1 + 1, ls ++ [p] ++ [ps[i]], true, (by first | omega | (simp; done) | (simp; omega)), (by first | omega | (simp; done) | (simp; omega)), (by first | omega | (simp; done) | (simp; omega)), rfl, rfl, hS, by rw [hG]; simp_all⟩, ha.sub ⟨rfl, rfl, rfl, rfl, rfl, trivial⟩⟩
          case m3 => omega
      · skip
        refine LW.ex rfl rfl rfl rfl (by first | exact Ex.pick_yes rfl rfl | exact Ex.pick_no rfl rfl) hS.rd ?_
        refine LW.nil fun aa ha => hK26 _ _ _ ?_ aa ha
        refine CW.no rfl ?_
        refine CW.skip fun aa ha => hK25 _ _ _ ?_ aa ha
        refine CW.seq fun K33 hK33 => ?_
        refine CW.seq fun K34 hK34 => ?_
        refine CW.region [0, 1, 2, 3, 4, 5, 6, 7, 8, 9, 10, 11] rfl ?_
        refine LW.ex rfl rfl rfl rfl (Ex.fieldO 0 Try.underlying87 rfl rfl ti3 rfl) hS.rd ?_
        refine LW.ex rfl rfl rfl rfl (Ex.load1 ti3 rfl rfl (by first | exact obT rfl | exact Rd.imm ‹_› | exact slT ‹_›)) hS.rd ?_
        refine LW.ex rfl rfl rfl rfl (Ex.fieldO 0 Try.underlying87 rfl rfl ti3 rfl) hS.rd ?_
        refine LW.ex rfl rfl rfl rfl (Ex.load1 ti3 rfl rfl (by first | exact obT rfl | exact Rd.imm ‹_› | exact slT ‹_›)) hS.rd ?_
        refine LW.ex rfl rfl rfl rfl (Ex.eql rfl rfl rfl) hS.rd ?_
        refine LW.splitB (fun h8_4 => ?_) (fun h8_4 => ?_)
        · have h8_4 := of_decide_eq_true h8_4
          refine LW.ex rfl rfl rfl rfl (Ex.move rfl) hS.rd ?_
          refine LW.ex rfl rfl rfl rfl (Ex.fieldO 1 Try.underlying87 rfl rfl ti3 rfl) hS.rd ?_
          refine LW.ex rfl rfl rfl rfl (Ex.load1 ti3 rfl rfl (by first | exact obT rfl | exact Rd.imm ‹_› | exact slT ‹_›)) hS.rd ?_
          refine LW.ex rfl rfl rfl rfl (Ex.fieldO 1 Try.underlying87 rfl rfl ti3 rfl) hS.rd ?_
          refine LW.ex rfl rfl rfl rfl (Ex.load1 ti3 rfl rfl (by first | exact obT rfl | exact Rd.imm ‹_› | exact slT ‹_›)) hS.rd ?_
          refine LW.ex rfl rfl rfl rfl (Ex.eql rfl rfl rfl) hS.rd ?_
          refine LW.splitB (fun h8_10 => ?_) (fun h8_10 => ?_)
          · have h8_10 := of_decide_eq_true h8_10
            have hsm : prSame p ps[i] = true := decide_eq_true ⟨by omega, by omega⟩
            refine LW.ex rfl rfl rfl rfl (by first | exact Ex.pick_yes rfl rfl | exact Ex.pick_no rfl rfl) hS.rd ?_
            refine LW.nil fun aa ha => hK34 _ _ _ ?_ aa ha
            refine CW.yes rfl ?_
            refine CW.seq fun K35 hK35 => ?_
            refine CW.region [0, 1, 2, 3, 4, 5, 6] rfl ?_
            refine LW.ex rfl rfl rfl rfl (Ex.fieldO 2 Try.underlying87 rfl rfl ti3 rfl) hS.rd ?_
            refine LW.ex rfl rfl rfl rfl (Ex.load1 ti3 rfl rfl (by first | exact obT rfl | exact Rd.imm ‹_› | exact slT ‹_›)) hS.rd ?_
            refine LW.ex rfl rfl rfl rfl (Ex.fieldO 2 Try.underlying87 rfl rfl ti3 rfl) hS.rd ?_
            refine LW.ex rfl rfl rfl rfl (Ex.load1 ti3 rfl rfl (by first | exact obT rfl | exact Rd.imm ‹_› | exact slT ‹_›)) hS.rd ?_
            refine LW.ex rfl rfl rfl rfl (Ex.add rfl rfl (by first | exact inc64 (by omega) | exact addN (by omega) | exact w64 (by omega) (by omega))) hS.rd ?_
            refine LW.ex rfl rfl rfl rfl (Ex.fieldO 2 Try.underlying87 rfl rfl ti3 rfl) hS.rd ?_
            refine LW.hu rfl rfl rfl (Hv.storeObj (k := 0) ti3 hS rfl rfl rfl rfl (by first | assumption | (simp; done) | omega | exact Nat.zero_lt_succ _)) fun _ w_6 hS => ?_
            dsimp only [List.set] at hS
            refine LW.nil fun aa ha => hK35 _ _ _ ?_ aa ha
            refine CW.region [0] rfl ?_
            refine LW.ex rfl rfl rfl rfl (Ex.assign rfl) hS.rd ?_
            refine LW.nil fun aa ha => hK33 _ _ _ ?_ aa ha
            refine CW.region [0, 1, 2, 3, 4] rfl ?_
            refine LW.ex rfl rfl rfl rfl (Ex.move rfl) hS.rd ?_
            refine LW.ex rfl rfl rfl rfl (Ex.load3c ti87 rfl rfl (by first | exact obT rfl | exact Rd.imm ‹_› | exact slT ‹_›) (by first | exact obT rfl | exact Rd.imm ‹_› | exact slT ‹_›) (by first | exact obT rfl | exact Rd.imm ‹_› | exact slT ‹_›)) hS.rd ?_
            refine LW.hv rfl rfl rfl rfl (Hv.buildSl hS Try.underlying32 ti87 rfl rfl rfl rfl rfl rfl) fun v w53 ⟨b53, hv, hb53, hS⟩ => ?_
            subst hv
            refine LW.hv rfl rfl rfl rfl (Hv.append (k := 2) rfl Try.underlying32 ti87 rfl hS rfl rfl rfl rfl (Rd.objAll (k := 0) rfl hS.rd) (by simp [Value.oneCell']) (by unfold maxLen; omega) (by omega)) fun v w54 ⟨ad54, c54, hv, hS⟩ => ?_
            subst hv
            dsimp only [List.set] at hS
            have hS := hS.drop 0 rfl
            dsimp only [List.eraseIdx] at hS
            rw [show ls.flatMap prL ++ [Value.int .i64 ps[i].A, .int .i64 ps[i].B, .int .i64 (ps[i].N + p.N)] = (ls ++ [prAdd p ps[i]]).flatMap prL by rw [List.flatMap_append, List.flatMap_singleton]; rfl] at hS
            refine LW.ex rfl rfl rfl rfl (Ex.assign rfl) hS.rd ?_
            refine LW.nil fun aa ha => hK23 _ _ _ ?_ aa ha
            refine CW.region [0, 1, 2] rfl ?_
            refine LW.ex rfl rfl rfl rfl (Ex.move rfl) hS.rd ?_
            refine LW.ex rfl rfl rfl rfl (Ex.add rfl rfl (by first | exact inc64 (by omega) | exact addN (by omega) | exact w64 (by omega) (by omega))) hS.rd ?_
            refine LW.ex rfl rfl rfl rfl (Ex.assign rfl) hS.rd ?_
            refine LW.nil fun aa ha => ?_
            have hS := hS.drop 0 rfl
            dsimp only [List.eraseIdx] at hS
            refine ⟨_, _, ?m3, ⟨i + 1, ad54, c54, l + 1, ls ++ [prAdd p ps[i]], true, (by first | omega | (simp; done) | (simp; omega)), (by first | omega | (simp; done) | (simp; omega)), (by first | omega | (simp; done) | (simp; omega)), rfl, rfl, hS, by rw [hG]; simp_all⟩, ha.sub ⟨rfl, rfl, rfl, rfl, rfl, trivial⟩⟩
            case m3 => omega
          · have h8_10 := of_decide_eq_false h8_10
            have hsm : prSame p ps[i] = false := decide_eq_false (by omega)
            refine LW.ex rfl rfl rfl rfl (by first | exact Ex.pick_yes rfl rfl | exact Ex.pick_no rfl rfl) hS.rd ?_
            refine LW.nil fun aa ha => hK34 _ _ _ ?_ aa ha
            refine CW.no rfl ?_
            refine CW.skip fun aa ha => hK33 _ _ _ ?_ aa ha
            refine CW.region [0, 1, 2, 3, 4] rfl ?_
            refine LW.ex rfl rfl rfl rfl (Ex.move rfl) hS.rd ?_
            refine LW.ex rfl rfl rfl rfl (Ex.load3c ti87 rfl rfl (by first | exact obT rfl | exact Rd.imm ‹_› | exact slT ‹_›) (by first | exact obT rfl | exact Rd.imm ‹_› | exact slT ‹_›) (by first | exact obT rfl | exact Rd.imm ‹_› | exact slT ‹_›)) hS.rd ?_
            refine LW.hv rfl rfl rfl rfl (Hv.buildSl hS Try.underlying32 ti87 rfl rfl rfl rfl rfl rfl) fun v w53 ⟨b53, hv, hb53, hS⟩ => ?_
            subst hv
            refine LW.hv rfl rfl rfl rfl (Hv.append (k := 2) rfl Try.underlying32 ti87 rfl hS rfl rfl rfl rfl (Rd.objAll (k := 0) rfl hS.rd) (by simp [Value.oneCell']) (by unfold maxLen; omega) (by omega)) fun v w54 ⟨ad54, c54, hv, hS⟩ => ?_
            subst hv
            dsimp only [List.set] at hS
            have hS := hS.drop 0 rfl
            dsimp only [List.eraseIdx] at hS
            rw [show ls.flatMap prL ++ [Value.int .i64 ps[i].A, .int .i64 ps[i].B, .int .i64 ps[i].N] = (ls ++ [ps[i]]).flatMap prL by rw [List.flatMap_append, List.flatMap_singleton]; rfl] at hS
            refine LW.ex rfl rfl rfl rfl (Ex.assign rfl) hS.rd ?_
            refine LW.nil fun aa ha => hK23 _ _ _ ?_ aa ha
            refine CW.region [0, 1, 2] rfl ?_
            refine LW.ex rfl rfl rfl rfl (Ex.move rfl) hS.rd ?_
            refine LW.ex rfl rfl rfl rfl (Ex.add rfl rfl (by first | exact inc64 (by omega) | exact addN (by omega) | exact w64 (by omega) (by omega))) hS.rd ?_
            refine LW.ex rfl rfl rfl rfl (Ex.assign rfl) hS.rd ?_
            refine LW.nil fun aa ha => ?_
            have hS := hS.drop 0 rfl
            dsimp only [List.eraseIdx] at hS
            refine ⟨_, _, ?m3, ⟨i + 1, ad54, c54, l + 1, ls ++ [ps[i]], false, (by first | omega | (simp; done) | (simp; omega)), (by first | omega | (simp; done) | (simp; omega)), (by first | omega | (simp; done) | (simp; omega)), rfl, rfl, hS, by rw [hG]; simp_all⟩, ha.sub ⟨rfl, rfl, rfl, rfl, rfl, trivial⟩⟩
            case m3 => omega
        · have h8_4 := of_decide_eq_false h8_4
          have hsm : prSame p ps[i] = false := decide_eq_false (by omega)
          refine LW.ex rfl rfl rfl rfl (Ex.move rfl) hS.rd ?_
          refine LW.skip rfl rfl rfl rfl ?_
          refine LW.skip rfl rfl rfl rfl ?_
          refine LW.skip rfl rfl rfl rfl ?_
          refine LW.skip rfl rfl rfl rfl ?_
          refine LW.skip rfl rfl rfl rfl ?_
          refine LW.ex rfl rfl rfl rfl (by first | exact Ex.pick_yes rfl rfl | exact Ex.pick_no rfl rfl) hS.rd ?_
          refine LW.nil fun aa ha => hK34 _ _ _ ?_ aa ha
          refine CW.no rfl ?_
          refine CW.skip fun aa ha => hK33 _ _ _ ?_ aa ha
          refine CW.region [0, 1, 2, 3, 4] rfl ?_
          refine LW.ex rfl rfl rfl rfl (Ex.move rfl) hS.rd ?_
          refine LW.ex rfl rfl rfl rfl (Ex.load3c ti87 rfl rfl (by first | exact obT rfl | exact Rd.imm ‹_› | exact slT ‹_›) (by first | exact obT rfl | exact Rd.imm ‹_› | exact slT ‹_›) (by first | exact obT rfl | exact Rd.imm ‹_› | exact slT ‹_›)) hS.rd ?_
          refine LW.hv rfl rfl rfl rfl (Hv.buildSl hS Try.underlying32 ti87 rfl rfl rfl rfl rfl rfl) fun v w53 ⟨b53, hv, hb53, hS⟩ => ?_
          subst hv
          refine LW.hv rfl rfl rfl rfl (Hv.append (k := 2) rfl Try.underlying32 ti87 rfl hS rfl rfl rfl rfl (Rd.objAll (k := 0) rfl hS.rd) (by simp [Value.oneCell']) (by unfold maxLen; omega) (by omega)) fun v w54 ⟨ad54, c54, hv, hS⟩ => ?_
          subst hv
          dsimp only [List.set] at hS
          have hS := hS.drop 0 rfl
          dsimp only [List.eraseIdx] at hS
          rw [show ls.flatMap prL ++ [Value.int .i64 ps[i].A, .int .i64 ps[i].B, .int .i64 ps[i].N] = (ls ++ [ps[i]]).flatMap prL by rw [List.flatMap_append, List.flatMap_singleton]; rfl] at hS
          refine LW.ex rfl rfl rfl rfl (Ex.assign rfl) hS.rd ?_
          refine LW.nil fun aa ha => hK23 _ _ _ ?_ aa ha
          refine CW.region [0, 1, 2] rfl ?_
          refine LW.ex rfl rfl rfl rfl (Ex.move rfl) hS.rd ?_
          refine LW.ex rfl rfl rfl rfl (Ex.add rfl rfl (by first | exact inc64 (by omega) | exact addN (by omega) | exact w64 (by omega) (by omega))) hS.rd ?_
          refine LW.ex rfl rfl rfl rfl (Ex.assign rfl) hS.rd ?_
          refine LW.nil fun aa ha => ?_
          have hS := hS.drop 0 rfl
          dsimp only [List.eraseIdx] at hS
          refine ⟨_, _, ?m3, ⟨i + 1, ad54, c54, l + 1, ls ++ [ps[i]], false, (by first | omega | (simp; done) | (simp; omega)), (by first | omega | (simp; done) | (simp; omega)), (by first | omega | (simp; done) | (simp; omega)), rfl, rfl, hS, by rw [hG]; simp_all⟩, ha.sub ⟨rfl, rfl, rfl, rfl, rfl, trivial⟩⟩
          case m3 => omega
  · have h3_4 := of_decide_eq_false h3_4
    refine LW.nil fun aa ha => hK22 _ _ _ ?_ aa ha
    refine CW.no rfl ?_
    refine CW.exit fun aa ha => hK19 _ _ _ ?_ aa ha
    refine CW.seq fun K36 hK36 => ?_
    refine CW.seq fun K37 hK37 => ?_
    rw [List.drop_of_length_le (by omega), insG] at hG
    refine CW.region [0, 1] rfl ?_
    refine LW.ex rfl rfl rfl rfl (Ex.move rfl) hS.rd ?_
    refine LW.splitB (fun h12_0 => ?_) (fun h12_0 => ?_)
    · subst h12_0
      refine LW.ex rfl rfl rfl rfl (Ex.not rfl rfl) hS.rd ?_
      refine LW.nil fun aa ha => hK37 _ _ _ ?_ aa ha
      refine CW.no rfl ?_
      refine CW.skip fun aa ha => hK36 _ _ _ ?_ aa ha
      refine CW.seq fun K38 hK38 => ?_
      refine CW.region [0, 1] rfl ?_
      refine LW.ex rfl rfl rfl rfl (Ex.move rfl) hS.rd ?_
      refine LW.ex rfl rfl rfl rfl (Ex.assign rfl) hS.rd ?_
      refine LW.nil fun aa ha => hK38 _ _ _ ?_ aa ha
      refine CW.ret fun aa ha => ?_
      refine ret_one ha Try.results30 rfl ?_
      have e : insP p ps = ls := by rw [hG]; simp
      obtain ⟨bs, μ1, hmm1, hS, hφ⟩ := hS.shut 0 rfl
      rw [e]; exact ⟨_, μ1, rfl, hS.below, hmm1, hS.imm, _, _, by rw [hll], Sl.of_own hφ (prReps _ _) hll⟩
    · subst h12_0
      refine LW.ex rfl rfl rfl rfl (Ex.not rfl rfl) hS.rd ?_
      refine LW.nil fun aa ha => hK37 _ _ _ ?_ aa ha
      refine CW.yes rfl ?_
      refine CW.region [0, 1, 2, 3, 4] rfl ?_
      refine LW.ex rfl rfl rfl rfl (Ex.move rfl) hS.rd ?_
      refine LW.ex rfl rfl rfl rfl (Ex.load3c ti87 rfl rfl (by first | exact obT rfl | exact Rd.imm ‹_› | exact slT ‹_›) (by first | exact obT rfl | exact Rd.imm ‹_› | exact slT ‹_›) (by first | exact obT rfl | exact Rd.imm ‹_› | exact slT ‹_›)) hS.rd ?_
      refine LW.hv rfl rfl rfl rfl (Hv.buildSl hS Try.underlying32 ti87 rfl rfl rfl rfl rfl rfl) fun v w59 ⟨b59, hv, hb59, hS⟩ => ?_
      subst hv
      refine LW.hv rfl rfl rfl rfl (Hv.append (k := 1) rfl Try.underlying32 ti87 rfl hS rfl rfl rfl rfl (Rd.objAll (k := 0) rfl hS.rd) (by simp [Value.oneCell']) (by unfold maxLen; omega) (by omega)) fun v w60 ⟨ad60, c60, hv, hS⟩ => ?_
      subst hv
      dsimp only [List.set] at hS
      have hS := hS.drop 0 rfl
      dsimp only [List.eraseIdx] at hS
      rw [show ls.flatMap prL ++ [Value.int .i64 p.A, .int .i64 p.B, .int .i64 p.N] = (ls ++ [p]).flatMap prL by rw [List.flatMap_append, List.flatMap_singleton]; rfl] at hS
      refine LW.ex rfl rfl rfl rfl (Ex.assign rfl) hS.rd ?_
      refine LW.nil fun aa ha => hK36 _ _ _ ?_ aa ha
      refine CW.seq fun K39 hK39 => ?_
      refine CW.region [0, 1] rfl ?_
      refine LW.ex rfl rfl rfl rfl (Ex.move rfl) hS.rd ?_
      refine LW.ex rfl rfl rfl rfl (Ex.assign rfl) hS.rd ?_
      refine LW.nil fun aa ha => hK39 _ _ _ ?_ aa ha
      refine CW.ret fun aa ha => ?_
      refine ret_one ha Try.results30 rfl ?_
      have e : insP p ps = ls ++ [p] := by rw [hG]; simp
      have hl2 : l + 1 = (ls ++ [p]).length := by simp [hll]
      obtain ⟨bs, μ1, hmm1, hS, hφ⟩ := hS.shut 0 rfl
      rw [e]; exact ⟨_, μ1, rfl, hS.below, hmm1, hS.imm, _, _, by rw [hl2], Sl.of_own hφ (prReps _ _) hl2⟩
def insE (e : Edge) : List Edge → List Edge := insG (fun q => edLess e q) (fun _ => false) id e false
set_option maxRecDepth 100000 in
set_option maxHeartbeats 2000000 in
theorem insE_m {w0 w : World} {μ : Mem} {Lr : List Own} {ad0 : Option Addr} {n c0 : Nat} {L : List Edge} (e : Edge) (hS : St w0 w μ (Own.sl ad0 n c0 43 4 (L.flatMap edgeL) :: Lr)) (hn : n = L.length) (hb : L.length ≤ 1000000) :
    Calls Try.prog 32 #[.slice ad0 n c0, edgeV e] w (RetM fun v w' => ∃ ad c, v = .slice ad (insE e L).length c ∧ St w0 w' μ (Own.sl ad (insE e L).length c 43 4 ((insE e L).flatMap edgeL) :: Own.sl ad0 n c0 43 4 (L.flatMap edgeL) :: Lr)) := by
  have hcap := hS.sl_cap 0 rfl
  obtain ⟨hcap1, hcap2⟩ := hcap
  simp only [maxLen] at hcap2
  refine calls_start 43 [.slice ad0 n c0, edgeV e] Try.func32 rfl Try.ntmps32 rfl rfl ?_
  refine CW.seq fun K40 hK40 => ?_
  refine CW.region [0, 1] rfl ?_
  refine LW.hv rfl rfl rfl rfl (Hv.boxS hS rfl rfl) fun v w3 ⟨b3, hv, hb3, hS⟩ => ?_
  subst hv
  refine LW.ex rfl rfl rfl rfl (Ex.assign rfl) hS.rd ?_
  refine LW.nil fun aa ha => hK40 _ _ _ ?_ aa ha
  refine CW.seq fun K41 hK41 => ?_
  refine CW.region [0, 1, 2] rfl ?_
  refine LW.hv rfl rfl rfl rfl (Hv.buildSl hS Try.underlying36 ti43 rfl rfl rfl rfl rfl rfl) fun v w8 ⟨b8, hv, hb8, hS⟩ => ?_
  subst hv
  refine LW.ex rfl rfl rfl rfl (Ex.assign rfl) hS.rd ?_
  refine LW.ex rfl rfl rfl rfl (Ex.assign rfl) hS.rd ?_
  refine LW.nil fun aa ha => hK41 _ _ _ ?_ aa ha
  refine CW.seq fun K42 hK42 => ?_
  refine CW.seq fun K43 hK43 => ?_
  refine CW.region [0] rfl ?_
  refine LW.ex rfl rfl rfl rfl (Ex.assign rfl) hS.rd ?_
  refine LW.nil fun aa ha => hK43 _ _ _ ?_ aa ha
  refine CW.block ?_
  have hS : St w0 _ μ (_ :: _) := hS.row_sl (k := 0) rfl 0 4 rfl (by simp [maxLen])
  refine CW.loop (fun qq frm wl3 => ∃ (i : Nat) (ad : Option Addr) (c : Nat) (l : Nat) (ls : List Edge) (d : Bool), i ≤ n ∧ l = ls.length ∧ l ≤ 2 * i ∧ qq = n - i ∧ frm = [(0, .slice ad0 n c0), (3, .pointer (some ⟨b3, 0, none⟩)), (5, .slice ad l c), (6, .bool d), (7, .int .i64 i)] ∧ St w0 wl3 μ (Own.sl ad l c 43 4 (ls.flatMap edgeL) :: Own.obj b3 (edgeL e) 43 :: Own.sl ad0 n c0 43 4 (L.flatMap edgeL) :: Lr) ∧ (insE e L = ls ++ insG (fun q => edLess e q) (fun _ => false) id e d (L.drop i))) _ ⟨0, some ⟨b8, 0, none⟩, 0, 0, [], false, (by first | omega | (simp; done) | (simp; omega)), (by first | omega | (simp; done) | (simp; omega)), (by first | omega | (simp; done) | (simp; omega)), rfl, rfl, hS, rfl⟩ ⟨rfl, rfl, rfl, rfl, rfl, trivial⟩ ?_
  clear hS
  rintro qq frm wl3 ⟨i, ad, c, l, ls, d, hi, hll, hlb, hq, rfl, hS, hG⟩
  refine CW.seq fun K44 hK44 => ?_
  refine CW.seq fun K45 hK45 => ?_
  refine CW.region [0, 1, 2, 3] rfl ?_
  refine LW.ex rfl rfl rfl rfl (Ex.move rfl) hS.rd ?_
  refine LW.ex rfl rfl rfl rfl (Ex.move rfl) hS.rd ?_
  refine LW.ex rfl rfl rfl rfl (Ex.lenSl rfl Try.underlying36 rfl) hS.rd ?_
  refine LW.ex rfl rfl rfl rfl (Ex.lss rfl rfl rfl) hS.rd ?_
  refine LW.splitB (fun h3_3 => ?_) (fun h3_3 => ?_)
  · have h3_3 := of_decide_eq_true h3_3
    refine LW.nil fun aa ha => hK45 _ _ _ ?_ aa ha
    refine CW.yes rfl ?_
    refine CW.skip fun aa ha => hK44 _ _ _ ?_ aa ha
    refine CW.seq fun K46 hK46 => ?_
    refine CW.block ?_
    refine CW.seq fun K47 hK47 => ?_
    refine CW.seq fun K48 hK48 => ?_
    have hi2 : i < L.length := by omega
    rw [drop_cons hi2, insG] at hG
    obtain ⟨g0, rfl⟩ := hS.sl_some 2 rfl (by omega)
    have f0 := flat2 edgeL_len L i 0 hi2 (by omega) (v := .int .i64 L[i].From) rfl
    have f1 := flat2 edgeL_len L i 1 hi2 (by omega) (v := .int .i64 L[i].To) rfl
    have f2 := flat2 edgeL_len L i 2 hi2 (by omega) (v := .int .i64 L[i].Word) rfl
    have f3 := flat2 edgeL_len L i 3 hi2 (by omega) (v := .int .i64 L[i].Cost) rfl
    have hS := hS.drew
    refine CW.draw 10 (.ex 0 <| .ex 1 <| .ex 2 <| .ex 3 <| .ex 4 <| .ex 5 <| .ex 6 <| .ex 7 <| .one 8 <| .ex 9 <| .done) [] (Rd _ _) mixed (by kernel_rfl) rfl rfl hS.rd ?_
    refine PW.ex rfl rfl rfl rfl (Ex.move rfl) ?_
    refine PW.splitB (fun h5_0 => ?_) (fun h5_0 => ?_)
    · subst h5_0
      refine PW.ex rfl rfl rfl rfl (Ex.not rfl rfl) ?_
      refine PW.ex rfl rfl rfl rfl (Ex.move rfl) ?_
      refine PW.skip rfl rfl rfl rfl ?_
      refine PW.skip rfl rfl rfl rfl ?_
      refine PW.skip rfl rfl rfl rfl ?_
      refine PW.skip rfl rfl rfl rfl ?_
      refine PW.skip rfl rfl rfl rfl ?_
      refine PW.skip1 rfl rfl rfl rfl ?_
      refine PW.ex rfl rfl rfl rfl (by first | exact Ex.pick_yes rfl rfl | exact Ex.pick_no rfl rfl) ?_
      refine PW.nil ?_
      refine LW.nil fun aa ha => hK48 _ _ _ ?_ aa ha
      refine CW.no rfl ?_
      refine CW.skip fun aa ha => hK47 _ _ _ ?_ aa ha
      refine CW.region [0, 1, 2, 3, 4, 5, 6, 7] rfl ?_
      refine LW.ex rfl rfl rfl rfl (Ex.move rfl) hS.rd ?_
      refine LW.ex rfl rfl rfl rfl (Ex.move rfl) hS.rd ?_
      refine LW.ex rfl rfl rfl rfl (Ex.move rfl) hS.rd ?_
      refine LW.ex rfl rfl rfl rfl (Ex.indexSl Try.underlying36 ti43 rfl rfl rfl (by omega)) hS.rd ?_
      refine LW.ex rfl rfl rfl rfl (Ex.load4c ti43 rfl rfl (slT (v := .int .i64 L[i].From) (by rw [Nat.zero_add]; exact f0)) (slT (v := .int .i64 L[i].To) (by rw [Nat.zero_add]; exact f1)) (slT (v := .int .i64 L[i].Word) (by rw [Nat.zero_add]; exact f2)) (slT (v := .int .i64 L[i].Cost) (by rw [Nat.zero_add]; exact f3))) hS.rd ?_
      refine LW.hv rfl rfl rfl rfl (Hv.buildSl hS Try.underlying36 ti43 rfl rfl rfl rfl rfl rfl) fun v w34 ⟨b34, hv, hb34, hS⟩ => ?_
      subst hv
      refine LW.hv rfl rfl rfl rfl (Hv.append (k := 1) rfl Try.underlying36 ti43 rfl hS rfl rfl rfl rfl (Rd.objAll (k := 0) rfl hS.rd) (by simp [Value.oneCell']) (by unfold maxLen; omega) (by omega)) fun v w35 ⟨ad35, c35, hv, hS⟩ => ?_
      subst hv
      dsimp only [List.set] at hS
      have hS := hS.drop 0 rfl
      dsimp only [List.eraseIdx] at hS
      rw [show ls.flatMap edgeL ++ [Value.int .i64 L[i].From, .int .i64 L[i].To, .int .i64 L[i].Word, .int .i64 L[i].Cost] = (ls ++ [L[i]]).flatMap edgeL by rw [List.flatMap_append, List.flatMap_singleton]; rfl] at hS
      refine LW.ex rfl rfl rfl rfl (Ex.assign rfl) hS.rd ?_
      refine LW.nil fun aa ha => hK46 _ _ _ ?_ aa ha
      refine CW.region [0, 1, 2] rfl ?_
      refine LW.ex rfl rfl rfl rfl (Ex.move rfl) hS.rd ?_
      refine LW.ex rfl rfl rfl rfl (Ex.add rfl rfl (by first | exact inc64 (by omega) | exact addN (by omega) | exact w64 (by omega) (by omega))) hS.rd ?_
      refine LW.ex rfl rfl rfl rfl (Ex.assign rfl) hS.rd ?_
      refine LW.nil fun aa ha => ?_
      refine ⟨_, _, ?m3, ⟨i + 1, ad35, c35, l + 1, ls ++ [L[i]], true, (by first | omega | (simp; done) | (simp; omega)), (by first | omega | (simp; done) | (simp; omega)), (by first | omega | (simp; done) | (simp; omega)), rfl, rfl, hS, by rw [hG]; simp_all⟩, ha.sub ⟨rfl, rfl, rfl, rfl, rfl, trivial⟩⟩
      case m3 => omega
    · subst h5_0
      refine PW.ex rfl rfl rfl rfl (Ex.not rfl rfl) ?_
      refine PW.ex rfl rfl rfl rfl (Ex.move rfl) ?_
      refine PW.ex rfl rfl rfl rfl (Ex.load4c ti43 rfl rfl (by first | exact obT rfl | exact Rd.imm ‹_› | exact slT ‹_›) (by first | exact obT rfl | exact Rd.imm ‹_› | exact slT ‹_›) (by first | exact obT rfl | exact Rd.imm ‹_› | exact slT ‹_›) (by first | exact obT rfl | exact Rd.imm ‹_› | exact slT ‹_›)) ?_
      refine PW.ex rfl rfl rfl rfl (Ex.move rfl) ?_
      refine PW.ex rfl rfl rfl rfl (Ex.move rfl) ?_
      refine PW.ex rfl rfl rfl rfl (Ex.indexSl Try.underlying36 ti43 rfl rfl rfl (by omega)) ?_
      refine PW.ex rfl rfl rfl rfl (Ex.load4c ti43 rfl rfl (slT (v := .int .i64 L[i].From) (by rw [Nat.zero_add]; exact f0)) (slT (v := .int .i64 L[i].To) (by rw [Nat.zero_add]; exact f1)) (slT (v := .int .i64 L[i].Word) (by rw [Nat.zero_add]; exact f2)) (slT (v := .int .i64 L[i].Cost) (by rw [Nat.zero_add]; exact f3))) ?_
      refine PW.hv rfl rfl rfl rfl (Hv.callS hS rfl rfl rfl cb54 (edLess_c e L[i] _)) (fun _ _ h => h.2.rd) fun v w23 ⟨hv, hS⟩ => ?_
      subst hv
      refine PW.splitB (fun h5_8 => ?_) (fun h5_8 => ?_)
      · skip
        refine PW.ex rfl rfl rfl rfl (by first | exact Ex.pick_yes rfl rfl | exact Ex.pick_no rfl rfl) ?_
        refine PW.nil ?_
        refine LW.nil fun aa ha => hK48 _ _ _ ?_ aa ha
        refine CW.yes rfl ?_
        refine CW.region [0, 1, 2, 3, 4, 5] rfl ?_
        refine LW.ex rfl rfl rfl rfl (Ex.move rfl) hS.rd ?_
        refine LW.ex rfl rfl rfl rfl (Ex.load4c ti43 rfl rfl (by first | exact obT rfl | exact Rd.imm ‹_› | exact slT ‹_›) (by first | exact obT rfl | exact Rd.imm ‹_› | exact slT ‹_›) (by first | exact obT rfl | exact Rd.imm ‹_› | exact slT ‹_›) (by first | exact obT rfl | exact Rd.imm ‹_› | exact slT ‹_›)) hS.rd ?_
        refine LW.hv rfl rfl rfl rfl (Hv.buildSl hS Try.underlying36 ti43 rfl rfl rfl rfl rfl rfl) fun v w27 ⟨b27, hv, hb27, hS⟩ => ?_
        subst hv
        refine LW.hv rfl rfl rfl rfl (Hv.append (k := 1) rfl Try.underlying36 ti43 rfl hS rfl rfl rfl rfl (Rd.objAll (k := 0) rfl hS.rd) (by simp [Value.oneCell']) (by unfold maxLen; omega) (by omega)) fun v w28 ⟨ad28, c28, hv, hS⟩ => ?_
        subst hv
        dsimp only [List.set] at hS
        have hS := hS.drop 0 rfl
        dsimp only [List.eraseIdx] at hS
        rw [show ls.flatMap edgeL ++ [Value.int .i64 e.From, .int .i64 e.To, .int .i64 e.Word, .int .i64 e.Cost] = (ls ++ [e]).flatMap edgeL by rw [List.flatMap_append, List.flatMap_singleton]; rfl] at hS
        refine LW.ex rfl rfl rfl rfl (Ex.assign rfl) hS.rd ?_
        refine LW.ex rfl rfl rfl rfl (Ex.assign rfl) hS.rd ?_
        refine LW.nil fun aa ha => hK47 _ _ _ ?_ aa ha
        refine CW.region [0, 1, 2, 3, 4, 5, 6, 7] rfl ?_
        refine LW.ex rfl rfl rfl rfl (Ex.move rfl) hS.rd ?_
        refine LW.ex rfl rfl rfl rfl (Ex.move rfl) hS.rd ?_
        refine LW.ex rfl rfl rfl rfl (Ex.move rfl) hS.rd ?_
        refine LW.ex rfl rfl rfl rfl (Ex.indexSl Try.underlying36 ti43 rfl rfl rfl (by omega)) hS.rd ?_
        refine LW.ex rfl rfl rfl rfl (Ex.load4c ti43 rfl rfl (slT (v := .int .i64 L[i].From) (by rw [Nat.zero_add]; exact f0)) (slT (v := .int .i64 L[i].To) (by rw [Nat.zero_add]; exact f1)) (slT (v := .int .i64 L[i].Word) (by rw [Nat.zero_add]; exact f2)) (slT (v := .int .i64 L[i].Cost) (by rw [Nat.zero_add]; exact f3))) hS.rd ?_
        refine LW.hv rfl rfl rfl rfl (Hv.buildSl hS Try.underlying36 ti43 rfl rfl rfl rfl rfl rfl) fun v w34 ⟨b34, hv, hb34, hS⟩ => ?_
        subst hv
        refine LW.hv rfl rfl rfl rfl (Hv.append (k := 1) rfl Try.underlying36 ti43 rfl hS rfl rfl rfl rfl (Rd.objAll (k := 0) rfl hS.rd) (by simp [Value.oneCell']) (by unfold maxLen; omega) (by omega)) fun v w35 ⟨ad35, c35, hv, hS⟩ => ?_
        subst hv
        dsimp only [List.set] at hS
        have hS := hS.drop 0 rfl
        dsimp only [List.eraseIdx] at hS
        rw [show (ls ++ [e]).flatMap edgeL ++ [Value.int .i64 L[i].From, .int .i64 L[i].To, .int .i64 L[i].Word, .int .i64 L[i].Cost] = (ls ++ [e] ++ [L[i]]).flatMap edgeL by rw [List.flatMap_append (xs := ls ++ [e]), List.flatMap_singleton]; rfl] at hS
        refine LW.ex rfl rfl rfl rfl (Ex.assign rfl) hS.rd ?_
        refine LW.nil fun aa ha => hK46 _ _ _ ?_ aa ha
        refine CW.region [0, 1, 2] rfl ?_
        refine LW.ex rfl rfl rfl rfl (Ex.move rfl) hS.rd ?_
        refine LW.ex rfl rfl rfl rfl (Ex.add rfl rfl (by first | exact inc64 (by omega) | exact addN (by omega) | exact w64 (by omega) (by omega))) hS.rd ?_
        refine LW.ex rfl rfl rfl rfl (Ex.assign rfl) hS.rd ?_
        refine LW.nil fun aa ha => ?_
        refine ⟨_, _, ?m3, ⟨i + 1, ad35, c35, l + 1 + 1, ls ++ [e] ++ [L[i]], true, (by first | omega | (simp; done) | (simp; omega)), (by first | omega | (simp; done) | (simp; omega)), (by first | omega | (simp; done) | (simp; omega)), rfl, rfl, hS, by rw [hG]; simp_all⟩, ha.sub ⟨rfl, rfl, rfl, rfl, rfl, trivial⟩⟩
        case m3 => omega
      · skip
        refine PW.ex rfl rfl rfl rfl (by first | exact Ex.pick_yes rfl rfl | exact Ex.pick_no rfl rfl) ?_
        refine PW.nil ?_
        refine LW.nil fun aa ha => hK48 _ _ _ ?_ aa ha
        refine CW.no rfl ?_
        refine CW.skip fun aa ha => hK47 _ _ _ ?_ aa ha
        refine CW.region [0, 1, 2, 3, 4, 5, 6, 7] rfl ?_
        refine LW.ex rfl rfl rfl rfl (Ex.move rfl) hS.rd ?_
        refine LW.ex rfl rfl rfl rfl (Ex.move rfl) hS.rd ?_
        refine LW.ex rfl rfl rfl rfl (Ex.move rfl) hS.rd ?_
        refine LW.ex rfl rfl rfl rfl (Ex.indexSl Try.underlying36 ti43 rfl rfl rfl (by omega)) hS.rd ?_
        refine LW.ex rfl rfl rfl rfl (Ex.load4c ti43 rfl rfl (slT (v := .int .i64 L[i].From) (by rw [Nat.zero_add]; exact f0)) (slT (v := .int .i64 L[i].To) (by rw [Nat.zero_add]; exact f1)) (slT (v := .int .i64 L[i].Word) (by rw [Nat.zero_add]; exact f2)) (slT (v := .int .i64 L[i].Cost) (by rw [Nat.zero_add]; exact f3))) hS.rd ?_
        refine LW.hv rfl rfl rfl rfl (Hv.buildSl hS Try.underlying36 ti43 rfl rfl rfl rfl rfl rfl) fun v w34 ⟨b34, hv, hb34, hS⟩ => ?_
        subst hv
        refine LW.hv rfl rfl rfl rfl (Hv.append (k := 1) rfl Try.underlying36 ti43 rfl hS rfl rfl rfl rfl (Rd.objAll (k := 0) rfl hS.rd) (by simp [Value.oneCell']) (by unfold maxLen; omega) (by omega)) fun v w35 ⟨ad35, c35, hv, hS⟩ => ?_
        subst hv
        dsimp only [List.set] at hS
        have hS := hS.drop 0 rfl
        dsimp only [List.eraseIdx] at hS
        rw [show ls.flatMap edgeL ++ [Value.int .i64 L[i].From, .int .i64 L[i].To, .int .i64 L[i].Word, .int .i64 L[i].Cost] = (ls ++ [L[i]]).flatMap edgeL by rw [List.flatMap_append, List.flatMap_singleton]; rfl] at hS
        refine LW.ex rfl rfl rfl rfl (Ex.assign rfl) hS.rd ?_
        refine LW.nil fun aa ha => hK46 _ _ _ ?_ aa ha
        refine CW.region [0, 1, 2] rfl ?_
        refine LW.ex rfl rfl rfl rfl (Ex.move rfl) hS.rd ?_
        refine LW.ex rfl rfl rfl rfl (Ex.add rfl rfl (by first | exact inc64 (by omega) | exact addN (by omega) | exact w64 (by omega) (by omega))) hS.rd ?_
        refine LW.ex rfl rfl rfl rfl (Ex.assign rfl) hS.rd ?_
        refine LW.nil fun aa ha => ?_
        refine ⟨_, _, ?m3, ⟨i + 1, ad35, c35, l + 1, ls ++ [L[i]], false, (by first | omega | (simp; done) | (simp; omega)), (by first | omega | (simp; done) | (simp; omega)), (by first | omega | (simp; done) | (simp; omega)), rfl, rfl, hS, by rw [hG]; simp_all⟩, ha.sub ⟨rfl, rfl, rfl, rfl, rfl, trivial⟩⟩
        case m3 => omega
  · have h3_3 := of_decide_eq_false h3_3
    refine LW.nil fun aa ha => hK45 _ _ _ ?_ aa ha
    refine CW.no rfl ?_
    refine CW.exit fun aa ha => hK42 _ _ _ ?_ aa ha
    refine CW.seq fun K49 hK49 => ?_
    refine CW.seq fun K50 hK50 => ?_
    rw [List.drop_of_length_le (by omega), insG] at hG
    refine CW.region [0, 1] rfl ?_
    refine LW.ex rfl rfl rfl rfl (Ex.move rfl) hS.rd ?_
    refine LW.splitB (fun h8_0 => ?_) (fun h8_0 => ?_)
    · subst h8_0
      refine LW.ex rfl rfl rfl rfl (Ex.not rfl rfl) hS.rd ?_
      refine LW.nil fun aa ha => hK50 _ _ _ ?_ aa ha
      refine CW.no rfl ?_
      refine CW.skip fun aa ha => hK49 _ _ _ ?_ aa ha
      refine CW.seq fun K51 hK51 => ?_
      refine CW.region [0, 1] rfl ?_
      refine LW.ex rfl rfl rfl rfl (Ex.move rfl) hS.rd ?_
      refine LW.ex rfl rfl rfl rfl (Ex.assign rfl) hS.rd ?_
      refine LW.nil fun aa ha => hK51 _ _ _ ?_ aa ha
      refine CW.ret fun aa ha => ?_
      refine ret_one ha Try.results32 rfl ?_
      have e' : insE e L = ls := by rw [hG]; simp
      have hS := hS.drop 1 rfl
      dsimp only [List.eraseIdx] at hS
      rw [hll] at hS
      rw [e']; exact ⟨_, rfl, _, _, by rw [hll], hS⟩
    · subst h8_0
      refine LW.ex rfl rfl rfl rfl (Ex.not rfl rfl) hS.rd ?_
      refine LW.nil fun aa ha => hK50 _ _ _ ?_ aa ha
      refine CW.yes rfl ?_
      refine CW.region [0, 1, 2, 3, 4] rfl ?_
      refine LW.ex rfl rfl rfl rfl (Ex.move rfl) hS.rd ?_
      refine LW.ex rfl rfl rfl rfl (Ex.load4c ti43 rfl rfl (by first | exact obT rfl | exact Rd.imm ‹_› | exact slT ‹_›) (by first | exact obT rfl | exact Rd.imm ‹_› | exact slT ‹_›) (by first | exact obT rfl | exact Rd.imm ‹_› | exact slT ‹_›) (by first | exact obT rfl | exact Rd.imm ‹_› | exact slT ‹_›)) hS.rd ?_
      refine LW.hv rfl rfl rfl rfl (Hv.buildSl hS Try.underlying36 ti43 rfl rfl rfl rfl rfl rfl) fun v w40 ⟨b40, hv, hb40, hS⟩ => ?_
      subst hv
      refine LW.hv rfl rfl rfl rfl (Hv.append (k := 1) rfl Try.underlying36 ti43 rfl hS rfl rfl rfl rfl (Rd.objAll (k := 0) rfl hS.rd) (by simp [Value.oneCell']) (by unfold maxLen; omega) (by omega)) fun v w41 ⟨ad41, c41, hv, hS⟩ => ?_
      subst hv
      dsimp only [List.set] at hS
      have hS := hS.drop 0 rfl
      dsimp only [List.eraseIdx] at hS
      rw [show ls.flatMap edgeL ++ [Value.int .i64 e.From, .int .i64 e.To, .int .i64 e.Word, .int .i64 e.Cost] = (ls ++ [e]).flatMap edgeL by rw [List.flatMap_append, List.flatMap_singleton]; rfl] at hS
      refine LW.ex rfl rfl rfl rfl (Ex.assign rfl) hS.rd ?_
      refine LW.nil fun aa ha => hK49 _ _ _ ?_ aa ha
      refine CW.seq fun K52 hK52 => ?_
      refine CW.region [0, 1] rfl ?_
      refine LW.ex rfl rfl rfl rfl (Ex.move rfl) hS.rd ?_
      refine LW.ex rfl rfl rfl rfl (Ex.assign rfl) hS.rd ?_
      refine LW.nil fun aa ha => hK52 _ _ _ ?_ aa ha
      refine CW.ret fun aa ha => ?_
      refine ret_one ha Try.results32 rfl ?_
      have e' : insE e L = ls ++ [e] := by rw [hG]; simp
      have hl2 : l + 1 = (ls ++ [e]).length := by simp [hll]
      have hS := hS.drop 1 rfl
      dsimp only [List.eraseIdx] at hS
      rw [hl2] at hS
      rw [e']; exact ⟨_, rfl, _, _, by rw [hl2], hS⟩
end Go.Proofs.Ytgnpjhellmfhoaa

/-
  Context: the reference's model, made of raw data: in plain Lean, and its walk.
-/
namespace Go.Proofs.Ytgnpjhellmfhoaa
open Go.RowKit Sy

def wordsM (ws : List (List UInt8)) : List ByteArray := (ws.take 6).foldl (fun l w => insS (wordR w) l) [⟨#[97]⟩, ⟨#[98]⟩]
def countAt (cs : List UInt8) (i : Nat) : Int := ((cs[i]?.getD 0).toNat : Nat)
def countsM (n : Nat) (cs : List UInt8) : List Int := (List.range n).map (countAt cs)
def pairOf (n : Nat) (u : B3) : Pr := ⟨(u.a.toNat % n : Nat), (u.b.toNat % n : Nat), (1 + u.c.toNat % 16 : Nat)⟩
def pairsM (n : Nat) (us : List B3) : List Pr := (us.take 8).foldl (fun l u => insP (pairOf n u) l) []
def madeM (x : Raw) : Mdl := ⟨wordsM x.Words, countsM (wordsM x.Words).length x.Counts, pairsM (wordsM x.Words).length x.Uses, (x.Back.toNat : Nat)⟩

/-! ### It is valid -/
theorem sLt_iff {s u : ByteArray} : sLt s u = true ↔ bl s < bl u := by unfold sLt; exact decide_eq_true_iff
theorem sLt_trans {s u v : ByteArray} (h1 : sLt s u = true) (h2 : sLt u v = true) : sLt s v = true := by rw [sLt_iff] at *; exact List.lt_trans h1 h2
theorem sLt_irr (s : ByteArray) : sLt s s = false := by rw [Bool.eq_false_iff, ne_eq, sLt_iff]; exact List.lt_irrefl _
theorem sLt_tot {s u : ByteArray} (h1 : sLt s u = false) (h2 : (s == u) = false) : sLt u s = true := by
  rw [Bool.eq_false_iff, ne_eq, sLt_iff] at h1
  rw [bl_eq, decide_eq_false_iff_not] at h2
  rw [sLt_iff]
  rcases Std.lt_trichotomy (bl s) (bl u) with h | h | h
  · exact absurd h h1
  · exact absurd h h2
  · exact h
theorem insS_eq {s : ByteArray} {L : List ByteArray} (h : L.Pairwise fun a b => sLt a b = true) : insS s L = ins (fun q => sLt s q) (fun q => s == q) id s L :=
  insG_ins (R := fun a b => sLt a b = true) (fun q z h1 h2 => sLt_trans h1 h2) (fun q z h1 h2 => by
    rw [bl_eq, decide_eq_true_eq] at h1; have := bl_inj h1; subst this; exact h2) (fun z h1 => by
    rw [Bool.eq_false_iff]; intro h2; rw [bl_eq, decide_eq_true_eq] at h2; have := bl_inj h2; subst this; rw [sLt_irr] at h1; cases h1) h
theorem insS_sorted {s : ByteArray} {L : List ByteArray} (h : L.Pairwise fun a b => sLt a b = true) : (insS s L).Pairwise fun a b => sLt a b = true := by
  rw [insS_eq h]
  exact ins_sorted (R := fun a b => sLt a b = true) (fun q hq => hq) (fun q h1 h2 => sLt_tot h1 h2) (fun q z _ h => h) (fun q z _ h => h) (fun a b c h1 h2 => sLt_trans h1 h2) h
theorem insS_mem {s y : ByteArray} {L : List ByteArray} (h : L.Pairwise fun a b => sLt a b = true) (hy : y ∈ insS s L) : y = s ∨ y ∈ L := by
  rw [insS_eq h] at hy
  rcases ins_mem hy with h | h | ⟨z, hz, _, rfl⟩
  · exact .inl h
  · exact .inr h
  · exact .inr hz
theorem insS_len {s : ByteArray} {L : List ByteArray} (h : L.Pairwise fun a b => sLt a b = true) : L.length ≤ (insS s L).length ∧ (insS s L).length ≤ L.length + 1 := by
  rw [insS_eq h]; exact ins_len
def wordsTo (ws : List (List UInt8)) (i : Nat) : List ByteArray := (ws.take i).foldl (fun l w => insS (wordR w) l) [⟨#[97]⟩, ⟨#[98]⟩]
theorem wordsTo_succ {ws : List (List UInt8)} {i : Nat} (h : i < ws.length) : wordsTo ws (i + 1) = insS (wordR ws[i]) (wordsTo ws i) := by
  unfold wordsTo; rw [List.take_succ_eq_append_getElem h, List.foldl_append]; rfl
theorem wordsTo_ok (ws : List (List UInt8)) : ∀ i, i ≤ ws.length → (wordsTo ws i).Pairwise (fun a b => sLt a b = true) ∧ (∀ s ∈ wordsTo ws i, wordOk s = true ∧ s.size ≤ 3) ∧ 2 ≤ (wordsTo ws i).length ∧ (wordsTo ws i).length ≤ 2 + i
  | 0, _ => by rw [show wordsTo ws 0 = [⟨#[97]⟩, ⟨#[98]⟩] from rfl]; exact ⟨by decide, by decide, by decide, by decide⟩
  | i + 1, h => by
    obtain ⟨h1, h2, h3, h4⟩ := wordsTo_ok ws i (by omega)
    rw [wordsTo_succ (by omega)]
    have hl := insS_len (s := wordR ws[i]) h1
    refine ⟨insS_sorted h1, fun s hs => ?_, by omega, by omega⟩
    rcases insS_mem h1 hs with rfl | hs
    · exact wordR_ok _
    · exact h2 s hs
theorem wordsM_to (ws : List (List UInt8)) : wordsM ws = wordsTo ws (min ws.length 6) := by
  unfold wordsM wordsTo
  by_cases h : ws.length ≤ 6
  · rw [Nat.min_eq_left h, List.take_length, List.take_of_length_le h]
  · rw [Nat.min_eq_right (by omega)]
theorem insP_eq {p : Pr} {L : List Pr} (h : PrSort L) : insP p L = ins (fun q => prLess p q) (fun q => prSame p q) (prAdd p) p L :=
  insG_ins (R := fun a b => prLess a b = true) (fun q z h1 h2 => prLess_trans _ _ _ h1 h2) (fun q z h1 h2 => by
    unfold prSame at h1; rw [decide_eq_true_eq] at h1; rw [prLess_iff] at *; omega) (fun z h1 => by
    rw [prLess_iff] at h1; unfold prSame; rw [decide_eq_false_iff_not]; omega) h
theorem insP_sorted {p : Pr} {L : List Pr} (h : PrSort L) : PrSort (insP p L) := by
  rw [insP_eq h]
  exact ins_sorted (R := fun a b => prLess a b = true) (fun q hq => hq) (fun q h1 h2 => by
    rw [Bool.eq_false_iff, ne_eq, prLess_iff] at h1; unfold prSame at h2; rw [decide_eq_false_iff_not] at h2; rw [prLess_iff]; omega) (fun q z _ h => by
    rw [prLess_iff] at *; exact h) (fun q z _ h => by rw [prLess_iff] at *; exact h) prLess_trans h
def totN (l : List Pr) : Int := (l.map (·.N)).sum
theorem ins_tot {p : Pr} : ∀ {L : List Pr}, totN (ins (fun q => prLess p q) (fun q => prSame p q) (prAdd p) p L) = totN L + p.N
  | [] => by simp [ins, totN]
  | q :: r => by
    have ih := ins_tot (p := p) (L := r)
    unfold totN at *
    rw [ins]
    split
    · simp only [List.map_cons, List.sum_cons]; omega
    · split
      · simp only [List.map_cons, List.sum_cons, prAdd]; omega
      · simp only [List.map_cons, List.sum_cons, ih]; omega
theorem sumN_tot {l : List Pr} (h : ∀ p ∈ l, 0 ≤ p.N) (a : Int) : sumN l a ≤ totN l := by
  unfold sumN totN afterL
  induction l with
  | nil => simp
  | cons q r ih =>
    have ih := ih fun p hp => h p (List.mem_cons_of_mem _ hp)
    have hq := h q (List.mem_cons_self ..)
    by_cases hqa : q.A = a
    · simp only [List.filter_cons, hqa, decide_true, if_true, List.map_cons, List.sum_cons]; omega
    · simp only [List.filter_cons, decide_eq_false hqa, Bool.false_eq_true, if_false, List.map_cons, List.sum_cons]; omega
def prGood (n : Nat) (l : List Pr) : Prop := ∀ p ∈ l, 0 ≤ p.A ∧ p.A < n ∧ 0 ≤ p.B ∧ p.B < n ∧ 1 ≤ p.N
theorem insP_good {n : Nat} {p : Pr} {L : List Pr} (hs : PrSort L) (h : prGood n L) (hp : 0 ≤ p.A ∧ p.A < n ∧ 0 ≤ p.B ∧ p.B < n ∧ 1 ≤ p.N) : prGood n (insP p L) := fun y hy => by
  rw [insP_eq hs] at hy
  rcases ins_mem hy with rfl | hy | ⟨z, hz, _, rfl⟩
  · exact hp
  · exact h y hy
  · have := h z hz; unfold prAdd; simp only; omega
theorem insP_len {p : Pr} {L : List Pr} (hs : PrSort L) : (insP p L).length ≤ L.length + 1 := by rw [insP_eq hs]; exact ins_len.2
theorem insP_tot {p : Pr} {L : List Pr} (hs : PrSort L) : totN (insP p L) = totN L + p.N := by rw [insP_eq hs]; exact ins_tot
def pairsTo (n : Nat) (us : List B3) (i : Nat) : List Pr := (us.take i).foldl (fun l u => insP (pairOf n u) l) []
theorem pairsTo_succ {n : Nat} {us : List B3} {i : Nat} (h : i < us.length) : pairsTo n us (i + 1) = insP (pairOf n us[i]) (pairsTo n us i) := by
  unfold pairsTo; rw [List.take_succ_eq_append_getElem h, List.foldl_append]; rfl
theorem pairOf_good {n : Nat} (hn : 1 ≤ n) (u : B3) : (0 ≤ (pairOf n u).A ∧ (pairOf n u).A < n ∧ 0 ≤ (pairOf n u).B ∧ (pairOf n u).B < n ∧ 1 ≤ (pairOf n u).N) ∧ (pairOf n u).N ≤ 16 := by
  have h1 := Nat.mod_lt u.a.toNat (show 0 < n by omega)
  have h2 := Nat.mod_lt u.b.toNat (show 0 < n by omega)
  have h3 := Nat.mod_lt u.c.toNat (show 0 < 16 by omega)
  unfold pairOf; simp only; omega
theorem pairsTo_ok {n : Nat} (hn : 1 ≤ n) (us : List B3) : ∀ i, i ≤ us.length → PrSort (pairsTo n us i) ∧ prGood n (pairsTo n us i) ∧ totN (pairsTo n us i) ≤ i * 16 ∧ (pairsTo n us i).length ≤ i
  | 0, _ => by rw [show pairsTo n us 0 = [] from rfl]; exact ⟨List.Pairwise.nil, (fun p hp => by cases hp), by simp [totN], by simp⟩
  | i + 1, h => by
    obtain ⟨h1, h2, h3, h4⟩ := pairsTo_ok hn us i (by omega)
    obtain ⟨g1, g2⟩ := pairOf_good hn us[i]
    rw [pairsTo_succ (by omega)]
    refine ⟨insP_sorted h1, insP_good h1 h2 g1, by rw [insP_tot h1]; omega, Nat.le_trans (insP_len h1) (by omega)⟩
theorem pairsM_to (n : Nat) (us : List B3) : pairsM n us = pairsTo n us (min us.length 8) := by
  unfold pairsM pairsTo
  by_cases h : us.length ≤ 8
  · rw [Nat.min_eq_left h, List.take_length, List.take_of_length_le h]
  · rw [Nat.min_eq_right (by omega)]
theorem tot_mem {l : List Pr} (h : ∀ p ∈ l, 0 ≤ p.N) {p : Pr} (hp : p ∈ l) : p.N ≤ totN l := (le_sum (fun x hx => by obtain ⟨q, hq, rfl⟩ := List.mem_map.1 hx; exact h q hq) (List.mem_map.2 ⟨p, hp, rfl⟩)).1
theorem sum_le {l : List Int} {b : Int} (h : ∀ x ∈ l, x ≤ b) : l.sum ≤ l.length * b := by
  induction l with
  | nil => simp
  | cons x r ih =>
    have h1 := h x (List.mem_cons_self ..)
    have h2 := ih fun y hy => h y (List.mem_cons_of_mem _ hy)
    simp only [List.sum_cons, List.length_cons]
    have : ((r.length + 1 : Nat) : Int) * b = r.length * b + b := by rw [Int.natCast_add, Int.add_mul]; simp
    omega
theorem countAt_in (cs : List UInt8) (i : Nat) : 0 ≤ countAt cs i ∧ countAt cs i ≤ 255 := by
  unfold countAt
  have := (cs[i]?.getD 0).toNat_lt
  omega
theorem madeM_words (x : Raw) : (madeM x).Words.Pairwise (fun a b => sLt a b = true) ∧ (∀ s ∈ (madeM x).Words, wordOk s = true ∧ s.size ≤ 3) ∧ 2 ≤ (madeM x).Words.length ∧ (madeM x).Words.length ≤ 8 := by
  have h := wordsTo_ok x.Words (min x.Words.length 6) (by omega)
  rw [← wordsM_to] at h
  exact ⟨h.1, h.2.1, h.2.2.1, by have := h.2.2.2; show (wordsM x.Words).length ≤ 8; omega⟩
theorem madeM_ok (x : Raw) : MdlOk (madeM x) := by
  obtain ⟨w1, w2, w3, w4⟩ := madeM_words x
  have hp := pairsTo_ok (n := (wordsM x.Words).length) (show 1 ≤ (madeM x).Words.length by omega) x.Uses (min x.Uses.length 8) (by omega)
  rw [← pairsM_to] at hp
  obtain ⟨p1, p2, p3, p4⟩ := hp
  have p2' : ∀ p ∈ (madeM x).Pairs, 0 ≤ p.N := fun p hp => by have := p2 p hp; omega
  have hc : ∀ y ∈ (madeM x).Counts, 0 ≤ y ∧ y ≤ 255 := fun y hy => by
    obtain ⟨i, _, rfl⟩ := List.mem_map.1 hy
    exact countAt_in _ _
  have hcl : (madeM x).Counts.length = (madeM x).Words.length := by show (countsM _ _).length = _; unfold countsM; rw [List.length_map, List.length_range]; rfl
  have hb := x.Back.toNat_lt
  refine ⟨by omega, by omega, hcl, rises_of (fun s hs => (w2 s hs).1) w1 (fun q hq => by cases hq), fun y hy => (hc y hy).1, ?_, by show (pairsM _ _).length ≤ 1000; omega, p1, p2, fun a => ?_, by show (0 : Int) ≤ (x.Back.toNat : Nat); omega, by show ((x.Back.toNat : Nat) : Int) ≤ 1000; omega⟩
  · have := sum_le (fun y hy => (hc y hy).2)
    omega
  · have h1 := sumN_tot p2' a
    have h2 : totN (madeM x).Pairs = totN (pairsM (wordsM x.Words).length x.Uses) := rfl
    omega

/-! ### The walk -/
theorem remN (a b : Nat) : ((a : Int)).tmod (b : Int) = ((a % b : Nat) : Int) := (Int.ofNat_tmod a b).symm
theorem countsTo_succ (cs : List UInt8) (i : Nat) : (List.range (i + 1)).map (countAt cs) = (List.range i).map (countAt cs) ++ [countAt cs i] := by rw [List.range_succ, List.map_append]; rfl
def IsMdl (m : Mdl) (μ : Mem) (v : Value) : Prop := ∃ a0 c0 a1 c1 a2 c2, v = .agg #[.slice a0 m.Words.length c0, .slice a1 m.Counts.length c1, .slice a2 m.Pairs.length c2, .int .i64 m.Back] ∧ Sl μ a0 c0 m.Words ∧ Sl μ a1 c1 m.Counts ∧ Sl μ a2 c2 m.Pairs
set_option maxRecDepth 100000 in
set_option maxHeartbeats 2000000 in
theorem madeM_c (x : Raw) (r0 r1 r2 : Option Addr) (d0 d1 d2 : Nat) (μ : Mem) (w : World) (hμ : Imm μ w) (h0 : Sl μ r0 d0 x.Words) (h1 : Sl μ r1 d1 x.Counts) (h2 : Sl μ r2 d2 x.Uses) :
    Calls Try.prog 10 #[.agg #[.slice r0 x.Words.length d0, .slice r1 x.Counts.length d1, .slice r2 x.Uses.length d2, .int .u8 x.Back.toNat]] w (RetV w μ (IsMdl (madeM x))) := by
  have hbk := x.Back.toNat_lt
  have hS := St.start w μ hμ
  refine calls_start 97 [.agg #[.slice r0 x.Words.length d0, .slice r1 x.Counts.length d1, .slice r2 x.Uses.length d2, .int .u8 x.Back.toNat]] Try.func10 rfl Try.ntmps10 rfl rfl ?_
  refine CW.seq fun K1 hK1 => ?_
  refine CW.region [0, 1] rfl ?_
  refine LW.hv rfl rfl rfl rfl (Hv.boxS hS rfl rfl) fun v w1 ⟨b1, hv, hb1, hS⟩ => ?_
  subst hv
  refine LW.hv rfl rfl rfl rfl (Hv.alloc ti34 hS) fun v w2 ⟨b2, hv, hb2, hS⟩ => ?_
  subst hv
  refine LW.nil fun aa ha => hK1 _ _ _ ?_ aa ha
  refine CW.seq fun K2 hK2 => ?_
  refine CW.region [0, 1, 2, 3, 4, 5, 6] rfl ?_
  refine LW.hv rfl rfl rfl rfl (Hv.buildSl hS Try.underlying30 ti9 rfl rfl rfl rfl rfl rfl) fun v w10 ⟨b10, hv, hb10, hS⟩ => ?_
  subst hv
  refine LW.ex rfl rfl rfl rfl (Ex.fieldO 3 Try.underlying27 rfl rfl ti5 rfl) hS.rd ?_
  refine LW.ex rfl rfl rfl rfl (Ex.load1 ti5 rfl rfl (by first | exact obT rfl | exact Rd.imm ‹_› | exact slT ‹_›)) hS.rd ?_
  refine LW.ex rfl rfl rfl rfl (Ex.conv Try.underlying5 Try.underlying3 rfl (by first | exact w64 (by omega) (by omega) | exact wu8 (by omega) (by omega))) hS.rd ?_
  refine LW.ex rfl rfl rfl rfl (Ex.buildS st34 rfl rfl rfl) hS.rd ?_
  refine LW.hv rfl rfl rfl rfl (Hv.alloc ti34 hS) fun v w3 ⟨b3, hv, hb3, hS⟩ => ?_
  subst hv
  refine LW.hu rfl rfl rfl (Hv.storeN (k := 0) ti34 hS rfl rfl rfl rfl (by simp [Value.oneCell'])) fun _ w_6 hS => ?_
  dsimp only [List.set] at hS
  refine LW.nil fun aa ha => hK2 _ _ _ ?_ aa ha
  refine CW.seq fun K3 hK3 => ?_
  have hJ2 : ∀ (wj : World) (aW : Option Addr) (cW : Nat) (ws : List ByteArray) (μ3 : Mem), St w wj μ3 [Own.obj b3 [.slice aW ws.length cW, .slice none 0 0, .slice none 0 0, .int .i64 x.Back.toNat] 34, Own.obj b2 [.slice none 0 0, .slice none 0 0, .slice none 0 0, .int .i64 0] 34, Own.obj b1 [.slice r0 x.Words.length d0, .slice r1 x.Counts.length d1, .slice r2 x.Uses.length d2, .int .u8 x.Back.toNat] 27] → (ws = wordsM x.Words) → (Sl μ3 aW cW ws) → (Mem.ext w.heap.size μ μ3) → KW K3 97 [(1, .pointer (some ⟨b1, 0, none⟩)), (2, .pointer (some ⟨b2, 0, none⟩)), (3, .pointer (some ⟨b3, 0, none⟩))] wj := by
    intro wj aW cW ws μ3 hS hwt hsW hm3
    refine hK3 _ _ _ ?_
    have hW := madeM_words x
    have hWl : (madeM x).Words = wordsM x.Words := rfl
    rw [hWl, ← hwt] at hW
    obtain ⟨hW1, hW2, hW3, hW4⟩ := hW
    refine CW.seq fun K4 hK4 => ?_
    refine CW.region [0, 1, 2, 3] rfl ?_
    refine LW.ex rfl rfl rfl rfl (Ex.fieldO 0 Try.underlying34 rfl rfl ti30 rfl) hS.rd ?_
    refine LW.ex rfl rfl rfl rfl (Ex.load1 ti30 rfl rfl (by first | exact obT rfl | exact Rd.imm ‹_› | exact slT ‹_›)) hS.rd ?_
    refine LW.ex rfl rfl rfl rfl (Ex.lenSl rfl Try.underlying30 rfl) hS.rd ?_
    refine LW.ex rfl rfl rfl rfl (Ex.assign rfl) hS.rd ?_
    refine LW.nil fun aa ha => hK4 _ _ _ ?_ aa ha
    refine CW.seq fun K5 hK5 => ?_
    refine CW.seq fun K6 hK6 => ?_
    refine CW.region [0] rfl ?_
    refine LW.ex rfl rfl rfl rfl (Ex.assign rfl) hS.rd ?_
    refine LW.nil fun aa ha => hK6 _ _ _ ?_ aa ha
    refine CW.block ?_
    have hS := nil_sl 3 1 hS
    refine CW.loop (fun qq frm wl8 => ∃ (i : Nat) (aC : Option Addr) (cC : Nat), i ≤ ws.length ∧ qq = ws.length - i ∧ frm = [(1, .pointer (some ⟨b1, 0, none⟩)), (2, .pointer (some ⟨b2, 0, none⟩)), (3, .pointer (some ⟨b3, 0, none⟩)), (5, .int .i64 ws.length), (6, .int .i64 i)] ∧ St w wl8 μ3 [Own.sl aC i cC 3 1 (((List.range i).map (countAt x.Counts)).map fun z => Value.int .i64 z), Own.obj b3 [.slice aW ws.length cW, .slice aC i cC, .slice none 0 0, .int .i64 x.Back.toNat] 34, Own.obj b2 [.slice none 0 0, .slice none 0 0, .slice none 0 0, .int .i64 0] 34, Own.obj b1 [.slice r0 x.Words.length d0, .slice r1 x.Counts.length d1, .slice r2 x.Uses.length d2, .int .u8 x.Back.toNat] 27]) _ ⟨0, none, 0, (by first | omega | (simp; done) | (simp; omega)), rfl, rfl, hS⟩ ⟨rfl, rfl, rfl, rfl, rfl, trivial⟩ ?_
    clear hS
    rintro qq frm wl8 ⟨i, aC, cC, hi, hq, rfl, hS⟩
    refine CW.seq fun K7 hK7 => ?_
    refine CW.seq fun K8 hK8 => ?_
    refine CW.region [0, 1, 2] rfl ?_
    refine LW.ex rfl rfl rfl rfl (Ex.move rfl) hS.rd ?_
    refine LW.ex rfl rfl rfl rfl (Ex.move rfl) hS.rd ?_
    refine LW.ex rfl rfl rfl rfl (Ex.lss rfl rfl rfl) hS.rd ?_
    refine LW.splitB (fun h8_2 => ?_) (fun h8_2 => ?_)
    · have h8_2 := of_decide_eq_true h8_2
      refine LW.nil fun aa ha => hK8 _ _ _ ?_ aa ha
      refine CW.yes rfl ?_
      refine CW.skip fun aa ha => hK7 _ _ _ ?_ aa ha
      refine CW.seq fun K9 hK9 => ?_
      refine CW.block ?_
      refine CW.seq fun K10 hK10 => ?_
      refine CW.region [0] rfl ?_
      refine LW.ex rfl rfl rfl rfl (Ex.assign rfl) hS.rd ?_
      refine LW.nil fun aa ha => hK10 _ _ _ ?_ aa ha
      refine CW.seq fun K11 hK11 => ?_
      have hJ11 : ∀ (wj : World) , St w wj μ3 [Own.sl aC i cC 3 1 (((List.range i).map (countAt x.Counts)).map fun z => Value.int .i64 z), Own.obj b3 [.slice aW ws.length cW, .slice aC i cC, .slice none 0 0, .int .i64 x.Back.toNat] 34, Own.obj b2 [.slice none 0 0, .slice none 0 0, .slice none 0 0, .int .i64 0] 34, Own.obj b1 [.slice r0 x.Words.length d0, .slice r1 x.Counts.length d1, .slice r2 x.Uses.length d2, .int .u8 x.Back.toNat] 27] → KW K11 97 [(1, .pointer (some ⟨b1, 0, none⟩)), (2, .pointer (some ⟨b2, 0, none⟩)), (3, .pointer (some ⟨b3, 0, none⟩)), (5, .int .i64 ws.length), (6, .int .i64 i), (7, .int .i64 (countAt x.Counts i))] wj := by
        intro wj  hS 
        refine hK11 _ _ _ ?_
        refine CW.region [0, 1, 2, 3, 4, 5, 6] rfl ?_
        refine LW.ex rfl rfl rfl rfl (Ex.fieldO 1 Try.underlying34 rfl rfl ti31 rfl) hS.rd ?_
        refine LW.ex rfl rfl rfl rfl (Ex.load1 ti31 rfl rfl (by first | exact obT rfl | exact Rd.imm ‹_› | exact slT ‹_›)) hS.rd ?_
        refine LW.ex rfl rfl rfl rfl (Ex.move rfl) hS.rd ?_
        refine LW.hv rfl rfl rfl rfl (Hv.buildSl hS Try.underlying31 ti3 rfl rfl rfl rfl rfl rfl) fun v w58 ⟨b58, hv, hb58, hS⟩ => ?_
        subst hv
        refine LW.hv rfl rfl rfl rfl (Hv.append (k := 1) rfl Try.underlying31 ti3 rfl hS rfl rfl rfl rfl (Rd.objAll (k := 0) rfl hS.rd) (by simp [Value.oneCell']) (by unfold maxLen; omega) (by omega)) fun v w59 ⟨ad59, c59, hv, hS⟩ => ?_
        subst hv
        dsimp only [List.set] at hS
        have hS := hS.drop 0 rfl
        dsimp only [List.eraseIdx] at hS
        rw [show (((List.range i).map (countAt x.Counts)).map fun z => Value.int .i64 z) ++ [Value.int .i64 (countAt x.Counts i)] = (((List.range (i + 1)).map (countAt x.Counts)).map fun z => Value.int .i64 z) by rw [countsTo_succ, List.map_append]; rfl] at hS
        refine LW.ex rfl rfl rfl rfl (Ex.fieldO 1 Try.underlying34 rfl rfl ti31 rfl) hS.rd ?_
        refine LW.hu rfl rfl rfl (Hv.storeObj (k := 1) ti31 hS rfl rfl rfl rfl (by first | assumption | (simp; done) | omega | exact Nat.zero_lt_succ _)) fun _ w_6 hS => ?_
        dsimp only [List.set] at hS
        refine LW.nil fun aa ha => hK9 _ _ _ ?_ aa ha
        refine CW.region [0, 1, 2] rfl ?_
        refine LW.ex rfl rfl rfl rfl (Ex.move rfl) hS.rd ?_
        refine LW.ex rfl rfl rfl rfl (Ex.add rfl rfl (by first | exact inc64 (by omega) | exact addN (by omega) | exact w64 (by omega) (by omega))) hS.rd ?_
        refine LW.ex rfl rfl rfl rfl (Ex.assign rfl) hS.rd ?_
        refine LW.nil fun aa ha => ?_
        refine ⟨_, _, ?m8, ⟨i + 1, ad59, c59, (by first | omega | (simp; done) | (simp; omega)), rfl, rfl, hS⟩, ha.sub ⟨rfl, rfl, rfl, rfl, rfl, trivial⟩⟩
        case m8 => omega
      refine CW.seq fun K12 hK12 => ?_
      refine CW.region [0, 1, 2, 3, 4] rfl ?_
      refine LW.ex rfl rfl rfl rfl (Ex.move rfl) hS.rd ?_
      refine LW.ex rfl rfl rfl rfl (Ex.fieldO 1 Try.underlying27 rfl rfl ti24 rfl) hS.rd ?_
      refine LW.ex rfl rfl rfl rfl (Ex.load1 ti24 rfl rfl (by first | exact obT rfl | exact Rd.imm ‹_› | exact slT ‹_›)) hS.rd ?_
      refine LW.ex rfl rfl rfl rfl (Ex.lenSl rfl Try.underlying24 rfl) hS.rd ?_
      refine LW.ex rfl rfl rfl rfl (Ex.lss rfl rfl rfl) hS.rd ?_
      refine LW.splitB (fun h11_4 => ?_) (fun h11_4 => ?_)
      · have h11_4 := of_decide_eq_true h11_4
        refine LW.nil fun aa ha => hK12 _ _ _ ?_ aa ha
        refine CW.yes rfl ?_
        have hi2 : i < x.Counts.length := by omega
        obtain ⟨bl', ol, rfl, k0⟩ := (h1.mono hm3).at hi2
        have hcu := x.Counts[i].toNat_lt
        refine CW.region [0, 1, 2, 3, 4, 5, 6] rfl ?_
        refine LW.ex rfl rfl rfl rfl (Ex.fieldO 1 Try.underlying27 rfl rfl ti24 rfl) hS.rd ?_
        refine LW.ex rfl rfl rfl rfl (Ex.load1 ti24 rfl rfl (by first | exact obT rfl | exact Rd.imm ‹_› | exact slT ‹_›)) hS.rd ?_
        refine LW.ex rfl rfl rfl rfl (Ex.move rfl) hS.rd ?_
        refine LW.ex rfl rfl rfl rfl (Ex.indexSl Try.underlying24 ti5 rfl rfl rfl (by omega)) hS.rd ?_
        refine LW.ex rfl rfl rfl rfl (Ex.load1 ti5 rfl rfl (by first | exact obT rfl | exact Rd.imm ‹_› | exact slT ‹_›)) hS.rd ?_
        refine LW.ex rfl rfl rfl rfl (Ex.conv Try.underlying5 Try.underlying3 rfl (by first | exact w64 (by omega) (by omega) | exact wu8 (by omega) (by omega))) hS.rd ?_
        refine LW.ex rfl rfl rfl rfl (Ex.assign rfl) hS.rd ?_
        refine LW.nil fun aa ha => ?_
        rw [show ((x.Counts[i].toNat : Nat) : Int) = countAt x.Counts i by unfold countAt; rw [List.getElem?_eq_getElem hi2]; rfl] at ha
        refine hJ11 _  hS  aa (ha.sub ⟨rfl, rfl, rfl, rfl, rfl, rfl, trivial⟩)
      · have h11_4 := of_decide_eq_false h11_4
        refine LW.nil fun aa ha => hK12 _ _ _ ?_ aa ha
        refine CW.no rfl ?_
        refine CW.skip fun aa ha => ?_
        rw [show (0 : Int) = countAt x.Counts i by unfold countAt; rw [List.getElem?_eq_none (by omega)]; rfl] at ha
        refine hJ11 _  hS  aa (ha.sub ⟨rfl, rfl, rfl, rfl, rfl, rfl, trivial⟩)
    · have h8_2 := of_decide_eq_false h8_2
      refine LW.nil fun aa ha => hK8 _ _ _ ?_ aa ha
      refine CW.no rfl ?_
      refine CW.exit fun aa ha => hK5 _ _ _ ?_ aa ha
      refine CW.seq fun K13 hK13 => ?_
      have hJ14 : ∀ (wj : World) (aP : Option Addr) (cP : Nat) (ps : List Pr) (μ5 : Mem), St w wj μ5 [Own.obj b3 [.slice aW ws.length cW, .slice aC ws.length cC, .slice aP ps.length cP, .int .i64 x.Back.toNat] 34, Own.obj b2 [.slice none 0 0, .slice none 0 0, .slice none 0 0, .int .i64 0] 34, Own.obj b1 [.slice r0 x.Words.length d0, .slice r1 x.Counts.length d1, .slice r2 x.Uses.length d2, .int .u8 x.Back.toNat] 27] → (ps = pairsM ws.length x.Uses) → (Sl μ5 aP cP ps) → (Mem.ext w.heap.size μ μ5) → (Sl μ5 aW cW ws) → (Sl μ5 aC cC ((List.range ws.length).map (countAt x.Counts))) → KW K13 97 [(2, .pointer (some ⟨b2, 0, none⟩)), (3, .pointer (some ⟨b3, 0, none⟩))] wj := by
        intro wj aP cP ps μ5 hS hpt hsP hm5 hsW5 hsC5
        refine hK13 _ _ _ ?_
        refine CW.seq fun K14 hK14 => ?_
        refine CW.region [0, 1] rfl ?_
        refine LW.ex rfl rfl rfl rfl (Ex.load4c ti34 rfl rfl (by first | exact obT rfl | exact Rd.imm ‹_› | exact slT ‹_›) (by first | exact obT rfl | exact Rd.imm ‹_› | exact slT ‹_›) (by first | exact obT rfl | exact Rd.imm ‹_› | exact slT ‹_›) (by first | exact obT rfl | exact Rd.imm ‹_› | exact slT ‹_›)) hS.rd ?_
        refine LW.hu rfl rfl rfl (Hv.storeN (k := 1) ti34 hS rfl rfl rfl rfl (by simp [Value.oneCell'])) fun _ w_1 hS => ?_
        dsimp only [List.set] at hS
        refine LW.nil fun aa ha => hK14 _ _ _ ?_ aa ha
        refine CW.ret fun aa ha => ?_
        refine ret_cell ha Try.results10 rfl ti34 rfl (fun j v hv => Rd.objAll (k := 1) rfl hS.rd j v hv) ?_
        have e1 : (madeM x).Words = ws := by rw [hwt]; rfl
        have e2 : (madeM x).Counts = (List.range ws.length).map (countAt x.Counts) := by rw [hwt]; rfl
        have e3 : (madeM x).Pairs = ps := by rw [hpt, hwt]; rfl
        refine ⟨_, μ5, rfl, hS.below, hm5, hS.imm, aW, cW, aC, cC, aP, cP, ?_, ?_, ?_, ?_⟩
        · rw [e1, e2, e3, List.length_map, List.length_range]; rfl
        · rw [e1]; exact hsW5
        · rw [e2]; exact hsC5
        · rw [e3]; exact hsP
      refine CW.seq fun K15 hK15 => ?_
      refine CW.region [0] rfl ?_
      refine LW.ex rfl rfl rfl rfl (Ex.assign rfl) hS.rd ?_
      refine LW.nil fun aa ha => hK15 _ _ _ ?_ aa ha
      refine CW.block ?_
      have hie : i = ws.length := by omega
      obtain ⟨bs, μ4, hm4, hS, hφ⟩ := hS.shut 0 rfl
      dsimp only [List.eraseIdx] at hS
      have hsC : Sl μ4 aC cC ((List.range i).map (countAt x.Counts)) := Sl.of_own hφ (RepL.ints _ _) (by rw [List.length_map, List.length_range])
      rw [hie] at hsC hS
      refine CW.loop (fun qq frm wl15 => ∃ (i : Nat) (aP : Option Addr) (cP : Nat) (ps : List Pr) (μ5 : Mem), i ≤ x.Uses.length ∧ i ≤ 8 ∧ qq = 8 - i ∧ frm = [(1, .pointer (some ⟨b1, 0, none⟩)), (2, .pointer (some ⟨b2, 0, none⟩)), (3, .pointer (some ⟨b3, 0, none⟩)), (5, .int .i64 ws.length), (8, .int .i64 i)] ∧ St w wl15 μ5 [Own.obj b3 [.slice aW ws.length cW, .slice aC ws.length cC, .slice aP ps.length cP, .int .i64 x.Back.toNat] 34, Own.obj b2 [.slice none 0 0, .slice none 0 0, .slice none 0 0, .int .i64 0] 34, Own.obj b1 [.slice r0 x.Words.length d0, .slice r1 x.Counts.length d1, .slice r2 x.Uses.length d2, .int .u8 x.Back.toNat] 27] ∧ (ps = pairsTo ws.length x.Uses i) ∧ (Sl μ5 aP cP ps) ∧ (Mem.ext w.heap.size μ μ5) ∧ (Sl μ5 aW cW ws) ∧ (Sl μ5 aC cC ((List.range ws.length).map (countAt x.Counts)))) _ ⟨0, none, 0, [], μ4, (by first | omega | (simp; done) | (simp; omega)), (by first | omega | (simp; done) | (simp; omega)), rfl, rfl, hS, rfl, Sl.nil _ _ _ (by simp [maxLen]), hm3.trans hm4, hsW.mono hm4, hsC⟩ ⟨rfl, rfl, rfl, rfl, rfl, trivial⟩ ?_
      clear hS
      rintro qq frm wl15 ⟨i, aP, cP, ps, μ5, hi, hi8, hq, rfl, hS, hpt, hsP, hm5, hsW5, hsC5⟩
      refine CW.seq fun K16 hK16 => ?_
      refine CW.seq fun K17 hK17 => ?_
      refine CW.region [0, 1, 2, 3, 4, 5, 6, 7, 8] rfl ?_
      refine LW.ex rfl rfl rfl rfl (Ex.move rfl) hS.rd ?_
      refine LW.ex rfl rfl rfl rfl (Ex.fieldO 2 Try.underlying27 rfl rfl ti25 rfl) hS.rd ?_
      refine LW.ex rfl rfl rfl rfl (Ex.load1 ti25 rfl rfl (by first | exact obT rfl | exact Rd.imm ‹_› | exact slT ‹_›)) hS.rd ?_
      refine LW.ex rfl rfl rfl rfl (Ex.lenSl rfl Try.underlying25 rfl) hS.rd ?_
      refine LW.ex rfl rfl rfl rfl (Ex.lss rfl rfl rfl) hS.rd ?_
      refine LW.splitB (fun h15_4 => ?_) (fun h15_4 => ?_)
      · have h15_4 := of_decide_eq_true h15_4
        refine LW.ex rfl rfl rfl rfl (Ex.move rfl) hS.rd ?_
        refine LW.ex rfl rfl rfl rfl (Ex.move rfl) hS.rd ?_
        refine LW.ex rfl rfl rfl rfl (Ex.lss rfl rfl rfl) hS.rd ?_
        refine LW.splitB (fun h15_7 => ?_) (fun h15_7 => ?_)
        · have h15_7 := of_decide_eq_true h15_7
          refine LW.ex rfl rfl rfl rfl (by first | exact Ex.pick_yes rfl rfl | exact Ex.pick_no rfl rfl) hS.rd ?_
          refine LW.nil fun aa ha => hK17 _ _ _ ?_ aa ha
          refine CW.yes rfl ?_
          refine CW.skip fun aa ha => hK16 _ _ _ ?_ aa ha
          refine CW.seq fun K18 hK18 => ?_
          refine CW.block ?_
          refine CW.seq fun K19 hK19 => ?_
          have hi2 : i < x.Uses.length := by omega
          have hpo := pairsTo_ok (n := ws.length) (by omega) x.Uses i hi
          rw [← hpt] at hpo
          obtain ⟨p1, p2, p3, p4⟩ := hpo
          have p2' : ∀ q ∈ ps, 0 ≤ q.N := fun q hq => by have := p2 q hq; omega
          obtain ⟨bl', ol, rfl, k0, k1, k2⟩ := (h2.mono hm5).at hi2
          have g1 := pairOf_good (n := ws.length) (by omega) x.Uses[i]
          have hu1 := x.Uses[i].a.toNat_lt
          have hu2 := x.Uses[i].b.toNat_lt
          have hu3 := x.Uses[i].c.toNat_lt
          refine CW.region [0, 1, 2, 3, 4, 5, 6] rfl ?_
          refine LW.ex rfl rfl rfl rfl (Ex.fieldO 2 Try.underlying27 rfl rfl ti25 rfl) hS.rd ?_
          refine LW.ex rfl rfl rfl rfl (Ex.load1 ti25 rfl rfl (by first | exact obT rfl | exact Rd.imm ‹_› | exact slT ‹_›)) hS.rd ?_
          refine LW.ex rfl rfl rfl rfl (Ex.move rfl) hS.rd ?_
          refine LW.ex rfl rfl rfl rfl (Ex.indexSl Try.underlying25 ti84 rfl rfl rfl (by omega)) hS.rd ?_
          refine LW.ex rfl rfl rfl rfl (Ex.load3c ti84 rfl rfl (by first | exact obT rfl | exact Rd.imm ‹_› | exact slT ‹_›) (by first | exact obT rfl | exact Rd.imm ‹_› | exact slT ‹_›) (by first | exact obT rfl | exact Rd.imm ‹_› | exact slT ‹_›)) hS.rd ?_
          refine LW.hv rfl rfl rfl rfl (Hv.alloc ti84 hS) fun v w9 ⟨b9, hv, hb9, hS⟩ => ?_
          subst hv
          refine LW.hu rfl rfl rfl (Hv.storeN (k := 0) ti84 hS rfl rfl rfl rfl (by simp [Value.oneCell'])) fun _ w_6 hS => ?_
          dsimp only [List.set] at hS
          refine LW.nil fun aa ha => hK19 _ _ _ ?_ aa ha
          have hsz := hS.below.size
          have hS := hS.drew
          refine CW.draw 19 (.ex 0 <| .ex 1 <| .ex 2 <| .ex 3 <| .ex 4 <| .ex 5 <| .ex 6 <| .ex 7 <| .ex 8 <| .ex 9 <| .ex 10 <| .ex 11 <| .ex 12 <| .ex 13 <| .ex 14 <| .ex 15 <| .ex 16 <| .one 17 <| .ex 18 <| .done) [19] (Rd _ _) mixed (by kernel_rfl) rfl rfl hS.rd ?_
          refine PW.ex rfl rfl rfl rfl (Ex.load4c ti34 rfl rfl (by first | exact obT rfl | exact Rd.imm ‹_› | exact slT ‹_›) (by first | exact obT rfl | exact Rd.imm ‹_› | exact slT ‹_›) (by first | exact obT rfl | exact Rd.imm ‹_› | exact slT ‹_›) (by first | exact obT rfl | exact Rd.imm ‹_› | exact slT ‹_›)) ?_
          refine PW.ex rfl rfl rfl rfl (Ex.indexArr (j := 0) Try.underlying84 ti5 rfl rfl rfl (by omega)) ?_
          refine PW.ex rfl rfl rfl rfl (Ex.load1 ti5 rfl rfl (by first | exact obT rfl | exact Rd.imm ‹_› | exact slT ‹_›)) ?_
          refine PW.ex rfl rfl rfl rfl (Ex.conv Try.underlying5 Try.underlying3 rfl (by first | exact w64 (by omega) (by omega) | exact wu8 (by omega) (by omega))) ?_
          refine PW.ex rfl rfl rfl rfl (Ex.move rfl) ?_
          refine PW.ex rfl rfl rfl rfl (Ex.rem (r := ((x.Uses[i].a.toNat % ws.length : Nat) : Int)) rfl rfl (by omega) (remN _ _)) ?_
          refine PW.ex rfl rfl rfl rfl (Ex.indexArr (j := 1) Try.underlying84 ti5 rfl rfl rfl (by omega)) ?_
          refine PW.ex rfl rfl rfl rfl (Ex.load1 ti5 rfl rfl (by first | exact obT rfl | exact Rd.imm ‹_› | exact slT ‹_›)) ?_
          refine PW.ex rfl rfl rfl rfl (Ex.conv Try.underlying5 Try.underlying3 rfl (by first | exact w64 (by omega) (by omega) | exact wu8 (by omega) (by omega))) ?_
          refine PW.ex rfl rfl rfl rfl (Ex.move rfl) ?_
          refine PW.ex rfl rfl rfl rfl (Ex.rem (r := ((x.Uses[i].b.toNat % ws.length : Nat) : Int)) rfl rfl (by omega) (remN _ _)) ?_
          refine PW.ex rfl rfl rfl rfl (Ex.indexArr (j := 2) Try.underlying84 ti5 rfl rfl rfl (by omega)) ?_
          refine PW.ex rfl rfl rfl rfl (Ex.load1 ti5 rfl rfl (by first | exact obT rfl | exact Rd.imm ‹_› | exact slT ‹_›)) ?_
          refine PW.ex rfl rfl rfl rfl (Ex.rem (r := ((x.Uses[i].c.toNat % 16 : Nat) : Int)) rfl rfl (by omega) (remN _ 16)) ?_
          refine PW.ex rfl rfl rfl rfl (Ex.conv Try.underlying5 Try.underlying3 rfl (by first | exact w64 (by omega) (by omega) | exact wu8 (by omega) (by omega))) ?_
          refine PW.ex rfl rfl rfl rfl (Ex.add (r := ((1 + x.Uses[i].c.toNat % 16 : Nat) : Int)) rfl rfl (by rw [w64 (by omega) (by omega)]; omega)) ?_
          refine PW.ex rfl rfl rfl rfl (Ex.buildS st87 rfl rfl rfl) ?_
          refine PW.hv rfl rfl rfl rfl (Hv.callV hS rfl rfl rfl cb30 (insP_c ps _ _ _ (pairOf ws.length x.Uses[i]) (by omega) (fun q hq => ⟨p2' q hq, by have := tot_mem p2' hq; omega⟩) (by omega) _ _ _ _ _ _ μ5 _ hS.imm hsP)) (fun _ _ ⟨_, _, hm, h⟩ => Rd.le hm h.rd) fun v w94 ⟨μ94, hv94, hm94, hS⟩ => ?_
          obtain ⟨ad94, c94, hv, hs94⟩ := hv94
          subst hv
          refine PW.ex rfl rfl rfl rfl (Ex.fieldO 2 Try.underlying34 rfl rfl ti32 rfl) ?_
          refine PW.nil ?_
          refine LW.hu rfl rfl rfl (Hv.storeObj (k := 1) ti32 hS rfl rfl rfl rfl (by first | assumption | (simp; done) | omega | exact Nat.zero_lt_succ _)) fun _ w_19 hS => ?_
          dsimp only [List.set] at hS
          refine LW.nil fun aa ha => hK18 _ _ _ ?_ aa ha
          refine CW.region [0, 1, 2] rfl ?_
          refine LW.ex rfl rfl rfl rfl (Ex.move rfl) hS.rd ?_
          refine LW.ex rfl rfl rfl rfl (Ex.add rfl rfl (by first | exact inc64 (by omega) | exact addN (by omega) | exact w64 (by omega) (by omega))) hS.rd ?_
          refine LW.ex rfl rfl rfl rfl (Ex.assign rfl) hS.rd ?_
          refine LW.nil fun aa ha => ?_
          have hS := hS.drop 0 rfl
          dsimp only [List.eraseIdx] at hS
          refine ⟨_, _, ?m15, ⟨i + 1, ad94, c94, insP (pairOf ws.length x.Uses[i]) ps, μ94, (by first | omega | (simp; done) | (simp; omega)), (by first | omega | (simp; done) | (simp; omega)), rfl, rfl, hS, by rw [pairsTo_succ hi2, ← hpt], hs94, hm5.trans (hm94.mono hsz), hsW5.mono hm94, hsC5.mono hm94⟩, ha.sub ⟨rfl, rfl, rfl, rfl, rfl, trivial⟩⟩
          case m15 => omega
        · have h15_7 := of_decide_eq_false h15_7
          refine LW.ex rfl rfl rfl rfl (by first | exact Ex.pick_yes rfl rfl | exact Ex.pick_no rfl rfl) hS.rd ?_
          refine LW.nil fun aa ha => hK17 _ _ _ ?_ aa ha
          refine CW.no rfl ?_
          refine CW.exit fun aa ha => ?_
          refine hJ14 _ (aP) (cP) (ps) (μ5) hS (by rw [hpt, pairsM_to, show min x.Uses.length 8 = i by omega]) (hsP) (hm5) (hsW5) (hsC5) aa (ha.sub ⟨rfl, rfl, trivial⟩)
      · have h15_4 := of_decide_eq_false h15_4
        refine LW.ex rfl rfl rfl rfl (Ex.move rfl) hS.rd ?_
        refine LW.skip rfl rfl rfl rfl ?_
        refine LW.skip rfl rfl rfl rfl ?_
        refine LW.ex rfl rfl rfl rfl (by first | exact Ex.pick_yes rfl rfl | exact Ex.pick_no rfl rfl) hS.rd ?_
        refine LW.nil fun aa ha => hK17 _ _ _ ?_ aa ha
        refine CW.no rfl ?_
        refine CW.exit fun aa ha => ?_
        refine hJ14 _ (aP) (cP) (ps) (μ5) hS (by rw [hpt, pairsM_to, show min x.Uses.length 8 = i by omega]) (hsP) (hm5) (hsW5) (hsC5) aa (ha.sub ⟨rfl, rfl, trivial⟩)
  refine CW.seq fun K20 hK20 => ?_
  refine CW.region [0] rfl ?_
  refine LW.ex rfl rfl rfl rfl (Ex.assign rfl) hS.rd ?_
  refine LW.nil fun aa ha => hK20 _ _ _ ?_ aa ha
  refine CW.block ?_
  obtain ⟨μ2, hm2, hS, hws⟩ := hS.shutRow (k := 1) (xs := [(⟨#[97]⟩ : ByteArray), ⟨#[98]⟩]) rfl (RepL.strs _ [(⟨#[97]⟩ : ByteArray), ⟨#[98]⟩]) (by simp [maxLen])
  dsimp only [List.eraseIdx] at hS
  refine CW.loop (fun qq frm wl3 => ∃ (i : Nat) (aW : Option Addr) (cW : Nat) (ws : List ByteArray) (μ3 : Mem), i ≤ x.Words.length ∧ i ≤ 6 ∧ qq = 6 - i ∧ frm = [(1, .pointer (some ⟨b1, 0, none⟩)), (2, .pointer (some ⟨b2, 0, none⟩)), (3, .pointer (some ⟨b3, 0, none⟩)), (4, .int .i64 i)] ∧ St w wl3 μ3 [Own.obj b3 [.slice aW ws.length cW, .slice none 0 0, .slice none 0 0, .int .i64 x.Back.toNat] 34, Own.obj b2 [.slice none 0 0, .slice none 0 0, .slice none 0 0, .int .i64 0] 34, Own.obj b1 [.slice r0 x.Words.length d0, .slice r1 x.Counts.length d1, .slice r2 x.Uses.length d2, .int .u8 x.Back.toNat] 27] ∧ (ws = wordsTo x.Words i) ∧ (Sl μ3 aW cW ws) ∧ (Mem.ext w.heap.size μ μ3)) _ ⟨0, some ⟨b10, 0, none⟩, 2, [⟨#[97]⟩, ⟨#[98]⟩], μ2, (by first | omega | (simp; done) | (simp; omega)), (by first | omega | (simp; done) | (simp; omega)), rfl, rfl, hS, rfl, hws, hm2⟩ ⟨rfl, rfl, rfl, rfl, trivial⟩ ?_
  clear hS
  rintro qq frm wl3 ⟨i, aW, cW, ws, μ3, hi, hi6, hq, rfl, hS, hwt, hsW, hm3⟩
  refine CW.seq fun K21 hK21 => ?_
  refine CW.seq fun K22 hK22 => ?_
  refine CW.region [0, 1, 2, 3, 4, 5, 6, 7, 8] rfl ?_
  refine LW.ex rfl rfl rfl rfl (Ex.move rfl) hS.rd ?_
  refine LW.ex rfl rfl rfl rfl (Ex.fieldO 0 Try.underlying27 rfl rfl ti23 rfl) hS.rd ?_
  refine LW.ex rfl rfl rfl rfl (Ex.load1 ti23 rfl rfl (by first | exact obT rfl | exact Rd.imm ‹_› | exact slT ‹_›)) hS.rd ?_
  refine LW.ex rfl rfl rfl rfl (Ex.lenSl rfl Try.underlying23 rfl) hS.rd ?_
  refine LW.ex rfl rfl rfl rfl (Ex.lss rfl rfl rfl) hS.rd ?_
  refine LW.splitB (fun h3_4 => ?_) (fun h3_4 => ?_)
  · have h3_4 := of_decide_eq_true h3_4
    refine LW.ex rfl rfl rfl rfl (Ex.move rfl) hS.rd ?_
    refine LW.ex rfl rfl rfl rfl (Ex.move rfl) hS.rd ?_
    refine LW.ex rfl rfl rfl rfl (Ex.lss rfl rfl rfl) hS.rd ?_
    refine LW.splitB (fun h3_7 => ?_) (fun h3_7 => ?_)
    · have h3_7 := of_decide_eq_true h3_7
      refine LW.ex rfl rfl rfl rfl (by first | exact Ex.pick_yes rfl rfl | exact Ex.pick_no rfl rfl) hS.rd ?_
      refine LW.nil fun aa ha => hK22 _ _ _ ?_ aa ha
      refine CW.yes rfl ?_
      refine CW.skip fun aa ha => hK21 _ _ _ ?_ aa ha
      refine CW.seq fun K23 hK23 => ?_
      refine CW.block ?_
      have hi2 : i < x.Words.length := by omega
      have hwo := wordsTo_ok x.Words i hi
      rw [← hwt] at hwo
      obtain ⟨bl', ol, rfl, adw, cw, k0, k1⟩ := (h0.mono hm3).at hi2
      have hS := hS.drew
      refine CW.draw 10 (.ex 0 <| .ex 1 <| .ex 2 <| .ex 3 <| .ex 4 <| .ex 5 <| .ex 6 <| .one 7 <| .one 8 <| .ex 9 <| .done) [10] (Rd _ _) mixed (by kernel_rfl) rfl rfl hS.rd ?_
      refine PW.ex rfl rfl rfl rfl (Ex.fieldO 0 Try.underlying34 rfl rfl ti30 rfl) ?_
      refine PW.ex rfl rfl rfl rfl (Ex.load1 ti30 rfl rfl (by first | exact obT rfl | exact Rd.imm ‹_› | exact slT ‹_›)) ?_
      refine PW.ex rfl rfl rfl rfl (Ex.fieldO 0 Try.underlying27 rfl rfl ti23 rfl) ?_
      refine PW.ex rfl rfl rfl rfl (Ex.load1 ti23 rfl rfl (by first | exact obT rfl | exact Rd.imm ‹_› | exact slT ‹_›)) ?_
      refine PW.ex rfl rfl rfl rfl (Ex.move rfl) ?_
      refine PW.ex rfl rfl rfl rfl (Ex.indexSl Try.underlying23 ti24 rfl rfl rfl (by omega)) ?_
      refine PW.ex rfl rfl rfl rfl (Ex.load1 ti24 rfl rfl (by first | exact obT rfl | exact Rd.imm ‹_› | exact slT ‹_›)) ?_
      refine PW.hv rfl rfl rfl rfl (Hv.callS hS rfl rfl rfl cb29 (mword_c x.Words[i] _ _ μ3 _ hS.imm k1)) (fun _ _ h => h.2.rd) fun v w33 ⟨hv, hS⟩ => ?_
      subst hv
      have hsz := hS.below.size
      refine PW.hv rfl rfl rfl rfl (Hv.callV hS rfl rfl rfl cb28 (insS_c ws (wordR x.Words[i]) (by omega) _ _ μ3 _ hS.imm hsW)) (fun _ _ ⟨_, _, hm, h⟩ => Rd.le hm h.rd) fun v w34 ⟨μ34, hv34, hm34, hS⟩ => ?_
      obtain ⟨ad34, c34, hv, hs34⟩ := hv34
      subst hv
      refine PW.ex rfl rfl rfl rfl (Ex.fieldO 0 Try.underlying34 rfl rfl ti30 rfl) ?_
      refine PW.nil ?_
      refine LW.hu rfl rfl rfl (Hv.storeObj (k := 0) ti30 hS rfl rfl rfl rfl (by first | assumption | (simp; done) | omega | exact Nat.zero_lt_succ _)) fun _ w_10 hS => ?_
      dsimp only [List.set] at hS
      refine LW.nil fun aa ha => hK23 _ _ _ ?_ aa ha
      refine CW.region [0, 1, 2] rfl ?_
      refine LW.ex rfl rfl rfl rfl (Ex.move rfl) hS.rd ?_
      refine LW.ex rfl rfl rfl rfl (Ex.add rfl rfl (by first | exact inc64 (by omega) | exact addN (by omega) | exact w64 (by omega) (by omega))) hS.rd ?_
      refine LW.ex rfl rfl rfl rfl (Ex.assign rfl) hS.rd ?_
      refine LW.nil fun aa ha => ?_
      refine ⟨_, _, ?m3, ⟨i + 1, ad34, c34, insS (wordR x.Words[i]) ws, μ34, (by first | omega | (simp; done) | (simp; omega)), (by first | omega | (simp; done) | (simp; omega)), rfl, rfl, hS, by rw [wordsTo_succ hi2, hwt], hs34, hm3.trans (hm34.mono hsz)⟩, ha.sub ⟨rfl, rfl, rfl, rfl, trivial⟩⟩
      case m3 => omega
    · have h3_7 := of_decide_eq_false h3_7
      refine LW.ex rfl rfl rfl rfl (by first | exact Ex.pick_yes rfl rfl | exact Ex.pick_no rfl rfl) hS.rd ?_
      refine LW.nil fun aa ha => hK22 _ _ _ ?_ aa ha
      refine CW.no rfl ?_
      refine CW.exit fun aa ha => ?_
      refine hJ2 _ (aW) (cW) (ws) (μ3) hS (by rw [hwt, wordsM_to, show min x.Words.length 6 = i by omega]) (hsW) (hm3) aa (ha.sub ⟨rfl, rfl, rfl, trivial⟩)
  · have h3_4 := of_decide_eq_false h3_4
    refine LW.ex rfl rfl rfl rfl (Ex.move rfl) hS.rd ?_
    refine LW.skip rfl rfl rfl rfl ?_
    refine LW.skip rfl rfl rfl rfl ?_
    refine LW.ex rfl rfl rfl rfl (by first | exact Ex.pick_yes rfl rfl | exact Ex.pick_no rfl rfl) hS.rd ?_
    refine LW.nil fun aa ha => hK22 _ _ _ ?_ aa ha
    refine CW.no rfl ?_
    refine CW.exit fun aa ha => ?_
    refine hJ2 _ (aW) (cW) (ws) (μ3) hS (by rw [hwt, wordsM_to, show min x.Words.length 6 = i by omega]) (hsW) (hm3) aa (ha.sub ⟨rfl, rfl, rfl, trivial⟩)
end Go.Proofs.Ytgnpjhellmfhoaa

/-
  Context: the reference's lattice, made of raw data: in plain Lean, and its walk.
-/
namespace Go.Proofs.Ytgnpjhellmfhoaa
open Go.RowKit Sy

def sameE (e y : Edge) : Bool := decide (y.From = e.From ∧ y.To = e.To ∧ y.Word = e.Word)
theorem findE_c (x : Lat) (e : Edge) (a3 : Option Addr) (c3 : Nat) (μ : Mem) (w : World) (hμ : Imm μ w) (hl : Sl μ a3 c3 x.Edges) :
    Calls Try.prog 31 #[.agg #[.int .i64 x.N, .slice a3 x.Edges.length c3], edgeV e] w (RetS w (.int .i64 (firstI (sameE e) x.Edges))) := by
  have hll := hl.1
  have hlc := hl.2.1
  simp only [maxLen] at hlc
  have hS := St.start w μ hμ
  refine calls_start 39 [.agg #[.int .i64 x.N, .slice a3 x.Edges.length c3], edgeV e] Try.func31 rfl Try.ntmps31 rfl rfl ?_
  refine CW.seq fun K1 hK1 => ?_
  refine CW.region [0, 1, 2] rfl ?_
  refine LW.hv rfl rfl rfl rfl (Hv.boxS hS rfl rfl) fun v w2 ⟨b2, hv, hb2, hS⟩ => ?_
  subst hv
  refine LW.hv rfl rfl rfl rfl (Hv.boxS hS rfl rfl) fun v w3 ⟨b3, hv, hb3, hS⟩ => ?_
  subst hv
  refine LW.ex rfl rfl rfl rfl (Ex.assign rfl) hS.rd ?_
  refine LW.nil fun aa ha => hK1 _ _ _ ?_ aa ha
  refine CW.seq fun K2 hK2 => ?_
  refine CW.seq fun K3 hK3 => ?_
  refine CW.region [0] rfl ?_
  refine LW.ex rfl rfl rfl rfl (Ex.assign rfl) hS.rd ?_
  refine LW.nil fun aa ha => hK3 _ _ _ ?_ aa ha
  refine CW.block ?_
  refine CW.loop (fun qq frm wl2 => ∃ (i : Nat), i ≤ x.Edges.length ∧ qq = x.Edges.length - i ∧ frm = [(2, .pointer (some ⟨b2, 0, none⟩)), (3, .pointer (some ⟨b3, 0, none⟩)), (5, .int .i64 i)] ∧ St w wl2 μ [Own.obj b3 (edgeL e) 43, Own.obj b2 [.int .i64 x.N, .slice a3 x.Edges.length c3] 38] ∧ (∀ j (hj : j < x.Edges.length), j < i → sameE e x.Edges[j] = false)) _ ⟨0, (by first | omega | (simp; done) | (simp; omega)), rfl, rfl, hS, fun j _ hj => by omega⟩ ⟨rfl, rfl, rfl, trivial⟩ ?_
  clear hS
  rintro qq frm wl2 ⟨i, hi, hq, rfl, hS, he⟩
  refine CW.seq fun K4 hK4 => ?_
  refine CW.seq fun K5 hK5 => ?_
  refine CW.region [0, 1, 2, 3, 4] rfl ?_
  refine LW.ex rfl rfl rfl rfl (Ex.move rfl) hS.rd ?_
  refine LW.ex rfl rfl rfl rfl (Ex.fieldO 1 Try.underlying38 rfl rfl ti36 rfl) hS.rd ?_
  refine LW.ex rfl rfl rfl rfl (Ex.load1 ti36 rfl rfl (by first | exact obT rfl | exact Rd.imm ‹_› | exact slT ‹_›)) hS.rd ?_
  refine LW.ex rfl rfl rfl rfl (Ex.lenSl rfl Try.underlying36 rfl) hS.rd ?_
  refine LW.ex rfl rfl rfl rfl (Ex.lss rfl rfl rfl) hS.rd ?_
  refine LW.splitB (fun h2_4 => ?_) (fun h2_4 => ?_)
  · have h2_4 := of_decide_eq_true h2_4
    refine LW.nil fun aa ha => hK5 _ _ _ ?_ aa ha
    refine CW.yes rfl ?_
    refine CW.skip fun aa ha => hK4 _ _ _ ?_ aa ha
    refine CW.seq fun K6 hK6 => ?_
    refine CW.block ?_
    refine CW.seq fun K7 hK7 => ?_
    have hi2 : i < x.Edges.length := by omega
    obtain ⟨bl', ol, rfl, k0, k1, k2, k3⟩ := hl.at hi2
    refine CW.region [0, 1, 2, 3, 4, 5, 6] rfl ?_
    refine LW.ex rfl rfl rfl rfl (Ex.fieldO 1 Try.underlying38 rfl rfl ti36 rfl) hS.rd ?_
    refine LW.ex rfl rfl rfl rfl (Ex.load1 ti36 rfl rfl (by first | exact obT rfl | exact Rd.imm ‹_› | exact slT ‹_›)) hS.rd ?_
    refine LW.ex rfl rfl rfl rfl (Ex.move rfl) hS.rd ?_
    refine LW.ex rfl rfl rfl rfl (Ex.indexSl Try.underlying36 ti43 rfl rfl rfl (by omega)) hS.rd ?_
    refine LW.ex rfl rfl rfl rfl (Ex.load4c ti43 rfl rfl (by first | exact obT rfl | exact Rd.imm ‹_› | exact slT ‹_›) (by first | exact obT rfl | exact Rd.imm ‹_› | exact slT ‹_›) (by first | exact obT rfl | exact Rd.imm ‹_› | exact slT ‹_›) (by first | exact obT rfl | exact Rd.imm ‹_› | exact slT ‹_›)) hS.rd ?_
    refine LW.hv rfl rfl rfl rfl (Hv.alloc ti43 hS) fun v w6 ⟨b6, hv, hb6, hS⟩ => ?_
    subst hv
    refine LW.hu rfl rfl rfl (Hv.storeN (k := 0) ti43 hS rfl rfl rfl rfl (by simp [Value.oneCell'])) fun _ w_6 hS => ?_
    dsimp only [List.set] at hS
    refine LW.nil fun aa ha => hK7 _ _ _ ?_ aa ha
    refine CW.seq fun K8 hK8 => ?_
    refine CW.region [0, 1, 2, 3, 4, 5, 6, 7, 8, 9, 10, 11, 12, 13, 14, 15, 16, 17, 18] rfl ?_
    refine LW.ex rfl rfl rfl rfl (Ex.fieldO 0 Try.underlying43 rfl rfl ti3 rfl) hS.rd ?_
    refine LW.ex rfl rfl rfl rfl (Ex.load1 ti3 rfl rfl (by first | exact obT rfl | exact Rd.imm ‹_› | exact slT ‹_›)) hS.rd ?_
    refine LW.ex rfl rfl rfl rfl (Ex.fieldO 0 Try.underlying43 rfl rfl ti3 rfl) hS.rd ?_
    refine LW.ex rfl rfl rfl rfl (Ex.load1 ti3 rfl rfl (by first | exact obT rfl | exact Rd.imm ‹_› | exact slT ‹_›)) hS.rd ?_
    refine LW.ex rfl rfl rfl rfl (Ex.eql rfl rfl rfl) hS.rd ?_
    refine LW.splitB (fun h5_4 => ?_) (fun h5_4 => ?_)
    · have h5_4 := of_decide_eq_true h5_4
      refine LW.ex rfl rfl rfl rfl (Ex.move rfl) hS.rd ?_
      refine LW.ex rfl rfl rfl rfl (Ex.fieldO 1 Try.underlying43 rfl rfl ti3 rfl) hS.rd ?_
      refine LW.ex rfl rfl rfl rfl (Ex.load1 ti3 rfl rfl (by first | exact obT rfl | exact Rd.imm ‹_› | exact slT ‹_›)) hS.rd ?_
      refine LW.ex rfl rfl rfl rfl (Ex.fieldO 1 Try.underlying43 rfl rfl ti3 rfl) hS.rd ?_
      refine LW.ex rfl rfl rfl rfl (Ex.load1 ti3 rfl rfl (by first | exact obT rfl | exact Rd.imm ‹_› | exact slT ‹_›)) hS.rd ?_
      refine LW.ex rfl rfl rfl rfl (Ex.eql rfl rfl rfl) hS.rd ?_
      refine LW.splitB (fun h5_10 => ?_) (fun h5_10 => ?_)
      · have h5_10 := of_decide_eq_true h5_10
        refine LW.ex rfl rfl rfl rfl (by first | exact Ex.pick_yes rfl rfl | exact Ex.pick_no rfl rfl) hS.rd ?_
        refine LW.ex rfl rfl rfl rfl (Ex.move rfl) hS.rd ?_
        refine LW.ex rfl rfl rfl rfl (Ex.fieldO 2 Try.underlying43 rfl rfl ti3 rfl) hS.rd ?_
        refine LW.ex rfl rfl rfl rfl (Ex.load1 ti3 rfl rfl (by first | exact obT rfl | exact Rd.imm ‹_› | exact slT ‹_›)) hS.rd ?_
        refine LW.ex rfl rfl rfl rfl (Ex.fieldO 2 Try.underlying43 rfl rfl ti3 rfl) hS.rd ?_
        refine LW.ex rfl rfl rfl rfl (Ex.load1 ti3 rfl rfl (by first | exact obT rfl | exact Rd.imm ‹_› | exact slT ‹_›)) hS.rd ?_
        refine LW.ex rfl rfl rfl rfl (Ex.eql rfl rfl rfl) hS.rd ?_
        refine LW.splitB (fun h5_17 => ?_) (fun h5_17 => ?_)
        · have h5_17 := of_decide_eq_true h5_17
          refine LW.ex rfl rfl rfl rfl (by first | exact Ex.pick_yes rfl rfl | exact Ex.pick_no rfl rfl) hS.rd ?_
          refine LW.nil fun aa ha => hK8 _ _ _ ?_ aa ha
          refine CW.yes rfl ?_
          refine CW.seq fun K9 hK9 => ?_
          refine CW.region [0, 1] rfl ?_
          refine LW.ex rfl rfl rfl rfl (Ex.move rfl) hS.rd ?_
          refine LW.ex rfl rfl rfl rfl (Ex.assign rfl) hS.rd ?_
          refine LW.nil fun aa ha => hK9 _ _ _ ?_ aa ha
          refine CW.ret fun aa ha => ?_
          refine ret_one ha Try.results31 rfl ?_
          exact hS.retE (by unfold firstI; rw [(List.findIdx_eq hi2).2 ⟨decide_eq_true ⟨by omega, by omega, by omega⟩, fun j hj => he j (by omega) hj⟩, if_pos hi2])
        · have h5_17 := of_decide_eq_false h5_17
          refine LW.ex rfl rfl rfl rfl (by first | exact Ex.pick_yes rfl rfl | exact Ex.pick_no rfl rfl) hS.rd ?_
          refine LW.nil fun aa ha => hK8 _ _ _ ?_ aa ha
          refine CW.no rfl ?_
          refine CW.skip fun aa ha => hK6 _ _ _ ?_ aa ha
          refine CW.region [0, 1, 2] rfl ?_
          refine LW.ex rfl rfl rfl rfl (Ex.move rfl) hS.rd ?_
          refine LW.ex rfl rfl rfl rfl (Ex.add rfl rfl (by first | exact inc64 (by omega) | exact addN (by omega) | exact w64 (by omega) (by omega))) hS.rd ?_
          refine LW.ex rfl rfl rfl rfl (Ex.assign rfl) hS.rd ?_
          refine LW.nil fun aa ha => ?_
          have hS := hS.drop 0 rfl
          dsimp only [List.eraseIdx] at hS
          refine ⟨_, _, ?m2, ⟨i + 1, (by first | omega | (simp; done) | (simp; omega)), rfl, rfl, hS, fun j hj hji => by by_cases h : j = i; (· subst h; exact decide_eq_false (by omega)); (· exact he j hj (by omega))⟩, ha.sub ⟨rfl, rfl, rfl, trivial⟩⟩
          case m2 => omega
      · have h5_10 := of_decide_eq_false h5_10
        refine LW.ex rfl rfl rfl rfl (by first | exact Ex.pick_yes rfl rfl | exact Ex.pick_no rfl rfl) hS.rd ?_
        refine LW.ex rfl rfl rfl rfl (Ex.move rfl) hS.rd ?_
        refine LW.skip rfl rfl rfl rfl ?_
        refine LW.skip rfl rfl rfl rfl ?_
        refine LW.skip rfl rfl rfl rfl ?_
        refine LW.skip rfl rfl rfl rfl ?_
        refine LW.skip rfl rfl rfl rfl ?_
        refine LW.ex rfl rfl rfl rfl (by first | exact Ex.pick_yes rfl rfl | exact Ex.pick_no rfl rfl) hS.rd ?_
        refine LW.nil fun aa ha => hK8 _ _ _ ?_ aa ha
        refine CW.no rfl ?_
        refine CW.skip fun aa ha => hK6 _ _ _ ?_ aa ha
        refine CW.region [0, 1, 2] rfl ?_
        refine LW.ex rfl rfl rfl rfl (Ex.move rfl) hS.rd ?_
        refine LW.ex rfl rfl rfl rfl (Ex.add rfl rfl (by first | exact inc64 (by omega) | exact addN (by omega) | exact w64 (by omega) (by omega))) hS.rd ?_
        refine LW.ex rfl rfl rfl rfl (Ex.assign rfl) hS.rd ?_
        refine LW.nil fun aa ha => ?_
        have hS := hS.drop 0 rfl
        dsimp only [List.eraseIdx] at hS
        refine ⟨_, _, ?m2, ⟨i + 1, (by first | omega | (simp; done) | (simp; omega)), rfl, rfl, hS, fun j hj hji => by by_cases h : j = i; (· subst h; exact decide_eq_false (by omega)); (· exact he j hj (by omega))⟩, ha.sub ⟨rfl, rfl, rfl, trivial⟩⟩
        case m2 => omega
    · have h5_4 := of_decide_eq_false h5_4
      refine LW.ex rfl rfl rfl rfl (Ex.move rfl) hS.rd ?_
      refine LW.skip rfl rfl rfl rfl ?_
      refine LW.skip rfl rfl rfl rfl ?_
      refine LW.skip rfl rfl rfl rfl ?_
      refine LW.skip rfl rfl rfl rfl ?_
      refine LW.skip rfl rfl rfl rfl ?_
      refine LW.ex rfl rfl rfl rfl (by first | exact Ex.pick_yes rfl rfl | exact Ex.pick_no rfl rfl) hS.rd ?_
      refine LW.ex rfl rfl rfl rfl (Ex.move rfl) hS.rd ?_
      refine LW.skip rfl rfl rfl rfl ?_
      refine LW.skip rfl rfl rfl rfl ?_
      refine LW.skip rfl rfl rfl rfl ?_
      refine LW.skip rfl rfl rfl rfl ?_
      refine LW.skip rfl rfl rfl rfl ?_
      refine LW.ex rfl rfl rfl rfl (by first | exact Ex.pick_yes rfl rfl | exact Ex.pick_no rfl rfl) hS.rd ?_
      refine LW.nil fun aa ha => hK8 _ _ _ ?_ aa ha
      refine CW.no rfl ?_
      refine CW.skip fun aa ha => hK6 _ _ _ ?_ aa ha
      refine CW.region [0, 1, 2] rfl ?_
      refine LW.ex rfl rfl rfl rfl (Ex.move rfl) hS.rd ?_
      refine LW.ex rfl rfl rfl rfl (Ex.add rfl rfl (by first | exact inc64 (by omega) | exact addN (by omega) | exact w64 (by omega) (by omega))) hS.rd ?_
      refine LW.ex rfl rfl rfl rfl (Ex.assign rfl) hS.rd ?_
      refine LW.nil fun aa ha => ?_
      have hS := hS.drop 0 rfl
      dsimp only [List.eraseIdx] at hS
      refine ⟨_, _, ?m2, ⟨i + 1, (by first | omega | (simp; done) | (simp; omega)), rfl, rfl, hS, fun j hj hji => by by_cases h : j = i; (· subst h; exact decide_eq_false (by omega)); (· exact he j hj (by omega))⟩, ha.sub ⟨rfl, rfl, rfl, trivial⟩⟩
      case m2 => omega
  · have h2_4 := of_decide_eq_false h2_4
    refine LW.nil fun aa ha => hK5 _ _ _ ?_ aa ha
    refine CW.no rfl ?_
    refine CW.exit fun aa ha => hK2 _ _ _ ?_ aa ha
    refine CW.seq fun K10 hK10 => ?_
    refine CW.region [0] rfl ?_
    refine LW.ex rfl rfl rfl rfl (Ex.assign rfl) hS.rd ?_
    refine LW.nil fun aa ha => hK10 _ _ _ ?_ aa ha
    refine CW.ret fun aa ha => ?_
    refine ret_one ha Try.results31 rfl ?_
    exact hS.retE (by unfold firstI; rw [List.findIdx_eq_length.2 fun y hy => (by obtain ⟨j, hj, rfl⟩ := List.getElem_of_mem hy; exact he j hj (by omega)), if_neg (by omega)])
def baseE (n i : Nat) : Edge := ⟨(i : Nat), (i + 1 : Nat), (i % n : Nat), 3⟩
def baseX (N n : Nat) : List Edge := (List.range N).map (baseE n)
def edgeOf (N n : Nat) (b : B4) : Edge := ⟨(b.a.toNat % N : Nat), (b.a.toNat % N + 1 + b.b.toNat % (N - b.a.toNat % N) : Nat), (b.c.toNat % n : Nat), (b.d.toNat % 32 : Nat)⟩
def addE (L : List Edge) (e : Edge) : List Edge := if L.any (sameE e) = true then L else insE e L
def edgesTo (N n : Nat) (ls : List B4) (i : Nat) : List Edge := (ls.take i).foldl (fun L b => addE L (edgeOf N n b)) (baseX N n)
def madeX (ls : List B4) (places : UInt8) (n : Nat) : Lat := ⟨(places.toNat % 6 : Nat), if 0 < places.toNat % 6 then edgesTo (places.toNat % 6) n ls (min ls.length 8) else []⟩
theorem edgesTo_succ {N n : Nat} {ls : List B4} {i : Nat} (h : i < ls.length) : edgesTo N n ls (i + 1) = addE (edgesTo N n ls i) (edgeOf N n ls[i]) := by
  unfold edgesTo; rw [List.take_succ_eq_append_getElem h, List.foldl_append]; rfl
theorem edLess_trans (a b c : Edge) (h1 : edLess a b = true) (h2 : edLess b c = true) : edLess a c = true := by rw [edLess_iff] at *; omega
theorem insE_eq {e : Edge} {L : List Edge} (h : L.Pairwise fun a b => edLess a b = true) : insE e L = ins (fun q => edLess e q) (fun _ => false) id e L :=
  insG_ins (R := fun a b => edLess a b = true) (fun q z h1 h2 => edLess_trans _ _ _ h1 h2) (fun q z h1 => by cases h1) (fun _ _ => rfl) h
theorem addE_sorted {e : Edge} {L : List Edge} (h : L.Pairwise fun a b => edLess a b = true) : (addE L e).Pairwise fun a b => edLess a b = true := by
  unfold addE
  split
  · exact h
  · rename_i hn
    rw [insE_eq h]
    refine ins_sortedM (R := fun a b => edLess a b = true) (fun q hq => hq) (fun q z h => by cases h) (fun q z h => by cases h) edLess_trans (fun q hq h1 _ => ?_) h
    have h3 : ¬ (q.From = e.From ∧ q.To = e.To ∧ q.Word = e.Word) := fun h4 => hn (List.any_eq_true.2 ⟨q, hq, decide_eq_true h4⟩)
    rw [Bool.eq_false_iff, ne_eq, edLess_iff] at h1
    rw [edLess_iff]; omega
theorem addE_mem {e y : Edge} {L : List Edge} (h : L.Pairwise fun a b => edLess a b = true) (hy : y ∈ addE L e) : y = e ∨ y ∈ L := by
  unfold addE at hy
  split at hy
  · exact .inr hy
  · rw [insE_eq h] at hy
    rcases ins_mem hy with h | h | ⟨z, _, h, _⟩
    · exact .inl h
    · exact .inr h
    · cases h
theorem addE_len {e : Edge} {L : List Edge} (h : L.Pairwise fun a b => edLess a b = true) : (addE L e).length ≤ L.length + 1 := by
  unfold addE
  split
  · omega
  · rw [insE_eq h]; exact ins_len.2
theorem addE_has {e y : Edge} {L : List Edge} (h : L.Pairwise fun a b => edLess a b = true) (hy : y ∈ L) : y ∈ addE L e := by
  unfold addE
  split
  · exact hy
  · rw [insE_eq h]; exact ins_has rfl hy
def edGood (N n : Nat) (e : Edge) : Prop := 0 ≤ e.From ∧ e.From < e.To ∧ e.To ≤ N ∧ 0 ≤ e.Word ∧ e.Word < n ∧ 0 ≤ e.Cost ∧ e.Cost ≤ 31
theorem edgeOf_good {N n : Nat} (hN : 0 < N) (hn : 0 < n) (b : B4) : edGood N n (edgeOf N n b) := by
  have h1 := Nat.mod_lt b.a.toNat hN
  have h2 := Nat.mod_lt b.b.toNat (show 0 < N - b.a.toNat % N by omega)
  have h3 := Nat.mod_lt b.c.toNat hn
  have h4 := Nat.mod_lt b.d.toNat (show 0 < 32 by omega)
  unfold edGood edgeOf; simp only; omega
theorem baseX_sorted (N n : Nat) : (baseX N n).Pairwise fun a b => edLess a b = true := by
  unfold baseX
  rw [List.pairwise_map]
  refine List.pairwise_lt_range.imp fun {a b} h => ?_
  rw [edLess_iff]; unfold baseE; simp only; omega
theorem baseX_good {N n : Nat} (hn : 0 < n) : ∀ e ∈ baseX N n, edGood N n e := fun e he => by
  unfold baseX at he
  obtain ⟨i, hi, rfl⟩ := List.mem_map.1 he
  rw [List.mem_range] at hi
  have h3 := Nat.mod_lt i hn
  unfold edGood baseE; simp only; omega
theorem edgesTo_ok {N n : Nat} (hN : 0 < N) (hn : 0 < n) (ls : List B4) : ∀ i, i ≤ ls.length → (edgesTo N n ls i).Pairwise (fun a b => edLess a b = true) ∧ (∀ e ∈ edgesTo N n ls i, edGood N n e) ∧ (edgesTo N n ls i).length ≤ N + i ∧ ∀ e ∈ baseX N n, e ∈ edgesTo N n ls i
  | 0, _ => by rw [show edgesTo N n ls 0 = baseX N n from rfl]; exact ⟨baseX_sorted N n, baseX_good hn, by unfold baseX; simp, fun e he => he⟩
  | i + 1, h => by
    obtain ⟨h1, h2, h3, h4⟩ := edgesTo_ok hN hn ls i (by omega)
    rw [edgesTo_succ (by omega)]
    refine ⟨addE_sorted h1, fun e he => ?_, Nat.le_trans (addE_len h1) (by omega), fun e he => addE_has h1 (h4 e he)⟩
    rcases addE_mem h1 he with rfl | he
    · exact edgeOf_good hN hn _
    · exact h2 e he
theorem madeX_ok (ls : List B4) (places : UInt8) {n : Nat} (hn : 0 < n) (hn2 : n ≤ 200) : okX (madeX ls places n) = true ∧ wordsIn (madeX ls places n) n = true ∧ (madeX ls places n).Edges.length ≤ 13 ∧ (0 ≤ (madeX ls places n).N ∧ (madeX ls places n).N ≤ 5) ∧
    ∀ p : Nat, (p : Int) < (madeX ls places n).N → ∃ e ∈ (madeX ls places n).Edges, e.From = p := by
  have h6 := Nat.mod_lt places.toNat (show 0 < 6 by omega)
  by_cases h0 : 0 < places.toNat % 6
  · have hE : (madeX ls places n).Edges = edgesTo (places.toNat % 6) n ls (min ls.length 8) := by unfold madeX; rw [if_pos h0]
    have hN : (madeX ls places n).N = (places.toNat % 6 : Nat) := rfl
    obtain ⟨h1, h2, h3, h4⟩ := edgesTo_ok h0 hn ls (min ls.length 8) (by omega)
    rw [← hE] at h1 h2 h3 h4
    refine ⟨?_, ?_, by omega, by omega, fun p hp => ⟨baseE n p, h4 _ (List.mem_map.2 ⟨p, List.mem_range.2 (by omega), rfl⟩), rfl⟩⟩
    · unfold okX
      rw [Bool.and_eq_true, decide_eq_true_eq]
      refine ⟨by omega, rises_of (fun e he => ?_) h1 (fun q hq => by cases hq)⟩
      have := h2 e he
      unfold edGood at this
      rw [edIn_iff]; omega
    · unfold wordsIn
      rw [List.all_eq_true]
      intro e he
      have := h2 e he
      unfold edGood at this
      exact decide_eq_true (by omega)
  · have hE : (madeX ls places n).Edges = [] := by unfold madeX; rw [if_neg h0]
    have hN : (madeX ls places n).N = (places.toNat % 6 : Nat) := rfl
    refine ⟨?_, by unfold wordsIn; rw [hE]; rfl, by rw [hE]; simp, by omega, fun p hp => by omega⟩
    unfold okX; rw [hE, hN]; rw [show places.toNat % 6 = 0 by omega]; rfl
theorem baseX_succ (n i : Nat) : baseX (i + 1) n = baseX i n ++ [baseE n i] := by unfold baseX; rw [List.range_succ, List.map_append]; rfl
theorem remN' (a b : Nat) {B : Int} (h : B = b) : ((a : Int)).tmod B = ((a % b : Nat) : Int) := by subst h; exact remN a b
set_option maxRecDepth 100000 in
set_option maxHeartbeats 2000000 in
theorem madeX_m {w0 w : World} {μ : Mem} {Lr : List Own} (ls : List B4) (places : UInt8) (n : Nat) (hn : 0 < n) (hn2 : n ≤ 200) (r0 : Option Addr) (d0 : Nat) (hS : St w0 w μ Lr) (h0 : Sl μ r0 d0 ls) :
    Calls Try.prog 11 #[.slice r0 ls.length d0, .int .u8 places.toNat, .int .i64 n] w (RetM fun v w' => ∃ a c, v = .agg #[.int .i64 (madeX ls places n).N, .slice a (madeX ls places n).Edges.length c] ∧
      St w0 w' μ (Own.sl a (madeX ls places n).Edges.length c 43 4 ((madeX ls places n).Edges.flatMap edgeL) :: Lr)) := by
  have h6 := Nat.mod_lt places.toNat (show 0 < 6 by omega)
  have hpl := places.toNat_lt
  obtain ⟨N, hN⟩ : ∃ N, N = places.toNat % 6 := ⟨_, rfl⟩
  have hX : madeX ls places n = ⟨(N : Nat), if 0 < N then edgesTo N n ls (min ls.length 8) else []⟩ := by rw [hN]; rfl
  rw [← hN] at h6
  refine calls_start 100 [.slice r0 ls.length d0, .int .u8 places.toNat, .int .i64 n] Try.func11 rfl Try.ntmps11 rfl rfl ?_
  refine CW.seq fun K11 hK11 => ?_
  refine CW.region [0] rfl ?_
  refine LW.hv rfl rfl rfl rfl (Hv.alloc ti38 hS) fun v w6 ⟨b6, hv, hb6, hS⟩ => ?_
  subst hv
  refine LW.nil fun aa ha => hK11 _ _ _ ?_ aa ha
  refine CW.seq fun K12 hK12 => ?_
  refine CW.region [0, 1, 2, 3, 4, 5] rfl ?_
  refine LW.ex rfl rfl rfl rfl (Ex.move rfl) hS.rd ?_
  refine LW.ex rfl rfl rfl rfl (Ex.rem (r := (N : Int)) rfl rfl (by omega) (by rw [hN]; exact remN' _ 6 rfl)) hS.rd ?_
  refine LW.ex rfl rfl rfl rfl (Ex.conv Try.underlying5 Try.underlying3 rfl (by first | exact w64 (by omega) (by omega) | exact wu8 (by omega) (by omega))) hS.rd ?_
  refine LW.ex rfl rfl rfl rfl (Ex.buildS st38 rfl rfl rfl) hS.rd ?_
  refine LW.hv rfl rfl rfl rfl (Hv.alloc ti38 hS) fun v w7 ⟨b7, hv, hb7, hS⟩ => ?_
  subst hv
  refine LW.hu rfl rfl rfl (Hv.storeN (k := 0) ti38 hS rfl rfl rfl rfl (by simp [Value.oneCell'])) fun _ w_5 hS => ?_
  dsimp only [List.set] at hS
  refine LW.nil fun aa ha => hK12 _ _ _ ?_ aa ha
  refine CW.seq fun K13 hK13 => ?_
  refine CW.seq fun K14 hK14 => ?_
  refine CW.region [0] rfl ?_
  refine LW.ex rfl rfl rfl rfl (Ex.assign rfl) hS.rd ?_
  refine LW.nil fun aa ha => hK14 _ _ _ ?_ aa ha
  refine CW.block ?_
  have hS := nil_sl 43 4 hS
  refine CW.loop (fun qq frm wl3 => ∃ (i : Nat) (aE : Option Addr) (cE : Nat), i ≤ N ∧ qq = N - i ∧ frm = [(0, .slice r0 ls.length d0), (2, .int .i64 n), (6, .pointer (some ⟨b6, 0, none⟩)), (7, .pointer (some ⟨b7, 0, none⟩)), (8, .int .i64 i)] ∧ St w0 wl3 μ (Own.sl aE i cE 43 4 ((baseX i n).flatMap edgeL) :: Own.obj b7 [.int .i64 N, .slice aE i cE] 38 :: Own.obj b6 [.int .i64 0, .slice none 0 0] 38 :: Lr)) _ ⟨0, none, 0, (by first | omega | (simp; done) | (simp; omega)), rfl, rfl, hS⟩ ⟨rfl, rfl, rfl, rfl, rfl, trivial⟩ ?_
  clear hS
  rintro qq frm wl3 ⟨i, aE, cE, hi, hq, rfl, hS⟩
  refine CW.seq fun K15 hK15 => ?_
  refine CW.seq fun K16 hK16 => ?_
  refine CW.region [0, 1, 2, 3] rfl ?_
  refine LW.ex rfl rfl rfl rfl (Ex.move rfl) hS.rd ?_
  refine LW.ex rfl rfl rfl rfl (Ex.fieldO 0 Try.underlying38 rfl rfl ti3 rfl) hS.rd ?_
  refine LW.ex rfl rfl rfl rfl (Ex.load1 ti3 rfl rfl (by first | exact obT rfl | exact Rd.imm ‹_› | exact slT ‹_›)) hS.rd ?_
  refine LW.ex rfl rfl rfl rfl (Ex.lss rfl rfl rfl) hS.rd ?_
  refine LW.splitB (fun h3_3 => ?_) (fun h3_3 => ?_)
  · have h3_3 := of_decide_eq_true h3_3
    refine LW.nil fun aa ha => hK16 _ _ _ ?_ aa ha
    refine CW.yes rfl ?_
    refine CW.skip fun aa ha => hK15 _ _ _ ?_ aa ha
    refine CW.seq fun K17 hK17 => ?_
    refine CW.block ?_
    have hS := hS.drew
    refine CW.draw 10 (.ex 0 <| .ex 1 <| .ex 2 <| .ex 3 <| .ex 4 <| .ex 5 <| .ex 6 <| .ex 7 <| .ex 8 <| .one 9 <| .done) [10, 11, 12] (Rd _ _) mixed (by kernel_rfl) rfl rfl hS.rd ?_
    refine PW.ex rfl rfl rfl rfl (Ex.fieldO 1 Try.underlying38 rfl rfl ti36 rfl) ?_
    refine PW.ex rfl rfl rfl rfl (Ex.load1 ti36 rfl rfl (by first | exact obT rfl | exact Rd.imm ‹_› | exact slT ‹_›)) ?_
    refine PW.ex rfl rfl rfl rfl (Ex.move rfl) ?_
    refine PW.ex rfl rfl rfl rfl (Ex.move rfl) ?_
    refine PW.ex rfl rfl rfl rfl (Ex.add rfl rfl (by first | exact inc64 (by omega) | exact addN (by omega) | exact w64 (by omega) (by omega))) ?_
    refine PW.ex rfl rfl rfl rfl (Ex.move rfl) ?_
    refine PW.ex rfl rfl rfl rfl (Ex.move rfl) ?_
    refine PW.ex rfl rfl rfl rfl (Ex.rem (r := ((i % n : Nat) : Int)) rfl rfl (by omega) (remN _ _)) ?_
    refine PW.ex rfl rfl rfl rfl (Ex.buildS st43 rfl rfl rfl) ?_
    refine PW.hv rfl rfl rfl rfl (Hv.buildSl hS Try.underlying36 ti43 rfl rfl rfl rfl rfl rfl) (fun _ _ ⟨_, _, _, h⟩ => h.rd.tail) fun v w30 ⟨b30, hv, hb30, hS⟩ => ?_
    subst hv
    refine PW.nil ?_
    refine LW.hv rfl rfl rfl rfl (Hv.append (k := 1) rfl Try.underlying36 ti43 rfl hS rfl rfl rfl rfl (Rd.objAll (k := 0) rfl hS.rd) (by simp [Value.oneCell']) (by unfold maxLen; omega) (by omega)) fun v w31 ⟨ad31, c31, hv, hS⟩ => ?_
    subst hv
    dsimp only [List.set] at hS
    have hS := hS.drop 0 rfl
    dsimp only [List.eraseIdx] at hS
    rw [show (baseX i n).flatMap edgeL ++ [Value.int .i64 i, .int .i64 (i + 1 : Nat), .int .i64 (i % n : Nat), .int .i64 3] = (baseX (i + 1) n).flatMap edgeL by rw [baseX_succ, List.flatMap_append, List.flatMap_singleton]; rfl] at hS
    refine LW.ex rfl rfl rfl rfl (Ex.fieldO 1 Try.underlying38 rfl rfl ti36 rfl) hS.rd ?_
    refine LW.hu rfl rfl rfl (Hv.storeObj (k := 1) ti36 hS rfl rfl rfl rfl (by first | assumption | (simp; done) | omega | exact Nat.zero_lt_succ _)) fun _ w_12 hS => ?_
    dsimp only [List.set] at hS
    refine LW.nil fun aa ha => hK17 _ _ _ ?_ aa ha
    refine CW.region [0, 1, 2] rfl ?_
    refine LW.ex rfl rfl rfl rfl (Ex.move rfl) hS.rd ?_
    refine LW.ex rfl rfl rfl rfl (Ex.add rfl rfl (by first | exact inc64 (by omega) | exact addN (by omega) | exact w64 (by omega) (by omega))) hS.rd ?_
    refine LW.ex rfl rfl rfl rfl (Ex.assign rfl) hS.rd ?_
    refine LW.nil fun aa ha => ?_
    refine ⟨_, _, ?m3, ⟨i + 1, ad31, c31, (by first | omega | (simp; done) | (simp; omega)), rfl, rfl, hS⟩, ha.sub ⟨rfl, rfl, rfl, rfl, rfl, trivial⟩⟩
    case m3 => omega
  · have h3_3 := of_decide_eq_false h3_3
    refine LW.nil fun aa ha => hK16 _ _ _ ?_ aa ha
    refine CW.no rfl ?_
    refine CW.exit fun aa ha => hK13 _ _ _ ?_ aa ha
    refine CW.seq fun K18 hK18 => ?_
    have hie : i = N := by omega
    subst hie
    have hbl : (baseX i n).length = i := by unfold baseX; simp
    have hJ6 : ∀ (wj : World) (aF : Option Addr) (cF : Nat) (lF : Nat) (L : List Edge), St w0 wj μ (Own.sl aF lF cF 43 4 (L.flatMap edgeL) :: Own.obj b7 [.int .i64 i, .slice aF lF cF] 38 :: Own.obj b6 [.int .i64 0, .slice none 0 0] 38 :: Lr) → (L = if 0 < i then edgesTo i n ls (min ls.length 8) else []) → (lF = L.length) → KW K18 100 [(6, .pointer (some ⟨b6, 0, none⟩)), (7, .pointer (some ⟨b7, 0, none⟩))] wj := by
      intro wj aF cF lF L hS hL hlF
      refine hK18 _ _ _ ?_
      refine CW.seq fun K19 hK19 => ?_
      refine CW.region [0, 1] rfl ?_
      refine LW.ex rfl rfl rfl rfl (Ex.load2c ti38 rfl rfl (by first | exact obT rfl | exact Rd.imm ‹_› | exact slT ‹_›) (by first | exact obT rfl | exact Rd.imm ‹_› | exact slT ‹_›)) hS.rd ?_
      refine LW.hu rfl rfl rfl (Hv.storeN (k := 2) ti38 hS rfl rfl rfl rfl (by simp [Value.oneCell'])) fun _ w_1 hS => ?_
      dsimp only [List.set] at hS
      refine LW.nil fun aa ha => hK19 _ _ _ ?_ aa ha
      refine CW.ret fun aa ha => ?_
      refine ret_cell ha Try.results11 rfl ti38 rfl (fun j v hv => Rd.objAll (k := 2) rfl hS.rd j v hv) ?_
      have hS := (hS.drop 1 rfl).drop 1 rfl
      dsimp only [List.eraseIdx] at hS
      have e : (madeX ls places n).Edges = L := by rw [hX, ← hL]
      have e2 : (madeX ls places n).N = (i : Nat) := by rw [hX]
      rw [e, e2, ← hlF]
      exact ⟨_, rfl, aF, cF, rfl, hS⟩
    refine CW.seq fun K20 hK20 => ?_
    refine CW.region [0] rfl ?_
    refine LW.ex rfl rfl rfl rfl (Ex.assign rfl) hS.rd ?_
    refine LW.nil fun aa ha => hK20 _ _ _ ?_ aa ha
    refine CW.block ?_
    refine CW.loop (fun qq frm wl7 => ∃ (k : Nat) (aF : Option Addr) (cF : Nat) (lF : Nat) (L : List Edge), k ≤ ls.length ∧ k ≤ 8 ∧ (i = 0 → k = 0) ∧ lF = L.length ∧ qq = 8 - k ∧ frm = [(0, .slice r0 ls.length d0), (2, .int .i64 n), (6, .pointer (some ⟨b6, 0, none⟩)), (7, .pointer (some ⟨b7, 0, none⟩)), (9, .int .i64 k)] ∧ St w0 wl7 μ (Own.sl aF lF cF 43 4 (L.flatMap edgeL) :: Own.obj b7 [.int .i64 i, .slice aF lF cF] 38 :: Own.obj b6 [.int .i64 0, .slice none 0 0] 38 :: Lr) ∧ (L = edgesTo i n ls k)) _ ⟨0, aE, cE, i, baseX i n, (by first | omega | (simp; done) | (simp; omega)), (by first | omega | (simp; done) | (simp; omega)), (by first | omega | (simp; done) | (simp; omega)), (by first | omega | (simp; done) | (simp; omega)), rfl, rfl, hS, rfl⟩ ⟨rfl, rfl, rfl, rfl, rfl, trivial⟩ ?_
    clear hS
    rintro qq frm wl7 ⟨k, aF, cF, lF, L, hk, hk8, hk0, hlF, hq, rfl, hS, hL⟩
    refine CW.seq fun K21 hK21 => ?_
    refine CW.seq fun K22 hK22 => ?_
    refine CW.region [0, 1, 2, 3, 4, 5, 6, 7, 8, 9, 10, 11, 12] rfl ?_
    refine LW.ex rfl rfl rfl rfl (Ex.move rfl) hS.rd ?_
    refine LW.ex rfl rfl rfl rfl (Ex.move rfl) hS.rd ?_
    refine LW.ex rfl rfl rfl rfl (Ex.lenSl rfl Try.underlying22 rfl) hS.rd ?_
    refine LW.ex rfl rfl rfl rfl (Ex.lss rfl rfl rfl) hS.rd ?_
    refine LW.splitB (fun h7_3 => ?_) (fun h7_3 => ?_)
    · have h7_3 := of_decide_eq_true h7_3
      refine LW.ex rfl rfl rfl rfl (Ex.move rfl) hS.rd ?_
      refine LW.ex rfl rfl rfl rfl (Ex.move rfl) hS.rd ?_
      refine LW.ex rfl rfl rfl rfl (Ex.lss rfl rfl rfl) hS.rd ?_
      refine LW.splitB (fun h7_6 => ?_) (fun h7_6 => ?_)
      · have h7_6 := of_decide_eq_true h7_6
        refine LW.ex rfl rfl rfl rfl (by first | exact Ex.pick_yes rfl rfl | exact Ex.pick_no rfl rfl) hS.rd ?_
        refine LW.ex rfl rfl rfl rfl (Ex.move rfl) hS.rd ?_
        refine LW.ex rfl rfl rfl rfl (Ex.fieldO 0 Try.underlying38 rfl rfl ti3 rfl) hS.rd ?_
        refine LW.ex rfl rfl rfl rfl (Ex.load1 ti3 rfl rfl (by first | exact obT rfl | exact Rd.imm ‹_› | exact slT ‹_›)) hS.rd ?_
        refine LW.ex rfl rfl rfl rfl (Ex.gtr rfl rfl rfl) hS.rd ?_
        refine LW.splitB (fun h7_11 => ?_) (fun h7_11 => ?_)
        · have h7_11 := of_decide_eq_true h7_11
          refine LW.ex rfl rfl rfl rfl (by first | exact Ex.pick_yes rfl rfl | exact Ex.pick_no rfl rfl) hS.rd ?_
          refine LW.nil fun aa ha => hK22 _ _ _ ?_ aa ha
          refine CW.yes rfl ?_
          refine CW.skip fun aa ha => hK21 _ _ _ ?_ aa ha
          refine CW.seq fun K23 hK23 => ?_
          refine CW.block ?_
          refine CW.seq fun K24 hK24 => ?_
          have hk2 : k < ls.length := by omega
          have hi0 : 0 < i := by omega
          obtain ⟨bl', ol, rfl, k0, k1, k2, k3⟩ := h0.at hk2
          have g1 := edgeOf_good hi0 hn ls[k]
          have hu1 := ls[k].a.toNat_lt
          have hu2 := ls[k].b.toNat_lt
          have hu3 := ls[k].c.toNat_lt
          have hu4 := ls[k].d.toNat_lt
          have m1 := Nat.mod_lt ls[k].a.toNat hi0
          have m2 := Nat.mod_lt ls[k].b.toNat (show 0 < i - ls[k].a.toNat % i by omega)
          have m3 := Nat.mod_lt ls[k].c.toNat hn
          have m4 := Nat.mod_lt ls[k].d.toNat (show 0 < 32 by omega)
          have hok := edgesTo_ok hi0 hn ls k hk
          rw [← hL] at hok
          have hS := hS.drew
          refine CW.draw 26 (.ex 0 <| .ex 1 <| .ex 2 <| .ex 3 <| .ex 4 <| .ex 5 <| .ex 6 <| .ex 7 <| .ex 8 <| .ex 9 <| .ex 10 <| .ex 11 <| .ex 12 <| .ex 13 <| .ex 14 <| .ex 15 <| .ex 16 <| .ex 17 <| .ex 18 <| .ex 19 <| .ex 20 <| .ex 21 <| .ex 22 <| .ex 23 <| .ex 24 <| .one 25 <| .done) [26] (Rd _ _) mixed (by kernel_rfl) rfl rfl hS.rd ?_
          refine PW.ex rfl rfl rfl rfl (Ex.move rfl) ?_
          refine PW.ex rfl rfl rfl rfl (Ex.move rfl) ?_
          refine PW.ex rfl rfl rfl rfl (Ex.indexSl Try.underlying22 ti88 rfl rfl rfl (by omega)) ?_
          refine PW.ex rfl rfl rfl rfl (Ex.indexArr (j := 0) Try.underlying88 ti5 rfl rfl rfl (by omega)) ?_
          refine PW.ex rfl rfl rfl rfl (Ex.load1 ti5 rfl rfl (by first | exact obT rfl | exact Rd.imm ‹_› | exact slT ‹_›)) ?_
          refine PW.ex rfl rfl rfl rfl (Ex.conv Try.underlying5 Try.underlying3 rfl (by first | exact w64 (by omega) (by omega) | exact wu8 (by omega) (by omega))) ?_
          refine PW.ex rfl rfl rfl rfl (Ex.fieldO 0 Try.underlying38 rfl rfl ti3 rfl) ?_
          refine PW.ex rfl rfl rfl rfl (Ex.load1 ti3 rfl rfl (by first | exact obT rfl | exact Rd.imm ‹_› | exact slT ‹_›)) ?_
          refine PW.ex rfl rfl rfl rfl (Ex.rem (r := ((ls[k].a.toNat % i : Nat) : Int)) rfl rfl (by omega) (remN _ _)) ?_
          refine PW.ex rfl rfl rfl rfl (Ex.move rfl) ?_
          refine PW.ex rfl rfl rfl rfl (Ex.move rfl) ?_
          refine PW.ex rfl rfl rfl rfl (Ex.indexSl Try.underlying22 ti88 rfl rfl rfl (by omega)) ?_
          refine PW.ex rfl rfl rfl rfl (Ex.indexArr (j := 2) Try.underlying88 ti5 rfl rfl rfl (by omega)) ?_
          refine PW.ex rfl rfl rfl rfl (Ex.load1 ti5 rfl rfl (by first | exact obT rfl | exact Rd.imm ‹_› | exact slT ‹_›)) ?_
          refine PW.ex rfl rfl rfl rfl (Ex.conv Try.underlying5 Try.underlying3 rfl (by first | exact w64 (by omega) (by omega) | exact wu8 (by omega) (by omega))) ?_
          refine PW.ex rfl rfl rfl rfl (Ex.move rfl) ?_
          refine PW.ex rfl rfl rfl rfl (Ex.rem (r := ((ls[k].c.toNat % n : Nat) : Int)) rfl rfl (by omega) (remN _ _)) ?_
          refine PW.ex rfl rfl rfl rfl (Ex.move rfl) ?_
          refine PW.ex rfl rfl rfl rfl (Ex.move rfl) ?_
          refine PW.ex rfl rfl rfl rfl (Ex.indexSl Try.underlying22 ti88 rfl rfl rfl (by omega)) ?_
          refine PW.ex rfl rfl rfl rfl (Ex.indexArr (j := 3) Try.underlying88 ti5 rfl rfl rfl (by omega)) ?_
          refine PW.ex rfl rfl rfl rfl (Ex.load1 ti5 rfl rfl (by first | exact obT rfl | exact Rd.imm ‹_› | exact slT ‹_›)) ?_
          refine PW.ex rfl rfl rfl rfl (Ex.rem (r := ((ls[k].d.toNat % 32 : Nat) : Int)) rfl rfl (by omega) (remN' _ 32 rfl)) ?_
          refine PW.ex rfl rfl rfl rfl (Ex.conv Try.underlying5 Try.underlying3 rfl (by first | exact w64 (by omega) (by omega) | exact wu8 (by omega) (by omega))) ?_
          refine PW.ex rfl rfl rfl rfl (Ex.buildS st43 rfl rfl rfl) ?_
          refine PW.hv rfl rfl rfl rfl (Hv.alloc ti43 hS) (fun _ _ ⟨_, _, _, h⟩ => h.rd.tail) fun v w10 ⟨b10, hv, hb10, hS⟩ => ?_
          subst hv
          refine PW.nil ?_
          refine LW.hu rfl rfl rfl (Hv.storeN (k := 0) ti43 hS rfl rfl rfl rfl (by simp [Value.oneCell'])) fun _ w_26 hS => ?_
          dsimp only [List.set] at hS
          refine LW.nil fun aa ha => hK24 _ _ _ ?_ aa ha
          refine CW.seq fun K25 hK25 => ?_
          have hS := hS.drew
          refine CW.draw 17 (.ex 0 <| .ex 1 <| .ex 2 <| .ex 3 <| .ex 4 <| .ex 5 <| .ex 6 <| .ex 7 <| .ex 8 <| .ex 9 <| .ex 10 <| .ex 11 <| .ex 12 <| .ex 13 <| .ex 14 <| .ex 15 <| .ex 16 <| .done) [17] (Rd _ _) mixed (by kernel_rfl) rfl rfl hS.rd ?_
          refine PW.ex rfl rfl rfl rfl (Ex.fieldO 0 Try.underlying43 rfl rfl ti3 rfl) ?_
          refine PW.ex rfl rfl rfl rfl (Ex.load1 ti3 rfl rfl (by first | exact obT rfl | exact Rd.imm ‹_› | exact slT ‹_›)) ?_
          refine PW.ex rfl rfl rfl rfl (Ex.add rfl rfl (by first | exact inc64 (by omega) | exact addN (by omega) | exact w64 (by omega) (by omega))) ?_
          refine PW.ex rfl rfl rfl rfl (Ex.move rfl) ?_
          refine PW.ex rfl rfl rfl rfl (Ex.move rfl) ?_
          refine PW.ex rfl rfl rfl rfl (Ex.indexSl Try.underlying22 ti88 rfl rfl rfl (by omega)) ?_
          refine PW.ex rfl rfl rfl rfl (Ex.indexArr (j := 1) Try.underlying88 ti5 rfl rfl rfl (by omega)) ?_
          refine PW.ex rfl rfl rfl rfl (Ex.load1 ti5 rfl rfl (by first | exact obT rfl | exact Rd.imm ‹_› | exact slT ‹_›)) ?_
          refine PW.ex rfl rfl rfl rfl (Ex.conv Try.underlying5 Try.underlying3 rfl (by first | exact w64 (by omega) (by omega) | exact wu8 (by omega) (by omega))) ?_
          refine PW.ex rfl rfl rfl rfl (Ex.fieldO 0 Try.underlying38 rfl rfl ti3 rfl) ?_
          refine PW.ex rfl rfl rfl rfl (Ex.load1 ti3 rfl rfl (by first | exact obT rfl | exact Rd.imm ‹_› | exact slT ‹_›)) ?_
          refine PW.ex rfl rfl rfl rfl (Ex.fieldO 0 Try.underlying43 rfl rfl ti3 rfl) ?_
          refine PW.ex rfl rfl rfl rfl (Ex.load1 ti3 rfl rfl (by first | exact obT rfl | exact Rd.imm ‹_› | exact slT ‹_›)) ?_
          refine PW.ex rfl rfl rfl rfl (Ex.sub (r := ((i - ls[k].a.toNat % i : Nat) : Int)) rfl rfl (by rw [w64 (by omega) (by omega)]; omega)) ?_
          refine PW.ex rfl rfl rfl rfl (Ex.rem (r := ((ls[k].b.toNat % (i - ls[k].a.toNat % i) : Nat) : Int)) rfl rfl (by omega) (remN _ _)) ?_
          refine PW.ex rfl rfl rfl rfl (Ex.add (r := ((ls[k].a.toNat % i + 1 + ls[k].b.toNat % (i - ls[k].a.toNat % i) : Nat) : Int)) rfl rfl (by rw [w64 (by omega) (by omega)]; omega)) ?_
          refine PW.ex rfl rfl rfl rfl (Ex.fieldO 1 Try.underlying43 rfl rfl ti3 rfl) ?_
          refine PW.nil ?_
          refine LW.hu rfl rfl rfl (Hv.storeObj (k := 0) ti3 hS rfl rfl rfl rfl (by first | assumption | (simp; done) | omega | exact Nat.zero_lt_succ _)) fun _ w_17 hS => ?_
          dsimp only [List.set] at hS
          refine LW.nil fun aa ha => hK25 _ _ _ ?_ aa ha
          refine CW.seq fun K26 hK26 => ?_
          subst hlF
          refine CW.region [0, 1, 2, 3] rfl ?_
          refine LW.ex rfl rfl rfl rfl (Ex.load2c ti38 rfl rfl (by first | exact obT rfl | exact Rd.imm ‹_› | exact slT ‹_›) (by first | exact obT rfl | exact Rd.imm ‹_› | exact slT ‹_›)) hS.rd ?_
          refine LW.ex rfl rfl rfl rfl (Ex.load4c ti43 rfl rfl (by first | exact obT rfl | exact Rd.imm ‹_› | exact slT ‹_›) (by first | exact obT rfl | exact Rd.imm ‹_› | exact slT ‹_›) (by first | exact obT rfl | exact Rd.imm ‹_› | exact slT ‹_›) (by first | exact obT rfl | exact Rd.imm ‹_› | exact slT ‹_›)) hS.rd ?_
          refine LW.hv rfl rfl rfl rfl (Hv.callS hS rfl rfl rfl cb31 (findE_c ⟨(i : Nat), L⟩ (edgeOf i n ls[k]) _ _ (memOf _) _ (imm_memOf _) (hS.lend_sl 1 rfl (edgeReps _ L) rfl))) fun v w92 ⟨hv, hS⟩ => ?_
          subst hv
          refine LW.ex rfl rfl rfl rfl (Ex.lss rfl rfl rfl) hS.rd ?_
          refine LW.splitB (fun h11_3 => ?_) (fun h11_3 => ?_)
          · have h11_3 := of_decide_eq_true h11_3
            refine LW.nil fun aa ha => hK26 _ _ _ ?_ aa ha
            refine CW.yes rfl ?_
            have hany := firstI_any (sameE (edgeOf i n ls[k])) L
            rw [decide_eq_false (Int.not_le.2 h11_3)] at hany
            refine CW.region [0, 1, 2, 3, 4, 5] rfl ?_
            refine LW.ex rfl rfl rfl rfl (Ex.fieldO 1 Try.underlying38 rfl rfl ti36 rfl) hS.rd ?_
            refine LW.ex rfl rfl rfl rfl (Ex.load1 ti36 rfl rfl (by first | exact obT rfl | exact Rd.imm ‹_› | exact slT ‹_›)) hS.rd ?_
            refine LW.ex rfl rfl rfl rfl (Ex.load4c ti43 rfl rfl (by first | exact obT rfl | exact Rd.imm ‹_› | exact slT ‹_›) (by first | exact obT rfl | exact Rd.imm ‹_› | exact slT ‹_›) (by first | exact obT rfl | exact Rd.imm ‹_› | exact slT ‹_›) (by first | exact obT rfl | exact Rd.imm ‹_› | exact slT ‹_›)) hS.rd ?_
            have hS := hS.swap
            refine LW.hv rfl rfl rfl rfl (Hv.callM rfl rfl rfl cb32 (insE_m (edgeOf i n ls[k]) hS rfl (by omega))) fun v w97 ⟨ad97, c97, hv, hS⟩ => ?_
            subst hv
            have hS := hS.drop 1 rfl
            dsimp only [List.eraseIdx] at hS
            have hS := hS.swap
            refine LW.ex rfl rfl rfl rfl (Ex.fieldO 1 Try.underlying38 rfl rfl ti36 rfl) hS.rd ?_
            refine LW.hu rfl rfl rfl (Hv.storeObj (k := 2) ti36 hS rfl rfl rfl rfl (by first | assumption | (simp; done) | omega | exact Nat.zero_lt_succ _)) fun _ w_5 hS => ?_
            dsimp only [List.set] at hS
            refine LW.nil fun aa ha => hK23 _ _ _ ?_ aa ha
            refine CW.region [0, 1, 2] rfl ?_
            refine LW.ex rfl rfl rfl rfl (Ex.move rfl) hS.rd ?_
            refine LW.ex rfl rfl rfl rfl (Ex.add rfl rfl (by first | exact inc64 (by omega) | exact addN (by omega) | exact w64 (by omega) (by omega))) hS.rd ?_
            refine LW.ex rfl rfl rfl rfl (Ex.assign rfl) hS.rd ?_
            refine LW.nil fun aa ha => ?_
            have hS := hS.drop 0 rfl
            dsimp only [List.eraseIdx] at hS
            refine ⟨_, _, ?m7, ⟨k + 1, ad97, c97, (insE (edgeOf i n ls[k]) L).length, insE (edgeOf i n ls[k]) L, (by first | omega | (simp; done) | (simp; omega)), (by first | omega | (simp; done) | (simp; omega)), (by first | omega | (simp; done) | (simp; omega)), (by first | omega | (simp; done) | (simp; omega)), rfl, rfl, hS, by rw [edgesTo_succ hk2, ← hL, addE, if_neg (by rw [← hany]; decide)]⟩, ha.sub ⟨rfl, rfl, rfl, rfl, rfl, trivial⟩⟩
            case m7 => omega
          · have h11_3 := of_decide_eq_false h11_3
            refine LW.nil fun aa ha => hK26 _ _ _ ?_ aa ha
            refine CW.no rfl ?_
            refine CW.skip fun aa ha => hK23 _ _ _ ?_ aa ha
            refine CW.region [0, 1, 2] rfl ?_
            refine LW.ex rfl rfl rfl rfl (Ex.move rfl) hS.rd ?_
            refine LW.ex rfl rfl rfl rfl (Ex.add rfl rfl (by first | exact inc64 (by omega) | exact addN (by omega) | exact w64 (by omega) (by omega))) hS.rd ?_
            refine LW.ex rfl rfl rfl rfl (Ex.assign rfl) hS.rd ?_
            refine LW.nil fun aa ha => ?_
            have hS := hS.drop 0 rfl
            dsimp only [List.eraseIdx] at hS
            have hany := firstI_any (sameE (edgeOf i n ls[k])) L
            rw [decide_eq_true (Int.not_lt.1 h11_3)] at hany
            refine ⟨_, _, ?m7, ⟨k + 1, aF, cF, L.length, L, (by first | omega | (simp; done) | (simp; omega)), (by first | omega | (simp; done) | (simp; omega)), (by first | omega | (simp; done) | (simp; omega)), (by first | omega | (simp; done) | (simp; omega)), rfl, rfl, hS, by rw [edgesTo_succ hk2, ← hL, addE, if_pos hany.symm]⟩, ha.sub ⟨rfl, rfl, rfl, rfl, rfl, trivial⟩⟩
            case m7 => omega
        · have h7_11 := of_decide_eq_false h7_11
          refine LW.ex rfl rfl rfl rfl (by first | exact Ex.pick_yes rfl rfl | exact Ex.pick_no rfl rfl) hS.rd ?_
          refine LW.nil fun aa ha => hK22 _ _ _ ?_ aa ha
          refine CW.no rfl ?_
          refine CW.exit fun aa ha => ?_
          refine hJ6 _ (aF) (cF) (lF) (L) hS (by rw [if_neg (by omega), hL, show i = 0 by omega, show k = 0 by omega]; rfl) (hlF) aa (ha.sub ⟨rfl, rfl, trivial⟩)
      · have h7_6 := of_decide_eq_false h7_6
        refine LW.ex rfl rfl rfl rfl (by first | exact Ex.pick_yes rfl rfl | exact Ex.pick_no rfl rfl) hS.rd ?_
        refine LW.ex rfl rfl rfl rfl (Ex.move rfl) hS.rd ?_
        refine LW.skip rfl rfl rfl rfl ?_
        refine LW.skip rfl rfl rfl rfl ?_
        refine LW.skip rfl rfl rfl rfl ?_
        refine LW.ex rfl rfl rfl rfl (by first | exact Ex.pick_yes rfl rfl | exact Ex.pick_no rfl rfl) hS.rd ?_
        refine LW.nil fun aa ha => hK22 _ _ _ ?_ aa ha
        refine CW.no rfl ?_
        refine CW.exit fun aa ha => ?_
        refine hJ6 _ (aF) (cF) (lF) (L) hS (by by_cases h0 : 0 < i; (· rw [if_pos h0, hL, show min ls.length 8 = k by omega]); (· rw [if_neg h0, hL, show i = 0 by omega, show k = 0 by omega]; rfl)) (hlF) aa (ha.sub ⟨rfl, rfl, trivial⟩)
    · have h7_3 := of_decide_eq_false h7_3
      refine LW.ex rfl rfl rfl rfl (Ex.move rfl) hS.rd ?_
      refine LW.skip rfl rfl rfl rfl ?_
      refine LW.skip rfl rfl rfl rfl ?_
      refine LW.ex rfl rfl rfl rfl (by first | exact Ex.pick_yes rfl rfl | exact Ex.pick_no rfl rfl) hS.rd ?_
      refine LW.ex rfl rfl rfl rfl (Ex.move rfl) hS.rd ?_
      refine LW.skip rfl rfl rfl rfl ?_
      refine LW.skip rfl rfl rfl rfl ?_
      refine LW.skip rfl rfl rfl rfl ?_
      refine LW.ex rfl rfl rfl rfl (by first | exact Ex.pick_yes rfl rfl | exact Ex.pick_no rfl rfl) hS.rd ?_
      refine LW.nil fun aa ha => hK22 _ _ _ ?_ aa ha
      refine CW.no rfl ?_
      refine CW.exit fun aa ha => ?_
      refine hJ6 _ (aF) (cF) (lF) (L) hS (by by_cases h0 : 0 < i; (· rw [if_pos h0, hL, show min ls.length 8 = k by omega]); (· rw [if_neg h0, hL, show i = 0 by omega, show k = 0 by omega]; rfl)) (hlF) aa (ha.sub ⟨rfl, rfl, trivial⟩)
end Go.Proofs.Ytgnpjhellmfhoaa

/-
  Context: the reference's ways: in plain Lean, and the walk.
-/
namespace Go.Proofs.Ytgnpjhellmfhoaa
open Go.RowKit Sy

/-! ### A way of a lattice -/
def isWay (x : Lat) : Int → List Nat → Prop
  | at_, [] => at_ = x.N
  | at_, k :: r => k < x.Edges.length ∧ (edAt x k).From = at_ ∧ isWay x (edAt x k).To r
/-- What a way costs. -/
def wsum (x : Lat) (m : Mdl) : Int → List Nat → Int
  | _, [] => 0
  | p, k :: r => (edAt x k).Cost + pairC m p (edAt x k).Word + wsum x m (edAt x k).Word r
theorem costGo_way (x : Lat) (m : Mdl) : ∀ (es : List Nat) (at_ p s : Int), isWay x at_ es → costGo x m at_ p s (es.map fun (k : Nat) => (k : Int)) = (s + wsum x m p es, true)
  | [], at_, p, s, h => by
    have h' : at_ = x.N := h
    simp only [List.map_nil, costGo, if_pos h', wsum, Int.add_zero]
  | k :: r, at_, p, s, h => by
    obtain ⟨h1, h2, h3⟩ := h
    simp only [List.map_cons, costGo, Int.toNat_natCast]
    rw [if_pos ⟨by omega, by omega, h2⟩, costGo_way x m r _ _ _ h3, wsum]
    congr 1
    omega
end Go.Proofs.Ytgnpjhellmfhoaa
