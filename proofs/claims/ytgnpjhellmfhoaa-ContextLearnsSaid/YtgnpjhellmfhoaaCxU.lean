/-
  Context: the walks of the references' inserting: words, pairs, edges.
-/
import Derived.Test.YtgnpjhellmfhoaaCxT
import Derived.Test.YtgnpjhellmfhoaaCxK
import Derived.Test.YtgnpjhellmfhoaaInG
import Derived.Test.YtgnpjhellmfhoaaFun
namespace Go.Proofs.Ytgnpjhellmfhoaa
open Go.RowKit Sy


theorem RepL.strs (μ : Mem) : ∀ xs : List ByteArray, RepL μ (xs.map Value.string) xs := fun xs =>
  ⟨by show _ = xs.length * 1; simp, fun i hi => by show (if 0 < 1 then _ else _) = _; simp; show xs[i * 1]? = _; simp [hi]⟩
def insS (s : ByteArray) : List ByteArray → List ByteArray := insG (fun q => sLt s q) (fun q => s == q) id s false
set_option maxRecDepth 100000 in
set_option maxHeartbeats 1000000 in
theorem insS_c (L : List ByteArray) (s : ByteArray) (hb : L.length ≤ 1000000) (ad0 : Option Addr) (c0 : Nat) (μ : Mem) (w : World) (hμ : Imm μ w) (hl : Sl μ ad0 c0 L) :
    Calls Try.prog 28 #[.slice ad0 L.length c0, .string s] w (RetV w μ (IsSl (insS s L))) := by
  have hS := St.start w μ hμ
  refine calls_start 52 [.slice ad0 L.length c0, .string s] Try.func28 rfl Try.ntmps28 rfl rfl ?_
  refine CW.seq fun K1 hK1 => ?_
  refine CW.region [0] rfl ?_
  refine LW.ex rfl rfl rfl rfl (Ex.assign rfl) hS.rd ?_
  refine LW.nil fun aa ha => hK1 _ _ _ ?_ aa ha
  refine CW.seq fun K2 hK2 => ?_
  refine CW.region [0, 1, 2] rfl ?_
  refine LW.hv rfl rfl rfl rfl (Hv.buildSl hS Try.underlying30 ti9 rfl rfl rfl rfl rfl rfl) fun v w8 ⟨b8, hv, hb8, hS⟩ => ?_
  subst hv
  refine LW.ex rfl rfl rfl rfl (Ex.assign rfl) hS.rd ?_
  refine LW.ex rfl rfl rfl rfl (Ex.assign rfl) hS.rd ?_
  refine LW.nil fun aa ha => hK2 _ _ _ ?_ aa ha
  refine CW.seq fun K3 hK3 => ?_
  refine CW.seq fun K4 hK4 => ?_
  refine CW.region [0] rfl ?_
  refine LW.ex rfl rfl rfl rfl (Ex.assign rfl) hS.rd ?_
  refine LW.nil fun aa ha => hK4 _ _ _ ?_ aa ha
  refine CW.block ?_
  have hS : St w _ μ (_ :: _) := hS.row_sl (k := 0) rfl 0 1 rfl (by simp [maxLen])
  refine CW.loop (fun qq frm wl3 => ∃ (i : Nat) (ad : Option Addr) (c : Nat) (l : Nat) (ls : List ByteArray) (d : Bool), i ≤ L.length ∧ l = ls.length ∧ l ≤ 2 * i ∧ qq = L.length - i ∧ frm = [(0, .slice ad0 L.length c0), (1, .string s), (5, .slice ad l c), (6, .bool d), (7, .int .i64 i)] ∧ St w wl3 μ [Own.sl ad l c 9 1 (ls.map Value.string)] ∧ (insS s L = ls ++ insG (fun q => sLt s q) (fun q => s == q) id s d (L.drop i))) _ ⟨0, some ⟨b8, 0, none⟩, 0, 0, [], false, (by first | omega | (simp; done) | (simp; omega)), (by first | omega | (simp; done) | (simp; omega)), (by first | omega | (simp; done) | (simp; omega)), rfl, rfl, hS, rfl⟩ ⟨rfl, rfl, rfl, rfl, rfl, trivial⟩ ?_
  clear hS
  rintro qq frm wl3 ⟨i, ad, c, l, ls, d, hi, hll, hlb, hq, rfl, hS, hG⟩
  refine CW.seq fun K5 hK5 => ?_
  refine CW.seq fun K6 hK6 => ?_
  refine CW.region [0, 1, 2, 3] rfl ?_
  refine LW.ex rfl rfl rfl rfl (Ex.move rfl) hS.rd ?_
  refine LW.ex rfl rfl rfl rfl (Ex.move rfl) hS.rd ?_
  refine LW.ex rfl rfl rfl rfl (Ex.lenSl rfl Try.underlying30 rfl) hS.rd ?_
  refine LW.ex rfl rfl rfl rfl (Ex.lss rfl rfl rfl) hS.rd ?_
  refine LW.splitB (fun h3_3 => ?_) (fun h3_3 => ?_)
  · have h3_3 := of_decide_eq_true h3_3
    refine LW.nil fun aa ha => hK6 _ _ _ ?_ aa ha
    refine CW.yes rfl ?_
    refine CW.skip fun aa ha => hK5 _ _ _ ?_ aa ha
    refine CW.seq fun K7 hK7 => ?_
    refine CW.block ?_
    refine CW.seq fun K8 hK8 => ?_
    refine CW.seq fun K9 hK9 => ?_
    have hi2 : i < L.length := by omega
    rw [drop_cons hi2, insG] at hG
    obtain ⟨bl', ol, rfl, k0⟩ := hl.at hi2
    refine CW.region [0, 1, 2, 3, 4, 5, 6, 7, 8, 9] rfl ?_
    refine LW.ex rfl rfl rfl rfl (Ex.move rfl) hS.rd ?_
    refine LW.splitB (fun h5_0 => ?_) (fun h5_0 => ?_)
    · subst h5_0
      refine LW.ex rfl rfl rfl rfl (Ex.not rfl rfl) hS.rd ?_
      refine LW.ex rfl rfl rfl rfl (Ex.move rfl) hS.rd ?_
      refine LW.skip rfl rfl rfl rfl ?_
      refine LW.skip rfl rfl rfl rfl ?_
      refine LW.skip rfl rfl rfl rfl ?_
      refine LW.skip rfl rfl rfl rfl ?_
      refine LW.skip rfl rfl rfl rfl ?_
      refine LW.skip rfl rfl rfl rfl ?_
      refine LW.ex rfl rfl rfl rfl (by first | exact Ex.pick_yes rfl rfl | exact Ex.pick_no rfl rfl) hS.rd ?_
      refine LW.nil fun aa ha => hK9 _ _ _ ?_ aa ha
      refine CW.no rfl ?_
      refine CW.skip fun aa ha => hK8 _ _ _ ?_ aa ha
      refine CW.seq fun K10 hK10 => ?_
      refine CW.region [0, 1, 2, 3, 4, 5, 6, 7, 8, 9] rfl ?_
      refine LW.ex rfl rfl rfl rfl (Ex.move rfl) hS.rd ?_
      refine LW.ex rfl rfl rfl rfl (Ex.move rfl) hS.rd ?_
      refine LW.skip rfl rfl rfl rfl ?_
      refine LW.skip rfl rfl rfl rfl ?_
      refine LW.skip rfl rfl rfl rfl ?_
      refine LW.skip rfl rfl rfl rfl ?_
      refine LW.skip rfl rfl rfl rfl ?_
      refine LW.skip rfl rfl rfl rfl ?_
      refine LW.ex rfl rfl rfl rfl (by first | exact Ex.pick_yes rfl rfl | exact Ex.pick_no rfl rfl) hS.rd ?_
      refine LW.ex rfl rfl rfl rfl (Ex.assign rfl) hS.rd ?_
      refine LW.nil fun aa ha => hK10 _ _ _ ?_ aa ha
      refine CW.region [0, 1, 2, 3, 4, 5, 6, 7] rfl ?_
      refine LW.ex rfl rfl rfl rfl (Ex.move rfl) hS.rd ?_
      refine LW.ex rfl rfl rfl rfl (Ex.move rfl) hS.rd ?_
      refine LW.ex rfl rfl rfl rfl (Ex.move rfl) hS.rd ?_
      refine LW.ex rfl rfl rfl rfl (Ex.indexSl Try.underlying30 ti9 rfl rfl rfl (by omega)) hS.rd ?_
      refine LW.ex rfl rfl rfl rfl (Ex.load1 ti9 rfl rfl (by first | exact obT rfl | exact Rd.imm ‹_› | exact slT ‹_›)) hS.rd ?_
      refine LW.hv rfl rfl rfl rfl (Hv.buildSl hS Try.underlying30 ti9 rfl rfl rfl rfl rfl rfl) fun v w43 ⟨b43, hv, hb43, hS⟩ => ?_
      subst hv
      refine LW.hv rfl rfl rfl rfl (Hv.append (k := 1) rfl Try.underlying30 ti9 rfl hS rfl rfl rfl rfl (Rd.objAll (k := 0) rfl hS.rd) (by simp [Value.oneCell']) (by unfold maxLen; omega) (by omega)) fun v w44 ⟨ad44, c44, hv, hS⟩ => ?_
      subst hv
      dsimp only [List.set] at hS
      have hS := hS.drop 0 rfl
      dsimp only [List.eraseIdx] at hS
      rw [show ls.map Value.string ++ [Value.string L[i]] = (ls ++ [L[i]]).map Value.string by rw [List.map_append]; rfl] at hS
      refine LW.ex rfl rfl rfl rfl (Ex.assign rfl) hS.rd ?_
      refine LW.nil fun aa ha => hK7 _ _ _ ?_ aa ha
      refine CW.region [0, 1, 2] rfl ?_
      refine LW.ex rfl rfl rfl rfl (Ex.move rfl) hS.rd ?_
      refine LW.ex rfl rfl rfl rfl (Ex.add rfl rfl (by first | exact inc64 (by omega) | exact addN (by omega) | exact w64 (by omega) (by omega))) hS.rd ?_
      refine LW.ex rfl rfl rfl rfl (Ex.assign rfl) hS.rd ?_
      refine LW.nil fun aa ha => ?_
      refine ⟨_, _, ?m3, ⟨i + 1, ad44, c44, l + 1, ls ++ [L[i]], true, (by first | omega | (simp; done) | (simp; omega)), (by first | omega | (simp; done) | (simp; omega)), (by first | omega | (simp; done) | (simp; omega)), rfl, rfl, hS, by rw [hG]; simp_all⟩, ha.sub ⟨rfl, rfl, rfl, rfl, rfl, trivial⟩⟩
      case m3 => omega
    · subst h5_0
      refine LW.ex rfl rfl rfl rfl (Ex.not rfl rfl) hS.rd ?_
      refine LW.ex rfl rfl rfl rfl (Ex.move rfl) hS.rd ?_
      refine LW.ex rfl rfl rfl rfl (Ex.move rfl) hS.rd ?_
      refine LW.ex rfl rfl rfl rfl (Ex.move rfl) hS.rd ?_
      refine LW.ex rfl rfl rfl rfl (Ex.move rfl) hS.rd ?_
      refine LW.ex rfl rfl rfl rfl (Ex.indexSl Try.underlying30 ti9 rfl rfl rfl (by omega)) hS.rd ?_
      refine LW.ex rfl rfl rfl rfl (Ex.load1 ti9 rfl rfl (by first | exact obT rfl | exact Rd.imm ‹_› | exact slT ‹_›)) hS.rd ?_
      refine LW.ex rfl rfl rfl rfl (Ex.lssS rfl rfl rfl) hS.rd ?_
      refine LW.splitB (fun h5_8 => ?_) (fun h5_8 => ?_)
      · skip
        refine LW.ex rfl rfl rfl rfl (by first | exact Ex.pick_yes rfl rfl | exact Ex.pick_no rfl rfl) hS.rd ?_
        refine LW.nil fun aa ha => hK9 _ _ _ ?_ aa ha
        refine CW.yes rfl ?_
        refine CW.region [0, 1, 2, 3, 4, 5] rfl ?_
        refine LW.ex rfl rfl rfl rfl (Ex.move rfl) hS.rd ?_
        refine LW.ex rfl rfl rfl rfl (Ex.move rfl) hS.rd ?_
        refine LW.hv rfl rfl rfl rfl (Hv.buildSl hS Try.underlying30 ti9 rfl rfl rfl rfl rfl rfl) fun v w27 ⟨b27, hv, hb27, hS⟩ => ?_
        subst hv
        refine LW.hv rfl rfl rfl rfl (Hv.append (k := 1) rfl Try.underlying30 ti9 rfl hS rfl rfl rfl rfl (Rd.objAll (k := 0) rfl hS.rd) (by simp [Value.oneCell']) (by unfold maxLen; omega) (by omega)) fun v w28 ⟨ad28, c28, hv, hS⟩ => ?_
        subst hv
        dsimp only [List.set] at hS
        have hS := hS.drop 0 rfl
        dsimp only [List.eraseIdx] at hS
        rw [show ls.map Value.string ++ [Value.string s] = (ls ++ [s]).map Value.string by rw [List.map_append]; rfl] at hS
        refine LW.ex rfl rfl rfl rfl (Ex.assign rfl) hS.rd ?_
        refine LW.ex rfl rfl rfl rfl (Ex.assign rfl) hS.rd ?_
        refine LW.nil fun aa ha => hK8 _ _ _ ?_ aa ha
        refine CW.seq fun K11 hK11 => ?_
        refine CW.region [0, 1, 2, 3, 4, 5, 6, 7, 8, 9] rfl ?_
        refine LW.ex rfl rfl rfl rfl (Ex.move rfl) hS.rd ?_
        refine LW.ex rfl rfl rfl rfl (Ex.move rfl) hS.rd ?_
        refine LW.skip rfl rfl rfl rfl ?_
        refine LW.skip rfl rfl rfl rfl ?_
        refine LW.skip rfl rfl rfl rfl ?_
        refine LW.skip rfl rfl rfl rfl ?_
        refine LW.skip rfl rfl rfl rfl ?_
        refine LW.skip rfl rfl rfl rfl ?_
        refine LW.ex rfl rfl rfl rfl (by first | exact Ex.pick_yes rfl rfl | exact Ex.pick_no rfl rfl) hS.rd ?_
        refine LW.ex rfl rfl rfl rfl (Ex.assign rfl) hS.rd ?_
        refine LW.nil fun aa ha => hK11 _ _ _ ?_ aa ha
        refine CW.region [0, 1, 2, 3, 4, 5, 6, 7] rfl ?_
        refine LW.ex rfl rfl rfl rfl (Ex.move rfl) hS.rd ?_
        refine LW.ex rfl rfl rfl rfl (Ex.move rfl) hS.rd ?_
        refine LW.ex rfl rfl rfl rfl (Ex.move rfl) hS.rd ?_
        refine LW.ex rfl rfl rfl rfl (Ex.indexSl Try.underlying30 ti9 rfl rfl rfl (by omega)) hS.rd ?_
        refine LW.ex rfl rfl rfl rfl (Ex.load1 ti9 rfl rfl (by first | exact obT rfl | exact Rd.imm ‹_› | exact slT ‹_›)) hS.rd ?_
        refine LW.hv rfl rfl rfl rfl (Hv.buildSl hS Try.underlying30 ti9 rfl rfl rfl rfl rfl rfl) fun v w43 ⟨b43, hv, hb43, hS⟩ => ?_
        subst hv
        refine LW.hv rfl rfl rfl rfl (Hv.append (k := 1) rfl Try.underlying30 ti9 rfl hS rfl rfl rfl rfl (Rd.objAll (k := 0) rfl hS.rd) (by simp [Value.oneCell']) (by unfold maxLen; omega) (by omega)) fun v w44 ⟨ad44, c44, hv, hS⟩ => ?_
        subst hv
        dsimp only [List.set] at hS
        have hS := hS.drop 0 rfl
        dsimp only [List.eraseIdx] at hS
        rw [show (ls ++ [s]).map Value.string ++ [Value.string L[i]] = (ls ++ [s] ++ [L[i]]).map Value.string by simp] at hS
        refine LW.ex rfl rfl rfl rfl (Ex.assign rfl) hS.rd ?_
        refine LW.nil fun aa ha => hK7 _ _ _ ?_ aa ha
        refine CW.region [0, 1, 2] rfl ?_
        refine LW.ex rfl rfl rfl rfl (Ex.move rfl) hS.rd ?_
        refine LW.ex rfl rfl rfl rfl (Ex.add rfl rfl (by first | exact inc64 (by omega) | exact addN (by omega) | exact w64 (by omega) (by omega))) hS.rd ?_
        refine LW.ex rfl rfl rfl rfl (Ex.assign rfl) hS.rd ?_
        refine LW.nil fun aa ha => ?_
        refine ⟨_, _, ?m3, ⟨i + 1, ad44, c44, l + 1 + 1, ls ++ [s] ++ [L[i]], true, (by first | omega | (simp; done) | (simp; omega)), (by first | omega | (simp; done) | (simp; omega)), (by first | omega | (simp; done) | (simp; omega)), rfl, rfl, hS, by rw [hG]; simp_all⟩, ha.sub ⟨rfl, rfl, rfl, rfl, rfl, trivial⟩⟩
        case m3 => omega
      · skip
        refine LW.ex rfl rfl rfl rfl (by first | exact Ex.pick_yes rfl rfl | exact Ex.pick_no rfl rfl) hS.rd ?_
        refine LW.nil fun aa ha => hK9 _ _ _ ?_ aa ha
        refine CW.no rfl ?_
        refine CW.skip fun aa ha => hK8 _ _ _ ?_ aa ha
        refine CW.seq fun K12 hK12 => ?_
        refine CW.region [0, 1, 2, 3, 4, 5, 6, 7, 8, 9] rfl ?_
        refine LW.ex rfl rfl rfl rfl (Ex.move rfl) hS.rd ?_
        refine LW.ex rfl rfl rfl rfl (Ex.move rfl) hS.rd ?_
        refine LW.ex rfl rfl rfl rfl (Ex.move rfl) hS.rd ?_
        refine LW.ex rfl rfl rfl rfl (Ex.move rfl) hS.rd ?_
        refine LW.ex rfl rfl rfl rfl (Ex.move rfl) hS.rd ?_
        refine LW.ex rfl rfl rfl rfl (Ex.indexSl Try.underlying30 ti9 rfl rfl rfl (by omega)) hS.rd ?_
        refine LW.ex rfl rfl rfl rfl (Ex.load1 ti9 rfl rfl (by first | exact obT rfl | exact Rd.imm ‹_› | exact slT ‹_›)) hS.rd ?_
        refine LW.ex rfl rfl rfl rfl (Ex.eqlS rfl rfl rfl) hS.rd ?_
        refine LW.splitB (fun h7_7 => ?_) (fun h7_7 => ?_)
        · skip
          refine LW.ex rfl rfl rfl rfl (by first | exact Ex.pick_yes rfl rfl | exact Ex.pick_no rfl rfl) hS.rd ?_
          refine LW.ex rfl rfl rfl rfl (Ex.assign rfl) hS.rd ?_
          refine LW.nil fun aa ha => hK12 _ _ _ ?_ aa ha
          refine CW.region [0, 1, 2, 3, 4, 5, 6, 7] rfl ?_
          refine LW.ex rfl rfl rfl rfl (Ex.move rfl) hS.rd ?_
          refine LW.ex rfl rfl rfl rfl (Ex.move rfl) hS.rd ?_
          refine LW.ex rfl rfl rfl rfl (Ex.move rfl) hS.rd ?_
          refine LW.ex rfl rfl rfl rfl (Ex.indexSl Try.underlying30 ti9 rfl rfl rfl (by omega)) hS.rd ?_
          refine LW.ex rfl rfl rfl rfl (Ex.load1 ti9 rfl rfl (by first | exact obT rfl | exact Rd.imm ‹_› | exact slT ‹_›)) hS.rd ?_
          refine LW.hv rfl rfl rfl rfl (Hv.buildSl hS Try.underlying30 ti9 rfl rfl rfl rfl rfl rfl) fun v w43 ⟨b43, hv, hb43, hS⟩ => ?_
          subst hv
          refine LW.hv rfl rfl rfl rfl (Hv.append (k := 1) rfl Try.underlying30 ti9 rfl hS rfl rfl rfl rfl (Rd.objAll (k := 0) rfl hS.rd) (by simp [Value.oneCell']) (by unfold maxLen; omega) (by omega)) fun v w44 ⟨ad44, c44, hv, hS⟩ => ?_
          subst hv
          dsimp only [List.set] at hS
          have hS := hS.drop 0 rfl
          dsimp only [List.eraseIdx] at hS
          rw [show ls.map Value.string ++ [Value.string L[i]] = (ls ++ [L[i]]).map Value.string by rw [List.map_append]; rfl] at hS
          refine LW.ex rfl rfl rfl rfl (Ex.assign rfl) hS.rd ?_
          refine LW.nil fun aa ha => hK7 _ _ _ ?_ aa ha
          refine CW.region [0, 1, 2] rfl ?_
          refine LW.ex rfl rfl rfl rfl (Ex.move rfl) hS.rd ?_
          refine LW.ex rfl rfl rfl rfl (Ex.add rfl rfl (by first | exact inc64 (by omega) | exact addN (by omega) | exact w64 (by omega) (by omega))) hS.rd ?_
          refine LW.ex rfl rfl rfl rfl (Ex.assign rfl) hS.rd ?_
          refine LW.nil fun aa ha => ?_
          refine ⟨_, _, ?m3, ⟨i + 1, ad44, c44, l + 1, ls ++ [L[i]], true, (by first | omega | (simp; done) | (simp; omega)), (by first | omega | (simp; done) | (simp; omega)), (by first | omega | (simp; done) | (simp; omega)), rfl, rfl, hS, by rw [hG]; simp_all⟩, ha.sub ⟨rfl, rfl, rfl, rfl, rfl, trivial⟩⟩
          case m3 => omega
        · skip
          refine LW.ex rfl rfl rfl rfl (by first | exact Ex.pick_yes rfl rfl | exact Ex.pick_no rfl rfl) hS.rd ?_
          refine LW.ex rfl rfl rfl rfl (Ex.assign rfl) hS.rd ?_
          refine LW.nil fun aa ha => hK12 _ _ _ ?_ aa ha
          refine CW.region [0, 1, 2, 3, 4, 5, 6, 7] rfl ?_
          refine LW.ex rfl rfl rfl rfl (Ex.move rfl) hS.rd ?_
          refine LW.ex rfl rfl rfl rfl (Ex.move rfl) hS.rd ?_
          refine LW.ex rfl rfl rfl rfl (Ex.move rfl) hS.rd ?_
          refine LW.ex rfl rfl rfl rfl (Ex.indexSl Try.underlying30 ti9 rfl rfl rfl (by omega)) hS.rd ?_
          refine LW.ex rfl rfl rfl rfl (Ex.load1 ti9 rfl rfl (by first | exact obT rfl | exact Rd.imm ‹_› | exact slT ‹_›)) hS.rd ?_
          refine LW.hv rfl rfl rfl rfl (Hv.buildSl hS Try.underlying30 ti9 rfl rfl rfl rfl rfl rfl) fun v w43 ⟨b43, hv, hb43, hS⟩ => ?_
          subst hv
          refine LW.hv rfl rfl rfl rfl (Hv.append (k := 1) rfl Try.underlying30 ti9 rfl hS rfl rfl rfl rfl (Rd.objAll (k := 0) rfl hS.rd) (by simp [Value.oneCell']) (by unfold maxLen; omega) (by omega)) fun v w44 ⟨ad44, c44, hv, hS⟩ => ?_
          subst hv
          dsimp only [List.set] at hS
          have hS := hS.drop 0 rfl
          dsimp only [List.eraseIdx] at hS
          rw [show ls.map Value.string ++ [Value.string L[i]] = (ls ++ [L[i]]).map Value.string by rw [List.map_append]; rfl] at hS
          refine LW.ex rfl rfl rfl rfl (Ex.assign rfl) hS.rd ?_
          refine LW.nil fun aa ha => hK7 _ _ _ ?_ aa ha
          refine CW.region [0, 1, 2] rfl ?_
          refine LW.ex rfl rfl rfl rfl (Ex.move rfl) hS.rd ?_
          refine LW.ex rfl rfl rfl rfl (Ex.add rfl rfl (by first | exact inc64 (by omega) | exact addN (by omega) | exact w64 (by omega) (by omega))) hS.rd ?_
          refine LW.ex rfl rfl rfl rfl (Ex.assign rfl) hS.rd ?_
          refine LW.nil fun aa ha => ?_
          refine ⟨_, _, ?m3, ⟨i + 1, ad44, c44, l + 1, ls ++ [L[i]], false, (by first | omega | (simp; done) | (simp; omega)), (by first | omega | (simp; done) | (simp; omega)), (by first | omega | (simp; done) | (simp; omega)), rfl, rfl, hS, by rw [hG]; simp_all⟩, ha.sub ⟨rfl, rfl, rfl, rfl, rfl, trivial⟩⟩
          case m3 => omega
  · have h3_3 := of_decide_eq_false h3_3
    refine LW.nil fun aa ha => hK6 _ _ _ ?_ aa ha
    refine CW.no rfl ?_
    refine CW.exit fun aa ha => hK3 _ _ _ ?_ aa ha
    refine CW.seq fun K13 hK13 => ?_
    refine CW.seq fun K14 hK14 => ?_
    rw [List.drop_of_length_le (by omega), insG] at hG
    refine CW.region [0, 1] rfl ?_
    refine LW.ex rfl rfl rfl rfl (Ex.move rfl) hS.rd ?_
    refine LW.splitB (fun h9_0 => ?_) (fun h9_0 => ?_)
    · subst h9_0
      refine LW.ex rfl rfl rfl rfl (Ex.not rfl rfl) hS.rd ?_
      refine LW.nil fun aa ha => hK14 _ _ _ ?_ aa ha
      refine CW.no rfl ?_
      refine CW.skip fun aa ha => hK13 _ _ _ ?_ aa ha
      refine CW.seq fun K15 hK15 => ?_
      refine CW.region [0, 1] rfl ?_
      refine LW.ex rfl rfl rfl rfl (Ex.move rfl) hS.rd ?_
      refine LW.ex rfl rfl rfl rfl (Ex.assign rfl) hS.rd ?_
      refine LW.nil fun aa ha => hK15 _ _ _ ?_ aa ha
      refine CW.ret fun aa ha => ?_
      refine ret_one ha Try.results28 rfl ?_
      have e : insS s L = ls := by rw [hG]; simp
      obtain ⟨bs, μ1, hmm1, hS, hφ⟩ := hS.shut 0 rfl
      rw [e]; exact ⟨_, μ1, rfl, hS.below, hmm1, hS.imm, _, _, by rw [hll], Sl.of_own hφ (RepL.strs _ _) hll⟩
    · subst h9_0
      refine LW.ex rfl rfl rfl rfl (Ex.not rfl rfl) hS.rd ?_
      refine LW.nil fun aa ha => hK14 _ _ _ ?_ aa ha
      refine CW.yes rfl ?_
      refine CW.region [0, 1, 2, 3, 4] rfl ?_
      refine LW.ex rfl rfl rfl rfl (Ex.move rfl) hS.rd ?_
      refine LW.ex rfl rfl rfl rfl (Ex.move rfl) hS.rd ?_
      refine LW.hv rfl rfl rfl rfl (Hv.buildSl hS Try.underlying30 ti9 rfl rfl rfl rfl rfl rfl) fun v w49 ⟨b49, hv, hb49, hS⟩ => ?_
      subst hv
      refine LW.hv rfl rfl rfl rfl (Hv.append (k := 1) rfl Try.underlying30 ti9 rfl hS rfl rfl rfl rfl (Rd.objAll (k := 0) rfl hS.rd) (by simp [Value.oneCell']) (by unfold maxLen; omega) (by omega)) fun v w50 ⟨ad50, c50, hv, hS⟩ => ?_
      subst hv
      dsimp only [List.set] at hS
      have hS := hS.drop 0 rfl
      dsimp only [List.eraseIdx] at hS
      rw [show ls.map Value.string ++ [Value.string s] = (ls ++ [s]).map Value.string by rw [List.map_append]; rfl] at hS
      refine LW.ex rfl rfl rfl rfl (Ex.assign rfl) hS.rd ?_
      refine LW.nil fun aa ha => hK13 _ _ _ ?_ aa ha
      refine CW.seq fun K16 hK16 => ?_
      refine CW.region [0, 1] rfl ?_
      refine LW.ex rfl rfl rfl rfl (Ex.move rfl) hS.rd ?_
      refine LW.ex rfl rfl rfl rfl (Ex.assign rfl) hS.rd ?_
      refine LW.nil fun aa ha => hK16 _ _ _ ?_ aa ha
      refine CW.ret fun aa ha => ?_
      refine ret_one ha Try.results28 rfl ?_
      have e : insS s L = ls ++ [s] := by rw [hG]; simp
      have hl2 : l + 1 = (ls ++ [s]).length := by simp [hll]
      obtain ⟨bs, μ1, hmm1, hS, hφ⟩ := hS.shut 0 rfl
      rw [e]; exact ⟨_, μ1, rfl, hS.below, hmm1, hS.imm, _, _, by rw [hl2], Sl.of_own hφ (RepL.strs _ _) hl2⟩
def prSame (p q : Pr) : Bool := decide (q.A = p.A ∧ q.B = p.B)
def prAdd (p q : Pr) : Pr := ⟨q.A, q.B, q.N + p.N⟩
def insP (p : Pr) : List Pr → List Pr := insG (fun q => prLess p q) (fun q => prSame p q) (prAdd p) p false
set_option maxRecDepth 100000 in
set_option maxHeartbeats 2000000 in
theorem insP_c (ps : List Pr) (n0 n1 : Nat) (B : Int) (p : Pr) (hb : ps.length ≤ 1000000) (hN : ∀ q ∈ ps, 0 ≤ q.N ∧ q.N ≤ 1099511627776) (hp : 0 ≤ p.N ∧ p.N ≤ 1099511627776) (a0 a1 a2 : Option Addr) (c0 c1 c2 : Nat) (μ : Mem) (w : World) (hμ : Imm μ w) (hm2 : Sl μ a2 c2 ps) :
    Calls Try.prog 30 #[.agg #[.slice a0 n0 c0, .slice a1 n1 c1, .slice a2 ps.length c2, .int .i64 B], prV p] w (RetV w μ (IsSl (insP p ps))) := by
  have hS := St.start w μ hμ
  refine calls_start 62 [.agg #[.slice a0 n0 c0, .slice a1 n1 c1, .slice a2 ps.length c2, .int .i64 B], prV p] Try.func30 rfl Try.ntmps30 rfl rfl ?_
  refine CW.seq fun K17 hK17 => ?_
  refine CW.region [0, 1, 2] rfl ?_
  refine LW.hv rfl rfl rfl rfl (Hv.boxS hS rfl rfl) fun v w2 ⟨b2, hv, hb2, hS⟩ => ?_
  subst hv
  refine LW.hv rfl rfl rfl rfl (Hv.boxS hS rfl rfl) fun v w3 ⟨b3, hv, hb3, hS⟩ => ?_
  subst hv
  refine LW.ex rfl rfl rfl rfl (Ex.assign rfl) hS.rd ?_
  refine LW.nil fun aa ha => hK17 _ _ _ ?_ aa ha
  refine CW.seq fun K18 hK18 => ?_
  refine CW.region [0, 1, 2] rfl ?_
  refine LW.hv rfl rfl rfl rfl (Hv.buildSl hS Try.underlying32 ti87 rfl rfl rfl rfl rfl rfl) fun v w9 ⟨b9, hv, hb9, hS⟩ => ?_
  subst hv
  refine LW.ex rfl rfl rfl rfl (Ex.assign rfl) hS.rd ?_
  refine LW.ex rfl rfl rfl rfl (Ex.assign rfl) hS.rd ?_
  refine LW.nil fun aa ha => hK18 _ _ _ ?_ aa ha
  refine CW.seq fun K19 hK19 => ?_
  refine CW.seq fun K20 hK20 => ?_
  refine CW.region [0] rfl ?_
  refine LW.ex rfl rfl rfl rfl (Ex.assign rfl) hS.rd ?_
  refine LW.nil fun aa ha => hK20 _ _ _ ?_ aa ha
  refine CW.block ?_
  have hS : St w _ μ (_ :: _) := hS.row_sl (k := 0) rfl 0 3 rfl (by simp [maxLen])
  refine CW.loop (fun qq frm wl3 => ∃ (i : Nat) (ad : Option Addr) (c : Nat) (l : Nat) (ls : List Pr) (d : Bool), i ≤ ps.length ∧ l = ls.length ∧ l ≤ 2 * i ∧ qq = ps.length - i ∧ frm = [(2, .pointer (some ⟨b2, 0, none⟩)), (3, .pointer (some ⟨b3, 0, none⟩)), (5, .slice ad l c), (6, .bool d), (7, .int .i64 i)] ∧ St w wl3 μ [Own.sl ad l c 87 3 (ls.flatMap prL), Own.obj b3 (prL p) 87, Own.obj b2 [.slice a0 n0 c0, .slice a1 n1 c1, .slice a2 ps.length c2, .int .i64 B] 34] ∧ (insP p ps = ls ++ insG (fun q => prLess p q) (fun q => prSame p q) (prAdd p) p d (ps.drop i))) _ ⟨0, some ⟨b9, 0, none⟩, 0, 0, [], false, (by first | omega | (simp; done) | (simp; omega)), (by first | omega | (simp; done) | (simp; omega)), (by first | omega | (simp; done) | (simp; omega)), rfl, rfl, hS, rfl⟩ ⟨rfl, rfl, rfl, rfl, rfl, trivial⟩ ?_
  clear hS
  rintro qq frm wl3 ⟨i, ad, c, l, ls, d, hi, hll, hlb, hq, rfl, hS, hG⟩
  refine CW.seq fun K21 hK21 => ?_
  refine CW.seq fun K22 hK22 => ?_
  refine CW.region [0, 1, 2, 3, 4] rfl ?_
  refine LW.ex rfl rfl rfl rfl (Ex.move rfl) hS.rd ?_
  refine LW.ex rfl rfl rfl rfl (Ex.fieldO 2 Try.underlying34 rfl rfl ti32 rfl) hS.rd ?_
  refine LW.ex rfl rfl rfl rfl (Ex.load1 ti32 rfl rfl (by first | exact obT rfl | exact Rd.imm ‹_› | exact slT ‹_›)) hS.rd ?_
  refine LW.ex rfl rfl rfl rfl (Ex.lenSl rfl Try.underlying32 rfl) hS.rd ?_
  refine LW.ex rfl rfl rfl rfl (Ex.lss rfl rfl rfl) hS.rd ?_
  refine LW.splitB (fun h3_4 => ?_) (fun h3_4 => ?_)
  · have h3_4 := of_decide_eq_true h3_4
    refine LW.nil fun aa ha => hK22 _ _ _ ?_ aa ha
    refine CW.yes rfl ?_
    refine CW.skip fun aa ha => hK21 _ _ _ ?_ aa ha
    refine CW.seq fun K23 hK23 => ?_
    refine CW.block ?_
    refine CW.seq fun K24 hK24 => ?_
    have hi2 : i < ps.length := by omega
    have hNi := hN _ (List.getElem_mem hi2)
    rw [drop_cons hi2, insG] at hG
    obtain ⟨bl', ol, rfl, k0, k1, k2⟩ := hm2.at hi2
    refine CW.region [0, 1, 2, 3, 4, 5, 6] rfl ?_
    refine LW.ex rfl rfl rfl rfl (Ex.fieldO 2 Try.underlying34 rfl rfl ti32 rfl) hS.rd ?_
    refine LW.ex rfl rfl rfl rfl (Ex.load1 ti32 rfl rfl (by first | exact obT rfl | exact Rd.imm ‹_› | exact slT ‹_›)) hS.rd ?_
    refine LW.ex rfl rfl rfl rfl (Ex.move rfl) hS.rd ?_
    refine LW.ex rfl rfl rfl rfl (Ex.indexSl Try.underlying32 ti87 rfl rfl rfl (by omega)) hS.rd ?_
    refine LW.ex rfl rfl rfl rfl (Ex.load3c ti87 rfl rfl (by first | exact obT rfl | exact Rd.imm ‹_› | exact slT ‹_›) (by first | exact obT rfl | exact Rd.imm ‹_› | exact slT ‹_›) (by first | exact obT rfl | exact Rd.imm ‹_› | exact slT ‹_›)) hS.rd ?_
    refine LW.hv rfl rfl rfl rfl (Hv.alloc ti87 hS) fun v w8 ⟨b8, hv, hb8, hS⟩ => ?_
    subst hv
    refine LW.hu rfl rfl rfl (Hv.storeN (k := 0) ti87 hS rfl rfl rfl rfl (by simp [Value.oneCell'])) fun _ w_6 hS => ?_
    dsimp only [List.set] at hS
    refine LW.nil fun aa ha => hK24 _ _ _ ?_ aa ha
    refine CW.seq fun K25 hK25 => ?_
    refine CW.seq fun K26 hK26 => ?_
    refine CW.region [0, 1, 2, 3, 4, 5, 6] rfl ?_
    refine LW.ex rfl rfl rfl rfl (Ex.move rfl) hS.rd ?_
    refine LW.splitB (fun h6_0 => ?_) (fun h6_0 => ?_)
    · subst h6_0
      refine LW.ex rfl rfl rfl rfl (Ex.not rfl rfl) hS.rd ?_
      refine LW.ex rfl rfl rfl rfl (Ex.move rfl) hS.rd ?_
      refine LW.skip rfl rfl rfl rfl ?_
      refine LW.skip rfl rfl rfl rfl ?_
      refine LW.skip rfl rfl rfl rfl ?_
      refine LW.ex rfl rfl rfl rfl (by first | exact Ex.pick_yes rfl rfl | exact Ex.pick_no rfl rfl) hS.rd ?_
      refine LW.nil fun aa ha => hK26 _ _ _ ?_ aa ha
      refine CW.no rfl ?_
      refine CW.skip fun aa ha => hK25 _ _ _ ?_ aa ha
      refine CW.seq fun K27 hK27 => ?_
      refine CW.seq fun K28 hK28 => ?_
      refine CW.region [0, 1, 2, 3, 4, 5, 6, 7, 8, 9, 10, 11] rfl ?_
      refine LW.ex rfl rfl rfl rfl (Ex.fieldO 0 Try.underlying87 rfl rfl ti3 rfl) hS.rd ?_
      refine LW.ex rfl rfl rfl rfl (Ex.load1 ti3 rfl rfl (by first | exact obT rfl | exact Rd.imm ‹_› | exact slT ‹_›)) hS.rd ?_
      refine LW.ex rfl rfl rfl rfl (Ex.fieldO 0 Try.underlying87 rfl rfl ti3 rfl) hS.rd ?_
      refine LW.ex rfl rfl rfl rfl (Ex.load1 ti3 rfl rfl (by first | exact obT rfl | exact Rd.imm ‹_› | exact slT ‹_›)) hS.rd ?_
      refine LW.ex rfl rfl rfl rfl (Ex.eql rfl rfl rfl) hS.rd ?_
      refine LW.splitB (fun h8_4 => ?_) (fun h8_4 => ?_)
      · have h8_4 := of_decide_eq_true h8_4
        refine LW.ex rfl rfl rfl rfl (Ex.move rfl) hS.rd ?_
        refine LW.ex rfl rfl rfl rfl (Ex.fieldO 1 Try.underlying87 rfl rfl ti3 rfl) hS.rd ?_
        refine LW.ex rfl rfl rfl rfl (Ex.load1 ti3 rfl rfl (by first | exact obT rfl | exact Rd.imm ‹_› | exact slT ‹_›)) hS.rd ?_
        refine LW.ex rfl rfl rfl rfl (Ex.fieldO 1 Try.underlying87 rfl rfl ti3 rfl) hS.rd ?_
        refine LW.ex rfl rfl rfl rfl (Ex.load1 ti3 rfl rfl (by first | exact obT rfl | exact Rd.imm ‹_› | exact slT ‹_›)) hS.rd ?_
        refine LW.ex rfl rfl rfl rfl (Ex.eql rfl rfl rfl) hS.rd ?_
        refine LW.splitB (fun h8_10 => ?_) (fun h8_10 => ?_)
        · have h8_10 := of_decide_eq_true h8_10
          have hsm : prSame p ps[i] = true := decide_eq_true ⟨by omega, by omega⟩
          refine LW.ex rfl rfl rfl rfl (by first | exact Ex.pick_yes rfl rfl | exact Ex.pick_no rfl rfl) hS.rd ?_
          refine LW.nil fun aa ha => hK28 _ _ _ ?_ aa ha
          refine CW.yes rfl ?_
          refine CW.seq fun K29 hK29 => ?_
          refine CW.region [0, 1, 2, 3, 4, 5, 6] rfl ?_
          refine LW.ex rfl rfl rfl rfl (Ex.fieldO 2 Try.underlying87 rfl rfl ti3 rfl) hS.rd ?_
          refine LW.ex rfl rfl rfl rfl (Ex.load1 ti3 rfl rfl (by first | exact obT rfl | exact Rd.imm ‹_› | exact slT ‹_›)) hS.rd ?_
          refine LW.ex rfl rfl rfl rfl (Ex.fieldO 2 Try.underlying87 rfl rfl ti3 rfl) hS.rd ?_
          refine LW.ex rfl rfl rfl rfl (Ex.load1 ti3 rfl rfl (by first | exact obT rfl | exact Rd.imm ‹_› | exact slT ‹_›)) hS.rd ?_
          refine LW.ex rfl rfl rfl rfl (Ex.add rfl rfl (by first | exact inc64 (by omega) | exact addN (by omega) | exact w64 (by omega) (by omega))) hS.rd ?_
          refine LW.ex rfl rfl rfl rfl (Ex.fieldO 2 Try.underlying87 rfl rfl ti3 rfl) hS.rd ?_
          refine LW.hu rfl rfl rfl (Hv.storeObj (k := 0) ti3 hS rfl rfl rfl rfl (by first | assumption | (simp; done) | omega | exact Nat.zero_lt_succ _)) fun _ w_6 hS => ?_
          dsimp only [List.set] at hS
          refine LW.nil fun aa ha => hK29 _ _ _ ?_ aa ha
          refine CW.region [0] rfl ?_
          refine LW.ex rfl rfl rfl rfl (Ex.assign rfl) hS.rd ?_
          refine LW.nil fun aa ha => hK27 _ _ _ ?_ aa ha
          refine CW.region [0, 1, 2, 3, 4] rfl ?_
          refine LW.ex rfl rfl rfl rfl (Ex.move rfl) hS.rd ?_
          refine LW.ex rfl rfl rfl rfl (Ex.load3c ti87 rfl rfl (by first | exact obT rfl | exact Rd.imm ‹_› | exact slT ‹_›) (by first | exact obT rfl | exact Rd.imm ‹_› | exact slT ‹_›) (by first | exact obT rfl | exact Rd.imm ‹_› | exact slT ‹_›)) hS.rd ?_
          refine LW.hv rfl rfl rfl rfl (Hv.buildSl hS Try.underlying32 ti87 rfl rfl rfl rfl rfl rfl) fun v w53 ⟨b53, hv, hb53, hS⟩ => ?_
          subst hv
          refine LW.hv rfl rfl rfl rfl (Hv.append (k := 2) rfl Try.underlying32 ti87 rfl hS rfl rfl rfl rfl (Rd.objAll (k := 0) rfl hS.rd) (by simp [Value.oneCell']) (by unfold maxLen; omega) (by omega)) fun v w54 ⟨ad54, c54, hv, hS⟩ => ?_
          subst hv
          dsimp only [List.set] at hS
          have hS := hS.drop 0 rfl
          dsimp only [List.eraseIdx] at hS
          rw [show ls.flatMap prL ++ [Value.int .i64 ps[i].A, .int .i64 ps[i].B, .int .i64 (ps[i].N + p.N)] = (ls ++ [prAdd p ps[i]]).flatMap prL by rw [List.flatMap_append, List.flatMap_singleton]; rfl] at hS
          refine LW.ex rfl rfl rfl rfl (Ex.assign rfl) hS.rd ?_
          refine LW.nil fun aa ha => hK23 _ _ _ ?_ aa ha
          refine CW.region [0, 1, 2] rfl ?_
          refine LW.ex rfl rfl rfl rfl (Ex.move rfl) hS.rd ?_
          refine LW.ex rfl rfl rfl rfl (Ex.add rfl rfl (by first | exact inc64 (by omega) | exact addN (by omega) | exact w64 (by omega) (by omega))) hS.rd ?_
          refine LW.ex rfl rfl rfl rfl (Ex.assign rfl) hS.rd ?_
          refine LW.nil fun aa ha => ?_
          have hS := hS.drop 0 rfl
          dsimp only [List.eraseIdx] at hS
          refine ⟨_, _, ?m3, ⟨i + 1, ad54, c54, l + 1, ls ++ [prAdd p ps[i]], true, (by first | omega | (simp; done) | (simp; omega)), (by first | omega | (simp; done) | (simp; omega)), (by first | omega | (simp; done) | (simp; omega)), rfl, rfl, hS, by rw [hG]; simp_all⟩, ha.sub ⟨rfl, rfl, rfl, rfl, rfl, trivial⟩⟩
          case m3 => omega
        · have h8_10 := of_decide_eq_false h8_10
          have hsm : prSame p ps[i] = false := decide_eq_false (by omega)
          refine LW.ex rfl rfl rfl rfl (by first | exact Ex.pick_yes rfl rfl | exact Ex.pick_no rfl rfl) hS.rd ?_
          refine LW.nil fun aa ha => hK28 _ _ _ ?_ aa ha
          refine CW.no rfl ?_
          refine CW.skip fun aa ha => hK27 _ _ _ ?_ aa ha
          refine CW.region [0, 1, 2, 3, 4] rfl ?_
          refine LW.ex rfl rfl rfl rfl (Ex.move rfl) hS.rd ?_
          refine LW.ex rfl rfl rfl rfl (Ex.load3c ti87 rfl rfl (by first | exact obT rfl | exact Rd.imm ‹_› | exact slT ‹_›) (by first | exact obT rfl | exact Rd.imm ‹_› | exact slT ‹_›) (by first | exact obT rfl | exact Rd.imm ‹_› | exact slT ‹_›)) hS.rd ?_
          refine LW.hv rfl rfl rfl rfl (Hv.buildSl hS Try.underlying32 ti87 rfl rfl rfl rfl rfl rfl) fun v w53 ⟨b53, hv, hb53, hS⟩ => ?_
          subst hv
          refine LW.hv rfl rfl rfl rfl (Hv.append (k := 2) rfl Try.underlying32 ti87 rfl hS rfl rfl rfl rfl (Rd.objAll (k := 0) rfl hS.rd) (by simp [Value.oneCell']) (by unfold maxLen; omega) (by omega)) fun v w54 ⟨ad54, c54, hv, hS⟩ => ?_
          subst hv
          dsimp only [List.set] at hS
          have hS := hS.drop 0 rfl
          dsimp only [List.eraseIdx] at hS
          rw [show ls.flatMap prL ++ [Value.int .i64 ps[i].A, .int .i64 ps[i].B, .int .i64 ps[i].N] = (ls ++ [ps[i]]).flatMap prL by rw [List.flatMap_append, List.flatMap_singleton]; rfl] at hS
          refine LW.ex rfl rfl rfl rfl (Ex.assign rfl) hS.rd ?_
          refine LW.nil fun aa ha => hK23 _ _ _ ?_ aa ha
          refine CW.region [0, 1, 2] rfl ?_
          refine LW.ex rfl rfl rfl rfl (Ex.move rfl) hS.rd ?_
          refine LW.ex rfl rfl rfl rfl (Ex.add rfl rfl (by first | exact inc64 (by omega) | exact addN (by omega) | exact w64 (by omega) (by omega))) hS.rd ?_
          refine LW.ex rfl rfl rfl rfl (Ex.assign rfl) hS.rd ?_
          refine LW.nil fun aa ha => ?_
          have hS := hS.drop 0 rfl
          dsimp only [List.eraseIdx] at hS
          refine ⟨_, _, ?m3, ⟨i + 1, ad54, c54, l + 1, ls ++ [ps[i]], true, (by first | omega | (simp; done) | (simp; omega)), (by first | omega | (simp; done) | (simp; omega)), (by first | omega | (simp; done) | (simp; omega)), rfl, rfl, hS, by rw [hG]; simp_all⟩, ha.sub ⟨rfl, rfl, rfl, rfl, rfl, trivial⟩⟩
          case m3 => omega
      · have h8_4 := of_decide_eq_false h8_4
        have hsm : prSame p ps[i] = false := decide_eq_false (by omega)
        refine LW.ex rfl rfl rfl rfl (Ex.move rfl) hS.rd ?_
        refine LW.skip rfl rfl rfl rfl ?_
        refine LW.skip rfl rfl rfl rfl ?_
        refine LW.skip rfl rfl rfl rfl ?_
        refine LW.skip rfl rfl rfl rfl ?_
        refine LW.skip rfl rfl rfl rfl ?_
        refine LW.ex rfl rfl rfl rfl (by first | exact Ex.pick_yes rfl rfl | exact Ex.pick_no rfl rfl) hS.rd ?_
        refine LW.nil fun aa ha => hK28 _ _ _ ?_ aa ha
        refine CW.no rfl ?_
        refine CW.skip fun aa ha => hK27 _ _ _ ?_ aa ha
        refine CW.region [0, 1, 2, 3, 4] rfl ?_
        refine LW.ex rfl rfl rfl rfl (Ex.move rfl) hS.rd ?_
        refine LW.ex rfl rfl rfl rfl (Ex.load3c ti87 rfl rfl (by first | exact obT rfl | exact Rd.imm ‹_› | exact slT ‹_›) (by first | exact obT rfl | exact Rd.imm ‹_› | exact slT ‹_›) (by first | exact obT rfl | exact Rd.imm ‹_› | exact slT ‹_›)) hS.rd ?_
        refine LW.hv rfl rfl rfl rfl (Hv.buildSl hS Try.underlying32 ti87 rfl rfl rfl rfl rfl rfl) fun v w53 ⟨b53, hv, hb53, hS⟩ => ?_
        subst hv
        refine LW.hv rfl rfl rfl rfl (Hv.append (k := 2) rfl Try.underlying32 ti87 rfl hS rfl rfl rfl rfl (Rd.objAll (k := 0) rfl hS.rd) (by simp [Value.oneCell']) (by unfold maxLen; omega) (by omega)) fun v w54 ⟨ad54, c54, hv, hS⟩ => ?_
        subst hv
        dsimp only [List.set] at hS
        have hS := hS.drop 0 rfl
        dsimp only [List.eraseIdx] at hS
        rw [show ls.flatMap prL ++ [Value.int .i64 ps[i].A, .int .i64 ps[i].B, .int .i64 ps[i].N] = (ls ++ [ps[i]]).flatMap prL by rw [List.flatMap_append, List.flatMap_singleton]; rfl] at hS
        refine LW.ex rfl rfl rfl rfl (Ex.assign rfl) hS.rd ?_
        refine LW.nil fun aa ha => hK23 _ _ _ ?_ aa ha
        refine CW.region [0, 1, 2] rfl ?_
        refine LW.ex rfl rfl rfl rfl (Ex.move rfl) hS.rd ?_
        refine LW.ex rfl rfl rfl rfl (Ex.add rfl rfl (by first | exact inc64 (by omega) | exact addN (by omega) | exact w64 (by omega) (by omega))) hS.rd ?_
        refine LW.ex rfl rfl rfl rfl (Ex.assign rfl) hS.rd ?_
        refine LW.nil fun aa ha => ?_
        have hS := hS.drop 0 rfl
        dsimp only [List.eraseIdx] at hS
        refine ⟨_, _, ?m3, ⟨i + 1, ad54, c54, l + 1, ls ++ [ps[i]], true, (by first | omega | (simp; done) | (simp; omega)), (by first | omega | (simp; done) | (simp; omega)), (by first | omega | (simp; done) | (simp; omega)), rfl, rfl, hS, by rw [hG]; simp_all⟩, ha.sub ⟨rfl, rfl, rfl, rfl, rfl, trivial⟩⟩
        case m3 => omega
    · subst h6_0
      refine LW.ex rfl rfl rfl rfl (Ex.not rfl rfl) hS.rd ?_
      refine LW.ex rfl rfl rfl rfl (Ex.move rfl) hS.rd ?_
      refine LW.ex rfl rfl rfl rfl (Ex.load3c ti87 rfl rfl (by first | exact obT rfl | exact Rd.imm ‹_› | exact slT ‹_›) (by first | exact obT rfl | exact Rd.imm ‹_› | exact slT ‹_›) (by first | exact obT rfl | exact Rd.imm ‹_› | exact slT ‹_›)) hS.rd ?_
      refine LW.ex rfl rfl rfl rfl (Ex.load3c ti87 rfl rfl (by first | exact obT rfl | exact Rd.imm ‹_› | exact slT ‹_›) (by first | exact obT rfl | exact Rd.imm ‹_› | exact slT ‹_›) (by first | exact obT rfl | exact Rd.imm ‹_› | exact slT ‹_›)) hS.rd ?_
      refine LW.hv rfl rfl rfl rfl (Hv.callS hS rfl rfl rfl cb53 (prLess_c p ps[i] _)) fun v w27 ⟨hv, hS⟩ => ?_
      subst hv
      refine LW.splitB (fun h6_5 => ?_) (fun h6_5 => ?_)
      · skip
        refine LW.ex rfl rfl rfl rfl (by first | exact Ex.pick_yes rfl rfl | exact Ex.pick_no rfl rfl) hS.rd ?_
        refine LW.nil fun aa ha => hK26 _ _ _ ?_ aa ha
        refine CW.yes rfl ?_
        refine CW.region [0, 1, 2, 3, 4, 5] rfl ?_
        refine LW.ex rfl rfl rfl rfl (Ex.move rfl) hS.rd ?_
        refine LW.ex rfl rfl rfl rfl (Ex.load3c ti87 rfl rfl (by first | exact obT rfl | exact Rd.imm ‹_› | exact slT ‹_›) (by first | exact obT rfl | exact Rd.imm ‹_› | exact slT ‹_›) (by first | exact obT rfl | exact Rd.imm ‹_› | exact slT ‹_›)) hS.rd ?_
        refine LW.hv rfl rfl rfl rfl (Hv.buildSl hS Try.underlying32 ti87 rfl rfl rfl rfl rfl rfl) fun v w31 ⟨b31, hv, hb31, hS⟩ => ?_
        subst hv
        refine LW.hv rfl rfl rfl rfl (Hv.append (k := 2) rfl Try.underlying32 ti87 rfl hS rfl rfl rfl rfl (Rd.objAll (k := 0) rfl hS.rd) (by simp [Value.oneCell']) (by unfold maxLen; omega) (by omega)) fun v w32 ⟨ad32, c32, hv, hS⟩ => ?_
        subst hv
        dsimp only [List.set] at hS
        have hS := hS.drop 0 rfl
        dsimp only [List.eraseIdx] at hS
        rw [show ls.flatMap prL ++ [Value.int .i64 p.A, .int .i64 p.B, .int .i64 p.N] = (ls ++ [p]).flatMap prL by rw [List.flatMap_append, List.flatMap_singleton]; rfl] at hS
        refine LW.ex rfl rfl rfl rfl (Ex.assign rfl) hS.rd ?_
        refine LW.ex rfl rfl rfl rfl (Ex.assign rfl) hS.rd ?_
        refine LW.nil fun aa ha => hK25 _ _ _ ?_ aa ha
        refine CW.seq fun K30 hK30 => ?_
        refine CW.seq fun K31 hK31 => ?_
        refine CW.region [0, 1, 2, 3, 4, 5, 6, 7, 8, 9, 10, 11] rfl ?_
        refine LW.ex rfl rfl rfl rfl (Ex.fieldO 0 Try.underlying87 rfl rfl ti3 rfl) hS.rd ?_
        refine LW.ex rfl rfl rfl rfl (Ex.load1 ti3 rfl rfl (by first | exact obT rfl | exact Rd.imm ‹_› | exact slT ‹_›)) hS.rd ?_
        refine LW.ex rfl rfl rfl rfl (Ex.fieldO 0 Try.underlying87 rfl rfl ti3 rfl) hS.rd ?_
        refine LW.ex rfl rfl rfl rfl (Ex.load1 ti3 rfl rfl (by first | exact obT rfl | exact Rd.imm ‹_› | exact slT ‹_›)) hS.rd ?_
        refine LW.ex rfl rfl rfl rfl (Ex.eql rfl rfl rfl) hS.rd ?_
        refine LW.splitB (fun h8_4 => ?_) (fun h8_4 => ?_)
        · have h8_4 := of_decide_eq_true h8_4
          refine LW.ex rfl rfl rfl rfl (Ex.move rfl) hS.rd ?_
          refine LW.ex rfl rfl rfl rfl (Ex.fieldO 1 Try.underlying87 rfl rfl ti3 rfl) hS.rd ?_
          refine LW.ex rfl rfl rfl rfl (Ex.load1 ti3 rfl rfl (by first | exact obT rfl | exact Rd.imm ‹_› | exact slT ‹_›)) hS.rd ?_
          refine LW.ex rfl rfl rfl rfl (Ex.fieldO 1 Try.underlying87 rfl rfl ti3 rfl) hS.rd ?_
          refine LW.ex rfl rfl rfl rfl (Ex.load1 ti3 rfl rfl (by first | exact obT rfl | exact Rd.imm ‹_› | exact slT ‹_›)) hS.rd ?_
          refine LW.ex rfl rfl rfl rfl (Ex.eql rfl rfl rfl) hS.rd ?_
          refine LW.splitB (fun h8_10 => ?_) (fun h8_10 => ?_)
          · have h8_10 := of_decide_eq_true h8_10
            have hsm : prSame p ps[i] = true := decide_eq_true ⟨by omega, by omega⟩
            refine LW.ex rfl rfl rfl rfl (by first | exact Ex.pick_yes rfl rfl | exact Ex.pick_no rfl rfl) hS.rd ?_
            refine LW.nil fun aa ha => hK31 _ _ _ ?_ aa ha
            refine CW.yes rfl ?_
            refine CW.seq fun K32 hK32 => ?_
            refine CW.region [0, 1, 2, 3, 4, 5, 6] rfl ?_
            refine LW.ex rfl rfl rfl rfl (Ex.fieldO 2 Try.underlying87 rfl rfl ti3 rfl) hS.rd ?_
            refine LW.ex rfl rfl rfl rfl (Ex.load1 ti3 rfl rfl (by first | exact obT rfl | exact Rd.imm ‹_› | exact slT ‹_›)) hS.rd ?_
            refine LW.ex rfl rfl rfl rfl (Ex.fieldO 2 Try.underlying87 rfl rfl ti3 rfl) hS.rd ?_
            refine LW.ex rfl rfl rfl rfl (Ex.load1 ti3 rfl rfl (by first | exact obT rfl | exact Rd.imm ‹_› | exact slT ‹_›)) hS.rd ?_
            refine LW.ex rfl rfl rfl rfl (Ex.add rfl rfl (by first | exact inc64 (by omega) | exact addN (by omega) | exact w64 (by omega) (by omega))) hS.rd ?_
            refine LW.ex rfl rfl rfl rfl (Ex.fieldO 2 Try.underlying87 rfl rfl ti3 rfl) hS.rd ?_
            refine LW.hu rfl rfl rfl (Hv.storeObj (k := 0) ti3 hS rfl rfl rfl rfl (by first | assumption | (simp; done) | omega | exact Nat.zero_lt_succ _)) fun _ w_6 hS => ?_
            dsimp only [List.set] at hS
            refine LW.nil fun aa ha => hK32 _ _ _ ?_ aa ha
            refine CW.region [0] rfl ?_
            refine LW.ex rfl rfl rfl rfl (Ex.assign rfl) hS.rd ?_
            refine LW.nil fun aa ha => hK30 _ _ _ ?_ aa ha
            refine CW.region [0, 1, 2, 3, 4] rfl ?_
            refine LW.ex rfl rfl rfl rfl (Ex.move rfl) hS.rd ?_
            refine LW.ex rfl rfl rfl rfl (Ex.load3c ti87 rfl rfl (by first | exact obT rfl | exact Rd.imm ‹_› | exact slT ‹_›) (by first | exact obT rfl | exact Rd.imm ‹_› | exact slT ‹_›) (by first | exact obT rfl | exact Rd.imm ‹_› | exact slT ‹_›)) hS.rd ?_
            refine LW.hv rfl rfl rfl rfl (Hv.buildSl hS Try.underlying32 ti87 rfl rfl rfl rfl rfl rfl) fun v w53 ⟨b53, hv, hb53, hS⟩ => ?_
            subst hv
            refine LW.hv rfl rfl rfl rfl (Hv.append (k := 2) rfl Try.underlying32 ti87 rfl hS rfl rfl rfl rfl (Rd.objAll (k := 0) rfl hS.rd) (by simp [Value.oneCell']) (by unfold maxLen; omega) (by omega)) fun v w54 ⟨ad54, c54, hv, hS⟩ => ?_
            subst hv
            dsimp only [List.set] at hS
            have hS := hS.drop 0 rfl
            dsimp only [List.eraseIdx] at hS
            rw [show (ls ++ [p]).flatMap prL ++ [Value.int .i64 ps[i].A, .int .i64 ps[i].B, .int .i64 (ps[i].N + p.N)] = (ls ++ [p] ++ [prAdd p ps[i]]).flatMap prL by rw [List.flatMap_append (xs := ls ++ [p]), List.flatMap_singleton]; rfl] at hS
            refine LW.ex rfl rfl rfl rfl (Ex.assign rfl) hS.rd ?_
            refine LW.nil fun aa ha => hK23 _ _ _ ?_ aa ha
            refine CW.region [0, 1, 2] rfl ?_
            refine LW.ex rfl rfl rfl rfl (Ex.move rfl) hS.rd ?_
            refine LW.ex rfl rfl rfl rfl (Ex.add rfl rfl (by first | exact inc64 (by omega) | exact addN (by omega) | exact w64 (by omega) (by omega))) hS.rd ?_
            refine LW.ex rfl rfl rfl rfl (Ex.assign rfl) hS.rd ?_
            refine LW.nil fun aa ha => ?_
            have hS := hS.drop 0 rfl
            dsimp only [List.eraseIdx] at hS
            refine ⟨_, _, ?m3, ⟨i + 1, ad54, c54, l + 1 + 1, ls ++ [p] ++ [prAdd p ps[i]], true, (by first | omega | (simp; done) | (simp; omega)), (by first | omega | (simp; done) | (simp; omega)), (by first | omega | (simp; done) | (simp; omega)), rfl, rfl, hS, by rw [hG]; simp_all⟩, ha.sub ⟨rfl, rfl, rfl, rfl, rfl, trivial⟩⟩
            case m3 => omega
          · have h8_10 := of_decide_eq_false h8_10
            have hsm : prSame p ps[i] = false := decide_eq_false (by omega)
            refine LW.ex rfl rfl rfl rfl (by first | exact Ex.pick_yes rfl rfl | exact Ex.pick_no rfl rfl) hS.rd ?_
            refine LW.nil fun aa ha => hK31 _ _ _ ?_ aa ha
            refine CW.no rfl ?_
            refine CW.skip fun aa ha => hK30 _ _ _ ?_ aa ha
            refine CW.region [0, 1, 2, 3, 4] rfl ?_
            refine LW.ex rfl rfl rfl rfl (Ex.move rfl) hS.rd ?_
            refine LW.ex rfl rfl rfl rfl (Ex.load3c ti87 rfl rfl (by first | exact obT rfl | exact Rd.imm ‹_› | exact slT ‹_›) (by first | exact obT rfl | exact Rd.imm ‹_› | exact slT ‹_›) (by first | exact obT rfl | exact Rd.imm ‹_› | exact slT ‹_›)) hS.rd ?_
            refine LW.hv rfl rfl rfl rfl (Hv.buildSl hS Try.underlying32 ti87 rfl rfl rfl rfl rfl rfl) fun v w53 ⟨b53, hv, hb53, hS⟩ => ?_
            subst hv
            refine LW.hv rfl rfl rfl rfl (Hv.append (k := 2) rfl Try.underlying32 ti87 rfl hS rfl rfl rfl rfl (Rd.objAll (k := 0) rfl hS.rd) (by simp [Value.oneCell']) (by unfold maxLen; omega) (by omega)) fun v w54 ⟨ad54, c54, hv, hS⟩ => ?_
            subst hv
            dsimp only [List.set] at hS
            have hS := hS.drop 0 rfl
            dsimp only [List.eraseIdx] at hS
            rw [show (ls ++ [p]).flatMap prL ++ [Value.int .i64 ps[i].A, .int .i64 ps[i].B, .int .i64 ps[i].N] = (ls ++ [p] ++ [ps[i]]).flatMap prL by rw [List.flatMap_append (xs := ls ++ [p]), List.flatMap_singleton]; rfl] at hS
            refine LW.ex rfl rfl rfl rfl (Ex.assign rfl) hS.rd ?_
            refine LW.nil fun aa ha => hK23 _ _ _ ?_ aa ha
            refine CW.region [0, 1, 2] rfl ?_
            refine LW.ex rfl rfl rfl rfl (Ex.move rfl) hS.rd ?_
            refine LW.ex rfl rfl rfl rfl (Ex.add rfl rfl (by first | exact inc64 (by omega) | exact addN (by omega) | exact w64 (by omega) (by omega))) hS.rd ?_
            refine LW.ex rfl rfl rfl rfl (Ex.assign rfl) hS.rd ?_
            refine LW.nil fun aa ha => ?_
            have hS := hS.drop 0 rfl
            dsimp only [List.eraseIdx] at hS
            refine ⟨_, _, ?m3, ⟨i + 1, ad54, c54, l + 1 + 1, ls ++ [p] ++ [ps[i]], true, (by first | omega | (simp; done) | (simp; omega)), (by first | omega | (simp; done) | (simp; omega)), (by first | omega | (simp; done) | (simp; omega)), rfl, rfl, hS, by rw [hG]; simp_all⟩, ha.sub ⟨rfl, rfl, rfl, rfl, rfl, trivial⟩⟩
            case m3 => omega
        · have h8_4 := of_decide_eq_false h8_4
          have hsm : prSame p ps[i] = false := decide_eq_false (by omega)
          refine LW.ex rfl rfl rfl rfl (Ex.move rfl) hS.rd ?_
          refine LW.skip rfl rfl rfl rfl ?_
          refine LW.skip rfl rfl rfl rfl ?_
          refine LW.skip rfl rfl rfl rfl ?_
          refine LW.skip rfl rfl rfl rfl ?_
          refine LW.skip rfl rfl rfl rfl ?_
          refine LW.ex rfl rfl rfl rfl (by first | exact Ex.pick_yes rfl rfl | exact Ex.pick_no rfl rfl) hS.rd ?_
          refine LW.nil fun aa ha => hK31 _ _ _ ?_ aa ha
          refine CW.no rfl ?_
          refine CW.skip fun aa ha => hK30 _ _ _ ?_ aa ha
          refine CW.region [0, 1, 2, 3, 4] rfl ?_
          refine LW.ex rfl rfl rfl rfl (Ex.move rfl) hS.rd ?_
          refine LW.ex rfl rfl rfl rfl (Ex.load3c ti87 rfl rfl (by first | exact obT rfl | exact Rd.imm ‹_› | exact slT ‹_›) (by first | exact obT rfl | exact Rd.imm ‹_› | exact slT ‹_›) (by first | exact obT rfl | exact Rd.imm ‹_› | exact slT ‹_›)) hS.rd ?_
          refine LW.hv rfl rfl rfl rfl (Hv.buildSl hS Try.underlying32 ti87 rfl rfl rfl rfl rfl rfl) fun v w53 ⟨b53, hv, hb53, hS⟩ => ?_
          subst hv
          refine LW.hv rfl rfl rfl rfl (Hv.append (k := 2) rfl Try.underlying32 ti87 rfl hS rfl rfl rfl rfl (Rd.objAll (k := 0) rfl hS.rd) (by simp [Value.oneCell']) (by unfold maxLen; omega) (by omega)) fun v w54 ⟨ad54, c54, hv, hS⟩ => ?_
          subst hv
          dsimp only [List.set] at hS
          have hS := hS.drop 0 rfl
          dsimp only [List.eraseIdx] at hS
          rw [show (ls ++ [p]).flatMap prL ++ [Value.int .i64 ps[i].A, .int .i64 ps[i].B, .int .i64 ps[i].N] = (ls ++ [p] ++ [ps[i]]).flatMap prL by rw [List.flatMap_append (xs := ls ++ [p]), List.flatMap_singleton]; rfl] at hS
          refine LW.ex rfl rfl rfl rfl (Ex.assign rfl) hS.rd ?_
          refine LW.nil fun aa ha => hK23 _ _ _ ?_ aa ha
          refine CW.region [0, 1, 2] rfl ?_
          refine LW.ex rfl rfl rfl rfl (Ex.move rfl) hS.rd ?_
          refine LW.ex rfl rfl rfl rfl (Ex.add rfl rfl (by first | exact inc64 (by omega) | exact addN (by omega) | exact w64 (by omega) (by omega))) hS.rd ?_
          refine LW.ex rfl rfl rfl rfl (Ex.assign rfl) hS.rd ?_
          refine LW.nil fun aa ha => ?_
          have hS := hS.drop 0 rfl
          dsimp only [List.eraseIdx] at hS
          refine ⟨_, _, ?m3, ⟨i + 1, ad54, c54, l + 1 + 1, ls ++ [p] ++ [ps[i]], true, (by first | omega | (simp; done) | (simp; omega)), (by first | omega | (simp; done) | (simp; omega)), (by first | omega | (simp; done) | (simp; omega)), rfl, rfl, hS, by rw [hG]; simp_all⟩, ha.sub ⟨rfl, rfl, rfl, rfl, rfl, trivial⟩⟩
          case m3 => omega
      · skip
        refine LW.ex rfl rfl rfl rfl (by first | exact Ex.pick_yes rfl rfl | exact Ex.pick_no rfl rfl) hS.rd ?_
        refine LW.nil fun aa ha => hK26 _ _ _ ?_ aa ha
        refine CW.no rfl ?_
        refine CW.skip fun aa ha => hK25 _ _ _ ?_ aa ha
        refine CW.seq fun K33 hK33 => ?_
        refine CW.seq fun K34 hK34 => ?_
        refine CW.region [0, 1, 2, 3, 4, 5, 6, 7, 8, 9, 10, 11] rfl ?_
        refine LW.ex rfl rfl rfl rfl (Ex.fieldO 0 Try.underlying87 rfl rfl ti3 rfl) hS.rd ?_
        refine LW.ex rfl rfl rfl rfl (Ex.load1 ti3 rfl rfl (by first | exact obT rfl | exact Rd.imm ‹_› | exact slT ‹_›)) hS.rd ?_
        refine LW.ex rfl rfl rfl rfl (Ex.fieldO 0 Try.underlying87 rfl rfl ti3 rfl) hS.rd ?_
        refine LW.ex rfl rfl rfl rfl (Ex.load1 ti3 rfl rfl (by first | exact obT rfl | exact Rd.imm ‹_› | exact slT ‹_›)) hS.rd ?_
        refine LW.ex rfl rfl rfl rfl (Ex.eql rfl rfl rfl) hS.rd ?_
        refine LW.splitB (fun h8_4 => ?_) (fun h8_4 => ?_)
        · have h8_4 := of_decide_eq_true h8_4
          refine LW.ex rfl rfl rfl rfl (Ex.move rfl) hS.rd ?_
          refine LW.ex rfl rfl rfl rfl (Ex.fieldO 1 Try.underlying87 rfl rfl ti3 rfl) hS.rd ?_
          refine LW.ex rfl rfl rfl rfl (Ex.load1 ti3 rfl rfl (by first | exact obT rfl | exact Rd.imm ‹_› | exact slT ‹_›)) hS.rd ?_
          refine LW.ex rfl rfl rfl rfl (Ex.fieldO 1 Try.underlying87 rfl rfl ti3 rfl) hS.rd ?_
          refine LW.ex rfl rfl rfl rfl (Ex.load1 ti3 rfl rfl (by first | exact obT rfl | exact Rd.imm ‹_› | exact slT ‹_›)) hS.rd ?_
          refine LW.ex rfl rfl rfl rfl (Ex.eql rfl rfl rfl) hS.rd ?_
          refine LW.splitB (fun h8_10 => ?_) (fun h8_10 => ?_)
          · have h8_10 := of_decide_eq_true h8_10
            have hsm : prSame p ps[i] = true := decide_eq_true ⟨by omega, by omega⟩
            refine LW.ex rfl rfl rfl rfl (by first | exact Ex.pick_yes rfl rfl | exact Ex.pick_no rfl rfl) hS.rd ?_
            refine LW.nil fun aa ha => hK34 _ _ _ ?_ aa ha
            refine CW.yes rfl ?_
            refine CW.seq fun K35 hK35 => ?_
            refine CW.region [0, 1, 2, 3, 4, 5, 6] rfl ?_
            refine LW.ex rfl rfl rfl rfl (Ex.fieldO 2 Try.underlying87 rfl rfl ti3 rfl) hS.rd ?_
            refine LW.ex rfl rfl rfl rfl (Ex.load1 ti3 rfl rfl (by first | exact obT rfl | exact Rd.imm ‹_› | exact slT ‹_›)) hS.rd ?_
            refine LW.ex rfl rfl rfl rfl (Ex.fieldO 2 Try.underlying87 rfl rfl ti3 rfl) hS.rd ?_
            refine LW.ex rfl rfl rfl rfl (Ex.load1 ti3 rfl rfl (by first | exact obT rfl | exact Rd.imm ‹_› | exact slT ‹_›)) hS.rd ?_
            refine LW.ex rfl rfl rfl rfl (Ex.add rfl rfl (by first | exact inc64 (by omega) | exact addN (by omega) | exact w64 (by omega) (by omega))) hS.rd ?_
            refine LW.ex rfl rfl rfl rfl (Ex.fieldO 2 Try.underlying87 rfl rfl ti3 rfl) hS.rd ?_
            refine LW.hu rfl rfl rfl (Hv.storeObj (k := 0) ti3 hS rfl rfl rfl rfl (by first | assumption | (simp; done) | omega | exact Nat.zero_lt_succ _)) fun _ w_6 hS => ?_
            dsimp only [List.set] at hS
            refine LW.nil fun aa ha => hK35 _ _ _ ?_ aa ha
            refine CW.region [0] rfl ?_
            refine LW.ex rfl rfl rfl rfl (Ex.assign rfl) hS.rd ?_
            refine LW.nil fun aa ha => hK33 _ _ _ ?_ aa ha
            refine CW.region [0, 1, 2, 3, 4] rfl ?_
            refine LW.ex rfl rfl rfl rfl (Ex.move rfl) hS.rd ?_
            refine LW.ex rfl rfl rfl rfl (Ex.load3c ti87 rfl rfl (by first | exact obT rfl | exact Rd.imm ‹_› | exact slT ‹_›) (by first | exact obT rfl | exact Rd.imm ‹_› | exact slT ‹_›) (by first | exact obT rfl | exact Rd.imm ‹_› | exact slT ‹_›)) hS.rd ?_
            refine LW.hv rfl rfl rfl rfl (Hv.buildSl hS Try.underlying32 ti87 rfl rfl rfl rfl rfl rfl) fun v w53 ⟨b53, hv, hb53, hS⟩ => ?_
            subst hv
            refine LW.hv rfl rfl rfl rfl (Hv.append (k := 2) rfl Try.underlying32 ti87 rfl hS rfl rfl rfl rfl (Rd.objAll (k := 0) rfl hS.rd) (by simp [Value.oneCell']) (by unfold maxLen; omega) (by omega)) fun v w54 ⟨ad54, c54, hv, hS⟩ => ?_
            subst hv
            dsimp only [List.set] at hS
            have hS := hS.drop 0 rfl
            dsimp only [List.eraseIdx] at hS
            rw [show ls.flatMap prL ++ [Value.int .i64 ps[i].A, .int .i64 ps[i].B, .int .i64 (ps[i].N + p.N)] = (ls ++ [prAdd p ps[i]]).flatMap prL by rw [List.flatMap_append, List.flatMap_singleton]; rfl] at hS
            refine LW.ex rfl rfl rfl rfl (Ex.assign rfl) hS.rd ?_
            refine LW.nil fun aa ha => hK23 _ _ _ ?_ aa ha
            refine CW.region [0, 1, 2] rfl ?_
            refine LW.ex rfl rfl rfl rfl (Ex.move rfl) hS.rd ?_
            refine LW.ex rfl rfl rfl rfl (Ex.add rfl rfl (by first | exact inc64 (by omega) | exact addN (by omega) | exact w64 (by omega) (by omega))) hS.rd ?_
            refine LW.ex rfl rfl rfl rfl (Ex.assign rfl) hS.rd ?_
            refine LW.nil fun aa ha => ?_
            have hS := hS.drop 0 rfl
            dsimp only [List.eraseIdx] at hS
            refine ⟨_, _, ?m3, ⟨i + 1, ad54, c54, l + 1, ls ++ [prAdd p ps[i]], true, (by first | omega | (simp; done) | (simp; omega)), (by first | omega | (simp; done) | (simp; omega)), (by first | omega | (simp; done) | (simp; omega)), rfl, rfl, hS, by rw [hG]; simp_all⟩, ha.sub ⟨rfl, rfl, rfl, rfl, rfl, trivial⟩⟩
            case m3 => omega
          · have h8_10 := of_decide_eq_false h8_10
            have hsm : prSame p ps[i] = false := decide_eq_false (by omega)
            refine LW.ex rfl rfl rfl rfl (by first | exact Ex.pick_yes rfl rfl | exact Ex.pick_no rfl rfl) hS.rd ?_
            refine LW.nil fun aa ha => hK34 _ _ _ ?_ aa ha
            refine CW.no rfl ?_
            refine CW.skip fun aa ha => hK33 _ _ _ ?_ aa ha
            refine CW.region [0, 1, 2, 3, 4] rfl ?_
            refine LW.ex rfl rfl rfl rfl (Ex.move rfl) hS.rd ?_
            refine LW.ex rfl rfl rfl rfl (Ex.load3c ti87 rfl rfl (by first | exact obT rfl | exact Rd.imm ‹_› | exact slT ‹_›) (by first | exact obT rfl | exact Rd.imm ‹_› | exact slT ‹_›) (by first | exact obT rfl | exact Rd.imm ‹_› | exact slT ‹_›)) hS.rd ?_
            refine LW.hv rfl rfl rfl rfl (Hv.buildSl hS Try.underlying32 ti87 rfl rfl rfl rfl rfl rfl) fun v w53 ⟨b53, hv, hb53, hS⟩ => ?_
            subst hv
            refine LW.hv rfl rfl rfl rfl (Hv.append (k := 2) rfl Try.underlying32 ti87 rfl hS rfl rfl rfl rfl (Rd.objAll (k := 0) rfl hS.rd) (by simp [Value.oneCell']) (by unfold maxLen; omega) (by omega)) fun v w54 ⟨ad54, c54, hv, hS⟩ => ?_
            subst hv
            dsimp only [List.set] at hS
            have hS := hS.drop 0 rfl
            dsimp only [List.eraseIdx] at hS
            rw [show ls.flatMap prL ++ [Value.int .i64 ps[i].A, .int .i64 ps[i].B, .int .i64 ps[i].N] = (ls ++ [ps[i]]).flatMap prL by rw [List.flatMap_append, List.flatMap_singleton]; rfl] at hS
            refine LW.ex rfl rfl rfl rfl (Ex.assign rfl) hS.rd ?_
            refine LW.nil fun aa ha => hK23 _ _ _ ?_ aa ha
            refine CW.region [0, 1, 2] rfl ?_
            refine LW.ex rfl rfl rfl rfl (Ex.move rfl) hS.rd ?_
            refine LW.ex rfl rfl rfl rfl (Ex.add rfl rfl (by first | exact inc64 (by omega) | exact addN (by omega) | exact w64 (by omega) (by omega))) hS.rd ?_
            refine LW.ex rfl rfl rfl rfl (Ex.assign rfl) hS.rd ?_
            refine LW.nil fun aa ha => ?_
            have hS := hS.drop 0 rfl
            dsimp only [List.eraseIdx] at hS
            refine ⟨_, _, ?m3, ⟨i + 1, ad54, c54, l + 1, ls ++ [ps[i]], false, (by first | omega | (simp; done) | (simp; omega)), (by first | omega | (simp; done) | (simp; omega)), (by first | omega | (simp; done) | (simp; omega)), rfl, rfl, hS, by rw [hG]; simp_all⟩, ha.sub ⟨rfl, rfl, rfl, rfl, rfl, trivial⟩⟩
            case m3 => omega
        · have h8_4 := of_decide_eq_false h8_4
          have hsm : prSame p ps[i] = false := decide_eq_false (by omega)
          refine LW.ex rfl rfl rfl rfl (Ex.move rfl) hS.rd ?_
          refine LW.skip rfl rfl rfl rfl ?_
          refine LW.skip rfl rfl rfl rfl ?_
          refine LW.skip rfl rfl rfl rfl ?_
          refine LW.skip rfl rfl rfl rfl ?_
          refine LW.skip rfl rfl rfl rfl ?_
          refine LW.ex rfl rfl rfl rfl (by first | exact Ex.pick_yes rfl rfl | exact Ex.pick_no rfl rfl) hS.rd ?_
          refine LW.nil fun aa ha => hK34 _ _ _ ?_ aa ha
          refine CW.no rfl ?_
          refine CW.skip fun aa ha => hK33 _ _ _ ?_ aa ha
          refine CW.region [0, 1, 2, 3, 4] rfl ?_
          refine LW.ex rfl rfl rfl rfl (Ex.move rfl) hS.rd ?_
          refine LW.ex rfl rfl rfl rfl (Ex.load3c ti87 rfl rfl (by first | exact obT rfl | exact Rd.imm ‹_› | exact slT ‹_›) (by first | exact obT rfl | exact Rd.imm ‹_› | exact slT ‹_›) (by first | exact obT rfl | exact Rd.imm ‹_› | exact slT ‹_›)) hS.rd ?_
          refine LW.hv rfl rfl rfl rfl (Hv.buildSl hS Try.underlying32 ti87 rfl rfl rfl rfl rfl rfl) fun v w53 ⟨b53, hv, hb53, hS⟩ => ?_
          subst hv
          refine LW.hv rfl rfl rfl rfl (Hv.append (k := 2) rfl Try.underlying32 ti87 rfl hS rfl rfl rfl rfl (Rd.objAll (k := 0) rfl hS.rd) (by simp [Value.oneCell']) (by unfold maxLen; omega) (by omega)) fun v w54 ⟨ad54, c54, hv, hS⟩ => ?_
          subst hv
          dsimp only [List.set] at hS
          have hS := hS.drop 0 rfl
          dsimp only [List.eraseIdx] at hS
          rw [show ls.flatMap prL ++ [Value.int .i64 ps[i].A, .int .i64 ps[i].B, .int .i64 ps[i].N] = (ls ++ [ps[i]]).flatMap prL by rw [List.flatMap_append, List.flatMap_singleton]; rfl] at hS
          refine LW.ex rfl rfl rfl rfl (Ex.assign rfl) hS.rd ?_
          refine LW.nil fun aa ha => hK23 _ _ _ ?_ aa ha
          refine CW.region [0, 1, 2] rfl ?_
          refine LW.ex rfl rfl rfl rfl (Ex.move rfl) hS.rd ?_
          refine LW.ex rfl rfl rfl rfl (Ex.add rfl rfl (by first | exact inc64 (by omega) | exact addN (by omega) | exact w64 (by omega) (by omega))) hS.rd ?_
          refine LW.ex rfl rfl rfl rfl (Ex.assign rfl) hS.rd ?_
          refine LW.nil fun aa ha => ?_
          have hS := hS.drop 0 rfl
          dsimp only [List.eraseIdx] at hS
          refine ⟨_, _, ?m3, ⟨i + 1, ad54, c54, l + 1, ls ++ [ps[i]], false, (by first | omega | (simp; done) | (simp; omega)), (by first | omega | (simp; done) | (simp; omega)), (by first | omega | (simp; done) | (simp; omega)), rfl, rfl, hS, by rw [hG]; simp_all⟩, ha.sub ⟨rfl, rfl, rfl, rfl, rfl, trivial⟩⟩
          case m3 => omega
  · have h3_4 := of_decide_eq_false h3_4
    refine LW.nil fun aa ha => hK22 _ _ _ ?_ aa ha
    refine CW.no rfl ?_
    refine CW.exit fun aa ha => hK19 _ _ _ ?_ aa ha
    refine CW.seq fun K36 hK36 => ?_
    refine CW.seq fun K37 hK37 => ?_
    rw [List.drop_of_length_le (by omega), insG] at hG
    refine CW.region [0, 1] rfl ?_
    refine LW.ex rfl rfl rfl rfl (Ex.move rfl) hS.rd ?_
    refine LW.splitB (fun h12_0 => ?_) (fun h12_0 => ?_)
    · subst h12_0
      refine LW.ex rfl rfl rfl rfl (Ex.not rfl rfl) hS.rd ?_
      refine LW.nil fun aa ha => hK37 _ _ _ ?_ aa ha
      refine CW.no rfl ?_
      refine CW.skip fun aa ha => hK36 _ _ _ ?_ aa ha
      refine CW.seq fun K38 hK38 => ?_
      refine CW.region [0, 1] rfl ?_
      refine LW.ex rfl rfl rfl rfl (Ex.move rfl) hS.rd ?_
      refine LW.ex rfl rfl rfl rfl (Ex.assign rfl) hS.rd ?_
      refine LW.nil fun aa ha => hK38 _ _ _ ?_ aa ha
      refine CW.ret fun aa ha => ?_
      refine ret_one ha Try.results30 rfl ?_
      have e : insP p ps = ls := by rw [hG]; simp
      obtain ⟨bs, μ1, hmm1, hS, hφ⟩ := hS.shut 0 rfl
      rw [e]; exact ⟨_, μ1, rfl, hS.below, hmm1, hS.imm, _, _, by rw [hll], Sl.of_own hφ (prReps _ _) hll⟩
    · subst h12_0
      refine LW.ex rfl rfl rfl rfl (Ex.not rfl rfl) hS.rd ?_
      refine LW.nil fun aa ha => hK37 _ _ _ ?_ aa ha
      refine CW.yes rfl ?_
      refine CW.region [0, 1, 2, 3, 4] rfl ?_
      refine LW.ex rfl rfl rfl rfl (Ex.move rfl) hS.rd ?_
      refine LW.ex rfl rfl rfl rfl (Ex.load3c ti87 rfl rfl (by first | exact obT rfl | exact Rd.imm ‹_› | exact slT ‹_›) (by first | exact obT rfl | exact Rd.imm ‹_› | exact slT ‹_›) (by first | exact obT rfl | exact Rd.imm ‹_› | exact slT ‹_›)) hS.rd ?_
      refine LW.hv rfl rfl rfl rfl (Hv.buildSl hS Try.underlying32 ti87 rfl rfl rfl rfl rfl rfl) fun v w59 ⟨b59, hv, hb59, hS⟩ => ?_
      subst hv
      refine LW.hv rfl rfl rfl rfl (Hv.append (k := 1) rfl Try.underlying32 ti87 rfl hS rfl rfl rfl rfl (Rd.objAll (k := 0) rfl hS.rd) (by simp [Value.oneCell']) (by unfold maxLen; omega) (by omega)) fun v w60 ⟨ad60, c60, hv, hS⟩ => ?_
      subst hv
      dsimp only [List.set] at hS
      have hS := hS.drop 0 rfl
      dsimp only [List.eraseIdx] at hS
      rw [show ls.flatMap prL ++ [Value.int .i64 p.A, .int .i64 p.B, .int .i64 p.N] = (ls ++ [p]).flatMap prL by rw [List.flatMap_append, List.flatMap_singleton]; rfl] at hS
      refine LW.ex rfl rfl rfl rfl (Ex.assign rfl) hS.rd ?_
      refine LW.nil fun aa ha => hK36 _ _ _ ?_ aa ha
      refine CW.seq fun K39 hK39 => ?_
      refine CW.region [0, 1] rfl ?_
      refine LW.ex rfl rfl rfl rfl (Ex.move rfl) hS.rd ?_
      refine LW.ex rfl rfl rfl rfl (Ex.assign rfl) hS.rd ?_
      refine LW.nil fun aa ha => hK39 _ _ _ ?_ aa ha
      refine CW.ret fun aa ha => ?_
      refine ret_one ha Try.results30 rfl ?_
      have e : insP p ps = ls ++ [p] := by rw [hG]; simp
      have hl2 : l + 1 = (ls ++ [p]).length := by simp [hll]
      obtain ⟨bs, μ1, hmm1, hS, hφ⟩ := hS.shut 0 rfl
      rw [e]; exact ⟨_, μ1, rfl, hS.below, hmm1, hS.imm, _, _, by rw [hl2], Sl.of_own hφ (prReps _ _) hl2⟩
def insE (e : Edge) : List Edge → List Edge := insG (fun q => edLess e q) (fun _ => false) id e false
set_option maxRecDepth 100000 in
set_option maxHeartbeats 2000000 in
theorem insE_m {w0 w : World} {μ : Mem} {Lr : List Own} {ad0 : Option Addr} {n c0 : Nat} {L : List Edge} (e : Edge) (hS : St w0 w μ (Own.sl ad0 n c0 43 4 (L.flatMap edgeL) :: Lr)) (hn : n = L.length) (hb : L.length ≤ 1000000) :
    Calls Try.prog 32 #[.slice ad0 n c0, edgeV e] w (RetM fun v w' => ∃ ad c, v = .slice ad (insE e L).length c ∧ St w0 w' μ (Own.sl ad (insE e L).length c 43 4 ((insE e L).flatMap edgeL) :: Own.sl ad0 n c0 43 4 (L.flatMap edgeL) :: Lr)) := by
  have hcap := hS.sl_cap 0 rfl
  obtain ⟨hcap1, hcap2⟩ := hcap
  simp only [maxLen] at hcap2
  refine calls_start 43 [.slice ad0 n c0, edgeV e] Try.func32 rfl Try.ntmps32 rfl rfl ?_
  refine CW.seq fun K40 hK40 => ?_
  refine CW.region [0, 1] rfl ?_
  refine LW.hv rfl rfl rfl rfl (Hv.boxS hS rfl rfl) fun v w3 ⟨b3, hv, hb3, hS⟩ => ?_
  subst hv
  refine LW.ex rfl rfl rfl rfl (Ex.assign rfl) hS.rd ?_
  refine LW.nil fun aa ha => hK40 _ _ _ ?_ aa ha
  refine CW.seq fun K41 hK41 => ?_
  refine CW.region [0, 1, 2] rfl ?_
  refine LW.hv rfl rfl rfl rfl (Hv.buildSl hS Try.underlying36 ti43 rfl rfl rfl rfl rfl rfl) fun v w8 ⟨b8, hv, hb8, hS⟩ => ?_
  subst hv
  refine LW.ex rfl rfl rfl rfl (Ex.assign rfl) hS.rd ?_
  refine LW.ex rfl rfl rfl rfl (Ex.assign rfl) hS.rd ?_
  refine LW.nil fun aa ha => hK41 _ _ _ ?_ aa ha
  refine CW.seq fun K42 hK42 => ?_
  refine CW.seq fun K43 hK43 => ?_
  refine CW.region [0] rfl ?_
  refine LW.ex rfl rfl rfl rfl (Ex.assign rfl) hS.rd ?_
  refine LW.nil fun aa ha => hK43 _ _ _ ?_ aa ha
  refine CW.block ?_
  have hS : St w0 _ μ (_ :: _) := hS.row_sl (k := 0) rfl 0 4 rfl (by simp [maxLen])
  refine CW.loop (fun qq frm wl3 => ∃ (i : Nat) (ad : Option Addr) (c : Nat) (l : Nat) (ls : List Edge) (d : Bool), i ≤ n ∧ l = ls.length ∧ l ≤ 2 * i ∧ qq = n - i ∧ frm = [(0, .slice ad0 n c0), (3, .pointer (some ⟨b3, 0, none⟩)), (5, .slice ad l c), (6, .bool d), (7, .int .i64 i)] ∧ St w0 wl3 μ (Own.sl ad l c 43 4 (ls.flatMap edgeL) :: Own.obj b3 (edgeL e) 43 :: Own.sl ad0 n c0 43 4 (L.flatMap edgeL) :: Lr) ∧ (insE e L = ls ++ insG (fun q => edLess e q) (fun _ => false) id e d (L.drop i))) _ ⟨0, some ⟨b8, 0, none⟩, 0, 0, [], false, (by first | omega | (simp; done) | (simp; omega)), (by first | omega | (simp; done) | (simp; omega)), (by first | omega | (simp; done) | (simp; omega)), rfl, rfl, hS, rfl⟩ ⟨rfl, rfl, rfl, rfl, rfl, trivial⟩ ?_
  clear hS
  rintro qq frm wl3 ⟨i, ad, c, l, ls, d, hi, hll, hlb, hq, rfl, hS, hG⟩
  refine CW.seq fun K44 hK44 => ?_
  refine CW.seq fun K45 hK45 => ?_
  refine CW.region [0, 1, 2, 3] rfl ?_
  refine LW.ex rfl rfl rfl rfl (Ex.move rfl) hS.rd ?_
  refine LW.ex rfl rfl rfl rfl (Ex.move rfl) hS.rd ?_
  refine LW.ex rfl rfl rfl rfl (Ex.lenSl rfl Try.underlying36 rfl) hS.rd ?_
  refine LW.ex rfl rfl rfl rfl (Ex.lss rfl rfl rfl) hS.rd ?_
  refine LW.splitB (fun h3_3 => ?_) (fun h3_3 => ?_)
  · have h3_3 := of_decide_eq_true h3_3
    refine LW.nil fun aa ha => hK45 _ _ _ ?_ aa ha
    refine CW.yes rfl ?_
    refine CW.skip fun aa ha => hK44 _ _ _ ?_ aa ha
    refine CW.seq fun K46 hK46 => ?_
    refine CW.block ?_
    refine CW.seq fun K47 hK47 => ?_
    refine CW.seq fun K48 hK48 => ?_
    have hi2 : i < L.length := by omega
    rw [drop_cons hi2, insG] at hG
    obtain ⟨g0, rfl⟩ := hS.sl_some 2 rfl (by omega)
    have f0 := flat2 edgeL_len L i 0 hi2 (by omega) (v := .int .i64 L[i].From) rfl
    have f1 := flat2 edgeL_len L i 1 hi2 (by omega) (v := .int .i64 L[i].To) rfl
    have f2 := flat2 edgeL_len L i 2 hi2 (by omega) (v := .int .i64 L[i].Word) rfl
    have f3 := flat2 edgeL_len L i 3 hi2 (by omega) (v := .int .i64 L[i].Cost) rfl
    have hS := hS.drew
    refine CW.draw 10 (.ex 0 <| .ex 1 <| .ex 2 <| .ex 3 <| .ex 4 <| .ex 5 <| .ex 6 <| .ex 7 <| .one 8 <| .ex 9 <| .done) [] (Rd _ _) mixed (by kernel_rfl) rfl rfl hS.rd ?_
    refine PW.ex rfl rfl rfl rfl (Ex.move rfl) ?_
    refine PW.splitB (fun h5_0 => ?_) (fun h5_0 => ?_)
    · subst h5_0
      refine PW.ex rfl rfl rfl rfl (Ex.not rfl rfl) ?_
      refine PW.ex rfl rfl rfl rfl (Ex.move rfl) ?_
      refine PW.skip rfl rfl rfl rfl ?_
      refine PW.skip rfl rfl rfl rfl ?_
      refine PW.skip rfl rfl rfl rfl ?_
      refine PW.skip rfl rfl rfl rfl ?_
      refine PW.skip rfl rfl rfl rfl ?_
      refine PW.skip1 rfl rfl rfl rfl ?_
      refine PW.ex rfl rfl rfl rfl (by first | exact Ex.pick_yes rfl rfl | exact Ex.pick_no rfl rfl) ?_
      refine PW.nil ?_
      refine LW.nil fun aa ha => hK48 _ _ _ ?_ aa ha
      refine CW.no rfl ?_
      refine CW.skip fun aa ha => hK47 _ _ _ ?_ aa ha
      refine CW.region [0, 1, 2, 3, 4, 5, 6, 7] rfl ?_
      refine LW.ex rfl rfl rfl rfl (Ex.move rfl) hS.rd ?_
      refine LW.ex rfl rfl rfl rfl (Ex.move rfl) hS.rd ?_
      refine LW.ex rfl rfl rfl rfl (Ex.move rfl) hS.rd ?_
      refine LW.ex rfl rfl rfl rfl (Ex.indexSl Try.underlying36 ti43 rfl rfl rfl (by omega)) hS.rd ?_
      refine LW.ex rfl rfl rfl rfl (Ex.load4c ti43 rfl rfl (slT (v := .int .i64 L[i].From) (by rw [Nat.zero_add]; exact f0)) (slT (v := .int .i64 L[i].To) (by rw [Nat.zero_add]; exact f1)) (slT (v := .int .i64 L[i].Word) (by rw [Nat.zero_add]; exact f2)) (slT (v := .int .i64 L[i].Cost) (by rw [Nat.zero_add]; exact f3))) hS.rd ?_
      refine LW.hv rfl rfl rfl rfl (Hv.buildSl hS Try.underlying36 ti43 rfl rfl rfl rfl rfl rfl) fun v w34 ⟨b34, hv, hb34, hS⟩ => ?_
      subst hv
      refine LW.hv rfl rfl rfl rfl (Hv.append (k := 1) rfl Try.underlying36 ti43 rfl hS rfl rfl rfl rfl (Rd.objAll (k := 0) rfl hS.rd) (by simp [Value.oneCell']) (by unfold maxLen; omega) (by omega)) fun v w35 ⟨ad35, c35, hv, hS⟩ => ?_
      subst hv
      dsimp only [List.set] at hS
      have hS := hS.drop 0 rfl
      dsimp only [List.eraseIdx] at hS
      rw [show ls.flatMap edgeL ++ [Value.int .i64 L[i].From, .int .i64 L[i].To, .int .i64 L[i].Word, .int .i64 L[i].Cost] = (ls ++ [L[i]]).flatMap edgeL by rw [List.flatMap_append, List.flatMap_singleton]; rfl] at hS
      refine LW.ex rfl rfl rfl rfl (Ex.assign rfl) hS.rd ?_
      refine LW.nil fun aa ha => hK46 _ _ _ ?_ aa ha
      refine CW.region [0, 1, 2] rfl ?_
      refine LW.ex rfl rfl rfl rfl (Ex.move rfl) hS.rd ?_
      refine LW.ex rfl rfl rfl rfl (Ex.add rfl rfl (by first | exact inc64 (by omega) | exact addN (by omega) | exact w64 (by omega) (by omega))) hS.rd ?_
      refine LW.ex rfl rfl rfl rfl (Ex.assign rfl) hS.rd ?_
      refine LW.nil fun aa ha => ?_
      refine ⟨_, _, ?m3, ⟨i + 1, ad35, c35, l + 1, ls ++ [L[i]], true, (by first | omega | (simp; done) | (simp; omega)), (by first | omega | (simp; done) | (simp; omega)), (by first | omega | (simp; done) | (simp; omega)), rfl, rfl, hS, by rw [hG]; simp_all⟩, ha.sub ⟨rfl, rfl, rfl, rfl, rfl, trivial⟩⟩
      case m3 => omega
    · subst h5_0
      refine PW.ex rfl rfl rfl rfl (Ex.not rfl rfl) ?_
      refine PW.ex rfl rfl rfl rfl (Ex.move rfl) ?_
      refine PW.ex rfl rfl rfl rfl (Ex.load4c ti43 rfl rfl (by first | exact obT rfl | exact Rd.imm ‹_› | exact slT ‹_›) (by first | exact obT rfl | exact Rd.imm ‹_› | exact slT ‹_›) (by first | exact obT rfl | exact Rd.imm ‹_› | exact slT ‹_›) (by first | exact obT rfl | exact Rd.imm ‹_› | exact slT ‹_›)) ?_
      refine PW.ex rfl rfl rfl rfl (Ex.move rfl) ?_
      refine PW.ex rfl rfl rfl rfl (Ex.move rfl) ?_
      refine PW.ex rfl rfl rfl rfl (Ex.indexSl Try.underlying36 ti43 rfl rfl rfl (by omega)) ?_
      refine PW.ex rfl rfl rfl rfl (Ex.load4c ti43 rfl rfl (slT (v := .int .i64 L[i].From) (by rw [Nat.zero_add]; exact f0)) (slT (v := .int .i64 L[i].To) (by rw [Nat.zero_add]; exact f1)) (slT (v := .int .i64 L[i].Word) (by rw [Nat.zero_add]; exact f2)) (slT (v := .int .i64 L[i].Cost) (by rw [Nat.zero_add]; exact f3))) ?_
      refine PW.hv rfl rfl rfl rfl (Hv.callS hS rfl rfl rfl cb54 (edLess_c e L[i] _)) (fun _ _ h => h.2.rd) fun v w23 ⟨hv, hS⟩ => ?_
      subst hv
      refine PW.splitB (fun h5_8 => ?_) (fun h5_8 => ?_)
      · skip
        refine PW.ex rfl rfl rfl rfl (by first | exact Ex.pick_yes rfl rfl | exact Ex.pick_no rfl rfl) ?_
        refine PW.nil ?_
        refine LW.nil fun aa ha => hK48 _ _ _ ?_ aa ha
        refine CW.yes rfl ?_
        refine CW.region [0, 1, 2, 3, 4, 5] rfl ?_
        refine LW.ex rfl rfl rfl rfl (Ex.move rfl) hS.rd ?_
        refine LW.ex rfl rfl rfl rfl (Ex.load4c ti43 rfl rfl (by first | exact obT rfl | exact Rd.imm ‹_› | exact slT ‹_›) (by first | exact obT rfl | exact Rd.imm ‹_› | exact slT ‹_›) (by first | exact obT rfl | exact Rd.imm ‹_› | exact slT ‹_›) (by first | exact obT rfl | exact Rd.imm ‹_› | exact slT ‹_›)) hS.rd ?_
        refine LW.hv rfl rfl rfl rfl (Hv.buildSl hS Try.underlying36 ti43 rfl rfl rfl rfl rfl rfl) fun v w27 ⟨b27, hv, hb27, hS⟩ => ?_
        subst hv
        refine LW.hv rfl rfl rfl rfl (Hv.append (k := 1) rfl Try.underlying36 ti43 rfl hS rfl rfl rfl rfl (Rd.objAll (k := 0) rfl hS.rd) (by simp [Value.oneCell']) (by unfold maxLen; omega) (by omega)) fun v w28 ⟨ad28, c28, hv, hS⟩ => ?_
        subst hv
        dsimp only [List.set] at hS
        have hS := hS.drop 0 rfl
        dsimp only [List.eraseIdx] at hS
        rw [show ls.flatMap edgeL ++ [Value.int .i64 e.From, .int .i64 e.To, .int .i64 e.Word, .int .i64 e.Cost] = (ls ++ [e]).flatMap edgeL by rw [List.flatMap_append, List.flatMap_singleton]; rfl] at hS
        refine LW.ex rfl rfl rfl rfl (Ex.assign rfl) hS.rd ?_
        refine LW.ex rfl rfl rfl rfl (Ex.assign rfl) hS.rd ?_
        refine LW.nil fun aa ha => hK47 _ _ _ ?_ aa ha
        refine CW.region [0, 1, 2, 3, 4, 5, 6, 7] rfl ?_
        refine LW.ex rfl rfl rfl rfl (Ex.move rfl) hS.rd ?_
        refine LW.ex rfl rfl rfl rfl (Ex.move rfl) hS.rd ?_
        refine LW.ex rfl rfl rfl rfl (Ex.move rfl) hS.rd ?_
        refine LW.ex rfl rfl rfl rfl (Ex.indexSl Try.underlying36 ti43 rfl rfl rfl (by omega)) hS.rd ?_
        refine LW.ex rfl rfl rfl rfl (Ex.load4c ti43 rfl rfl (slT (v := .int .i64 L[i].From) (by rw [Nat.zero_add]; exact f0)) (slT (v := .int .i64 L[i].To) (by rw [Nat.zero_add]; exact f1)) (slT (v := .int .i64 L[i].Word) (by rw [Nat.zero_add]; exact f2)) (slT (v := .int .i64 L[i].Cost) (by rw [Nat.zero_add]; exact f3))) hS.rd ?_
        refine LW.hv rfl rfl rfl rfl (Hv.buildSl hS Try.underlying36 ti43 rfl rfl rfl rfl rfl rfl) fun v w34 ⟨b34, hv, hb34, hS⟩ => ?_
        subst hv
        refine LW.hv rfl rfl rfl rfl (Hv.append (k := 1) rfl Try.underlying36 ti43 rfl hS rfl rfl rfl rfl (Rd.objAll (k := 0) rfl hS.rd) (by simp [Value.oneCell']) (by unfold maxLen; omega) (by omega)) fun v w35 ⟨ad35, c35, hv, hS⟩ => ?_
        subst hv
        dsimp only [List.set] at hS
        have hS := hS.drop 0 rfl
        dsimp only [List.eraseIdx] at hS
        rw [show (ls ++ [e]).flatMap edgeL ++ [Value.int .i64 L[i].From, .int .i64 L[i].To, .int .i64 L[i].Word, .int .i64 L[i].Cost] = (ls ++ [e] ++ [L[i]]).flatMap edgeL by rw [List.flatMap_append (xs := ls ++ [e]), List.flatMap_singleton]; rfl] at hS
        refine LW.ex rfl rfl rfl rfl (Ex.assign rfl) hS.rd ?_
        refine LW.nil fun aa ha => hK46 _ _ _ ?_ aa ha
        refine CW.region [0, 1, 2] rfl ?_
        refine LW.ex rfl rfl rfl rfl (Ex.move rfl) hS.rd ?_
        refine LW.ex rfl rfl rfl rfl (Ex.add rfl rfl (by first | exact inc64 (by omega) | exact addN (by omega) | exact w64 (by omega) (by omega))) hS.rd ?_
        refine LW.ex rfl rfl rfl rfl (Ex.assign rfl) hS.rd ?_
        refine LW.nil fun aa ha => ?_
        refine ⟨_, _, ?m3, ⟨i + 1, ad35, c35, l + 1 + 1, ls ++ [e] ++ [L[i]], true, (by first | omega | (simp; done) | (simp; omega)), (by first | omega | (simp; done) | (simp; omega)), (by first | omega | (simp; done) | (simp; omega)), rfl, rfl, hS, by rw [hG]; simp_all⟩, ha.sub ⟨rfl, rfl, rfl, rfl, rfl, trivial⟩⟩
        case m3 => omega
      · skip
        refine PW.ex rfl rfl rfl rfl (by first | exact Ex.pick_yes rfl rfl | exact Ex.pick_no rfl rfl) ?_
        refine PW.nil ?_
        refine LW.nil fun aa ha => hK48 _ _ _ ?_ aa ha
        refine CW.no rfl ?_
        refine CW.skip fun aa ha => hK47 _ _ _ ?_ aa ha
        refine CW.region [0, 1, 2, 3, 4, 5, 6, 7] rfl ?_
        refine LW.ex rfl rfl rfl rfl (Ex.move rfl) hS.rd ?_
        refine LW.ex rfl rfl rfl rfl (Ex.move rfl) hS.rd ?_
        refine LW.ex rfl rfl rfl rfl (Ex.move rfl) hS.rd ?_
        refine LW.ex rfl rfl rfl rfl (Ex.indexSl Try.underlying36 ti43 rfl rfl rfl (by omega)) hS.rd ?_
        refine LW.ex rfl rfl rfl rfl (Ex.load4c ti43 rfl rfl (slT (v := .int .i64 L[i].From) (by rw [Nat.zero_add]; exact f0)) (slT (v := .int .i64 L[i].To) (by rw [Nat.zero_add]; exact f1)) (slT (v := .int .i64 L[i].Word) (by rw [Nat.zero_add]; exact f2)) (slT (v := .int .i64 L[i].Cost) (by rw [Nat.zero_add]; exact f3))) hS.rd ?_
        refine LW.hv rfl rfl rfl rfl (Hv.buildSl hS Try.underlying36 ti43 rfl rfl rfl rfl rfl rfl) fun v w34 ⟨b34, hv, hb34, hS⟩ => ?_
        subst hv
        refine LW.hv rfl rfl rfl rfl (Hv.append (k := 1) rfl Try.underlying36 ti43 rfl hS rfl rfl rfl rfl (Rd.objAll (k := 0) rfl hS.rd) (by simp [Value.oneCell']) (by unfold maxLen; omega) (by omega)) fun v w35 ⟨ad35, c35, hv, hS⟩ => ?_
        subst hv
        dsimp only [List.set] at hS
        have hS := hS.drop 0 rfl
        dsimp only [List.eraseIdx] at hS
        rw [show ls.flatMap edgeL ++ [Value.int .i64 L[i].From, .int .i64 L[i].To, .int .i64 L[i].Word, .int .i64 L[i].Cost] = (ls ++ [L[i]]).flatMap edgeL by rw [List.flatMap_append, List.flatMap_singleton]; rfl] at hS
        refine LW.ex rfl rfl rfl rfl (Ex.assign rfl) hS.rd ?_
        refine LW.nil fun aa ha => hK46 _ _ _ ?_ aa ha
        refine CW.region [0, 1, 2] rfl ?_
        refine LW.ex rfl rfl rfl rfl (Ex.move rfl) hS.rd ?_
        refine LW.ex rfl rfl rfl rfl (Ex.add rfl rfl (by first | exact inc64 (by omega) | exact addN (by omega) | exact w64 (by omega) (by omega))) hS.rd ?_
        refine LW.ex rfl rfl rfl rfl (Ex.assign rfl) hS.rd ?_
        refine LW.nil fun aa ha => ?_
        refine ⟨_, _, ?m3, ⟨i + 1, ad35, c35, l + 1, ls ++ [L[i]], false, (by first | omega | (simp; done) | (simp; omega)), (by first | omega | (simp; done) | (simp; omega)), (by first | omega | (simp; done) | (simp; omega)), rfl, rfl, hS, by rw [hG]; simp_all⟩, ha.sub ⟨rfl, rfl, rfl, rfl, rfl, trivial⟩⟩
        case m3 => omega
  · have h3_3 := of_decide_eq_false h3_3
    refine LW.nil fun aa ha => hK45 _ _ _ ?_ aa ha
    refine CW.no rfl ?_
    refine CW.exit fun aa ha => hK42 _ _ _ ?_ aa ha
    refine CW.seq fun K49 hK49 => ?_
    refine CW.seq fun K50 hK50 => ?_
    rw [List.drop_of_length_le (by omega), insG] at hG
    refine CW.region [0, 1] rfl ?_
    refine LW.ex rfl rfl rfl rfl (Ex.move rfl) hS.rd ?_
    refine LW.splitB (fun h8_0 => ?_) (fun h8_0 => ?_)
    · subst h8_0
      refine LW.ex rfl rfl rfl rfl (Ex.not rfl rfl) hS.rd ?_
      refine LW.nil fun aa ha => hK50 _ _ _ ?_ aa ha
      refine CW.no rfl ?_
      refine CW.skip fun aa ha => hK49 _ _ _ ?_ aa ha
      refine CW.seq fun K51 hK51 => ?_
      refine CW.region [0, 1] rfl ?_
      refine LW.ex rfl rfl rfl rfl (Ex.move rfl) hS.rd ?_
      refine LW.ex rfl rfl rfl rfl (Ex.assign rfl) hS.rd ?_
      refine LW.nil fun aa ha => hK51 _ _ _ ?_ aa ha
      refine CW.ret fun aa ha => ?_
      refine ret_one ha Try.results32 rfl ?_
      have e' : insE e L = ls := by rw [hG]; simp
      have hS := hS.drop 1 rfl
      dsimp only [List.eraseIdx] at hS
      rw [hll] at hS
      rw [e']; exact ⟨_, rfl, _, _, by rw [hll], hS⟩
    · subst h8_0
      refine LW.ex rfl rfl rfl rfl (Ex.not rfl rfl) hS.rd ?_
      refine LW.nil fun aa ha => hK50 _ _ _ ?_ aa ha
      refine CW.yes rfl ?_
      refine CW.region [0, 1, 2, 3, 4] rfl ?_
      refine LW.ex rfl rfl rfl rfl (Ex.move rfl) hS.rd ?_
      refine LW.ex rfl rfl rfl rfl (Ex.load4c ti43 rfl rfl (by first | exact obT rfl | exact Rd.imm ‹_› | exact slT ‹_›) (by first | exact obT rfl | exact Rd.imm ‹_› | exact slT ‹_›) (by first | exact obT rfl | exact Rd.imm ‹_› | exact slT ‹_›) (by first | exact obT rfl | exact Rd.imm ‹_› | exact slT ‹_›)) hS.rd ?_
      refine LW.hv rfl rfl rfl rfl (Hv.buildSl hS Try.underlying36 ti43 rfl rfl rfl rfl rfl rfl) fun v w40 ⟨b40, hv, hb40, hS⟩ => ?_
      subst hv
      refine LW.hv rfl rfl rfl rfl (Hv.append (k := 1) rfl Try.underlying36 ti43 rfl hS rfl rfl rfl rfl (Rd.objAll (k := 0) rfl hS.rd) (by simp [Value.oneCell']) (by unfold maxLen; omega) (by omega)) fun v w41 ⟨ad41, c41, hv, hS⟩ => ?_
      subst hv
      dsimp only [List.set] at hS
      have hS := hS.drop 0 rfl
      dsimp only [List.eraseIdx] at hS
      rw [show ls.flatMap edgeL ++ [Value.int .i64 e.From, .int .i64 e.To, .int .i64 e.Word, .int .i64 e.Cost] = (ls ++ [e]).flatMap edgeL by rw [List.flatMap_append, List.flatMap_singleton]; rfl] at hS
      refine LW.ex rfl rfl rfl rfl (Ex.assign rfl) hS.rd ?_
      refine LW.nil fun aa ha => hK49 _ _ _ ?_ aa ha
      refine CW.seq fun K52 hK52 => ?_
      refine CW.region [0, 1] rfl ?_
      refine LW.ex rfl rfl rfl rfl (Ex.move rfl) hS.rd ?_
      refine LW.ex rfl rfl rfl rfl (Ex.assign rfl) hS.rd ?_
      refine LW.nil fun aa ha => hK52 _ _ _ ?_ aa ha
      refine CW.ret fun aa ha => ?_
      refine ret_one ha Try.results32 rfl ?_
      have e' : insE e L = ls ++ [e] := by rw [hG]; simp
      have hl2 : l + 1 = (ls ++ [e]).length := by simp [hll]
      have hS := hS.drop 1 rfl
      dsimp only [List.eraseIdx] at hS
      rw [hl2] at hS
      rw [e']; exact ⟨_, rfl, _, _, by rw [hl2], hS⟩
end Go.Proofs.Ytgnpjhellmfhoaa

