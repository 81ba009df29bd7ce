/-
  The walks of slices.Clone, slices.IndexFunc and slices.Insert at the taps.
-/
import Derived.Test.YtphgjongflkolaaArO
import Derived.Test.YtphgjongflkolaaIns
namespace Go.Proofs.Ytphgjongflkolaa
open Go.RowKit Sy Go.Sort

set_option maxRecDepth 100000 in
theorem insertT_c {w0 w : World} {μ : Mem} {L : List Own} {ad : Option Addr} {n c i bv : Nat} {xs : List Tap} {x : Tap} (hS : St w0 w μ (Own.obj bv (tapL x) 82 :: Own.sl ad n c 82 4 (xs.flatMap tapL) :: L)) (hn : n = xs.length) (hi : i ≤ n) (hbig : n ≤ 1000000) :
    Calls Try.prog 45 #[.slice ad n c, .int .i64 i, .slice (some ⟨bv, 0, none⟩) 1 1] w (RetM fun v w' => ∃ ad' c', v = .slice ad' (n + 1) c' ∧ St w0 w' μ (Own.sl ad' (n + 1) c' 82 4 ((xs.take i ++ x :: xs.drop i).flatMap tapL) :: L)) := by
  have hul : (xs.flatMap tapL).length = n * 4 := by rw [flatMap_len tapL_len, hn]
  have hxl := tapL_len x
  have hA : (xs.flatMap tapL).take (i * 4) = (xs.take i).flatMap tapL := flatMap_take tapL_len xs i
  have hB : (xs.flatMap tapL).drop (i * 4) = (xs.drop i).flatMap tapL := flatMap_drop tapL_len xs i
  have hAl : ((xs.take i).flatMap tapL).length = i * 4 := by rw [flatMap_len tapL_len, List.length_take, ← hn, Nat.min_eq_left hi]
  have hBl : ((xs.drop i).flatMap tapL).length = (n - i) * 4 := by rw [flatMap_len tapL_len, List.length_drop, ← hn]
  have hAB : xs.flatMap tapL = (xs.take i).flatMap tapL ++ (xs.drop i).flatMap tapL := by rw [← List.flatMap_append, List.take_append_drop]
  have hone : ∀ u ∈ (xs.drop i).flatMap tapL, u.oneCell' = true := tapOnes _
  have hres : (xs.take i ++ x :: xs.drop i).flatMap tapL = (xs.take i).flatMap tapL ++ tapL x ++ (xs.drop i).flatMap tapL := by rw [List.flatMap_append, List.flatMap_cons, List.append_assoc]
  have hmul : (n + 1) * 4 = i * 4 + 4 + (n - i) * 4 := by rw [← Nat.add_one_mul, ← Nat.add_mul]; congr 1; omega
  refine calls_start 95 [.slice ad n c, .int .i64 i, .slice (some ⟨bv, 0, none⟩) 1 1] Try.func45 rfl Try.ntmps45 rfl rfl ?_
  refine CW.seq fun K1 hK1 => ?_
  refine CW.region [0] rfl ?_
  refine LW.ex rfl rfl rfl rfl (Ex.assign rfl) hS.rd ?_
  refine LW.nil fun aa ha => hK1 _ _ _ ?_ aa ha
  refine CW.seq fun K2 hK2 => ?_
  refine CW.region [0, 1, 2] rfl ?_
  refine LW.ex rfl rfl rfl rfl (Ex.move rfl) hS.rd ?_
  refine LW.ex rfl rfl rfl rfl (Ex.move rfl) hS.rd ?_
  refine LW.ex rfl rfl rfl rfl (Ex.sliceAny Try.underlying33 ti82 rfl rfl rfl hi) hS.rd ?_
  refine LW.nil fun aa ha => hK2 _ _ _ ?_ aa ha
  refine CW.seq fun K3 hK3 => ?_
  refine CW.region [0, 1, 2] rfl ?_
  refine LW.ex rfl rfl rfl rfl (Ex.move rfl) hS.rd ?_
  refine LW.ex rfl rfl rfl rfl (Ex.lenSl rfl Try.underlying33 rfl) hS.rd ?_
  refine LW.ex rfl rfl rfl rfl (Ex.assign rfl) hS.rd ?_
  refine LW.nil fun aa ha => hK3 _ _ _ ?_ aa ha
  refine CW.seq fun K4 hK4 => ?_
  refine CW.seq fun K5 hK5 => ?_
  refine CW.region [0, 1] rfl ?_
  refine LW.ex rfl rfl rfl rfl (Ex.move rfl) hS.rd ?_
  refine LW.ex rfl rfl rfl rfl (Ex.eql rfl rfl (decide_eq_false (by omega))) hS.rd ?_
  refine LW.nil fun aa ha => hK5 _ _ _ ?_ aa ha
  refine CW.no rfl ?_
  refine CW.skip fun aa ha => hK4 _ _ _ ?_ aa ha
  refine CW.seq fun K6 hK6 => ?_
  refine CW.region [0, 1, 2] rfl ?_
  refine LW.ex rfl rfl rfl rfl (Ex.move rfl) hS.rd ?_
  refine LW.ex rfl rfl rfl rfl (Ex.lenSl rfl Try.underlying33 rfl) hS.rd ?_
  refine LW.ex rfl rfl rfl rfl (Ex.assign rfl) hS.rd ?_
  refine LW.nil fun aa ha => hK6 _ _ _ ?_ aa ha
  refine CW.seq fun K7 hK7 => ?_
  refine CW.seq fun K8 hK8 => ?_
  refine CW.region [0, 1, 2] rfl ?_
  refine LW.ex rfl rfl rfl rfl (Ex.move rfl) hS.rd ?_
  refine LW.ex rfl rfl rfl rfl (Ex.move rfl) hS.rd ?_
  refine LW.ex rfl rfl rfl rfl (Ex.eql rfl rfl rfl) hS.rd ?_
  refine LW.splitB (fun h6_2 => ?_) (fun h6_2 => ?_)
  · have h6_2 := of_decide_eq_true h6_2
    refine LW.nil fun aa ha => hK8 _ _ _ ?_ aa ha
    refine CW.yes rfl ?_
    refine CW.seq fun K9 hK9 => ?_
    refine CW.region [0, 1, 2, 3] rfl ?_
    refine LW.ex rfl rfl rfl rfl (Ex.move rfl) hS.rd ?_
    refine LW.ex rfl rfl rfl rfl (Ex.move rfl) hS.rd ?_
    refine LW.hv rfl rfl rfl rfl (Hv.append (k := 1) rfl Try.underlying33 ti82 rfl hS rfl rfl rfl rfl (Rd.objAll (k := 0) rfl hS.rd) (tapOne x) (by unfold maxLen; omega) (by omega)) fun v w25 ⟨ad25, c25, hv, hS⟩ => ?_
    subst hv
    dsimp only [List.set] at hS
    have hS := hS.drop 0 rfl
    dsimp only [List.eraseIdx] at hS
    refine LW.ex rfl rfl rfl rfl (Ex.assign rfl) hS.rd ?_
    refine LW.nil fun aa ha => hK9 _ _ _ ?_ aa ha
    refine CW.ret fun aa ha => ?_
    refine ret_one ha Try.results45 rfl ?_
    refine ⟨_, rfl, _, _, rfl, ?_⟩
    rw [List.take_of_length_le (by omega), List.drop_of_length_le (by omega), List.flatMap_append, List.flatMap_cons, List.flatMap_nil, List.append_nil]
    exact hS
  · have h6_2 := of_decide_eq_false h6_2
    refine LW.nil fun aa ha => hK8 _ _ _ ?_ aa ha
    refine CW.no rfl ?_
    refine CW.skip fun aa ha => hK7 _ _ _ ?_ aa ha
    refine CW.seq fun K10 hK10 => ?_
    refine CW.seq fun K11 hK11 => ?_
    have hin : i < n := by omega
    obtain ⟨g, rfl⟩ := hS.sl_some 1 rfl (by omega)
    have hcap := hS.sl_cap 1 rfl
    obtain ⟨rest, hrl, hS⟩ := hS.open_sl 1 rfl
    dsimp only [List.set] at hS
    have hne := hS.ne_obj
    rw [hAB] at hS
    refine CW.region [0, 1, 2, 3, 4, 5] rfl ?_
    refine LW.ex rfl rfl rfl rfl (Ex.move rfl) hS.rd ?_
    refine LW.ex rfl rfl rfl rfl (Ex.move rfl) hS.rd ?_
    refine LW.ex rfl rfl rfl rfl (Ex.add rfl rfl (by first | exact inc64 (by omega) | exact addN (by omega) | exact w64 (by omega) (by omega))) hS.rd ?_
    refine LW.ex rfl rfl rfl rfl (Ex.move rfl) hS.rd ?_
    refine LW.ex rfl rfl rfl rfl (Ex.capSl rfl Try.underlying33 rfl) hS.rd ?_
    refine LW.ex rfl rfl rfl rfl (Ex.gtr rfl rfl rfl) hS.rd ?_
    refine LW.splitB (fun h8_5 => ?_) (fun h8_5 => ?_)
    · have h8_5 := of_decide_eq_true h8_5
      refine LW.nil fun aa ha => hK11 _ _ _ ?_ aa ha
      refine CW.yes rfl ?_
      refine CW.seq fun K12 hK12 => ?_
      refine CW.region [0, 1, 2, 3, 4, 5, 6, 7, 8, 9] rfl ?_
      refine LW.ex rfl rfl rfl rfl (Ex.move rfl) hS.rd ?_
      refine LW.ex rfl rfl rfl rfl (Ex.move rfl) hS.rd ?_
      refine LW.ex rfl rfl rfl rfl (Ex.sliceTo Try.underlying33 ti82 rfl rfl rfl (by omega)) hS.rd ?_
      refine LW.ex rfl rfl rfl rfl (Ex.move rfl) hS.rd ?_
      refine LW.ex rfl rfl rfl rfl (Ex.move rfl) hS.rd ?_
      refine LW.ex rfl rfl rfl rfl (Ex.add rfl rfl (by first | exact inc64 (by omega) | exact addN (by omega) | exact w64 (by omega) (by omega))) hS.rd ?_
      refine LW.ex rfl rfl rfl rfl (Ex.move rfl) hS.rd ?_
      refine LW.ex rfl rfl rfl rfl (Ex.sub rfl rfl (subN (by omega) (by omega))) hS.rd ?_
      refine LW.hv rfl rfl rfl rfl (Hv.appendZ (n := n + 1 - i) (ln := n + 1) (vs := (xs.take i).flatMap tapL) rfl Try.underlying33 Try.underlying3 ti82 rfl hS rfl rfl rfl hAl (fun j u hu => Rd.obj (k := 1) rfl (by rw [List.append_assoc, List.getElem?_append_left (List.getElem?_eq_some_iff.1 hu).1]; exact hu) _ hS.rd) (by omega) (by omega) (by unfold maxLen; omega) (by omega)) fun v w40 ⟨g2, c2, rest2, hv, hc2, hc2m, hr2, hS⟩ => ?_
      subst hv
      refine LW.ex rfl rfl rfl rfl (Ex.assign rfl) hS.rd ?_
      refine LW.nil fun aa ha => hK12 _ _ _ ?_ aa ha
      refine CW.seq fun K13 hK13 => ?_
      have hfa : 0 + i * 4 + (tapL x).length ≤ ((xs.take i).flatMap tapL ++ rest2).length := by
        rw [List.length_append, hAl, hr2, hxl, ← Nat.add_mul]
        have h1 := Nat.mul_le_mul_right 4 (show i + 1 ≤ i + (c2 - i) by omega)
        omega
      refine CW.region [0, 1, 2, 3, 4] rfl ?_
      refine LW.ex rfl rfl rfl rfl (Ex.move rfl) hS.rd ?_
      refine LW.ex rfl rfl rfl rfl (Ex.move rfl) hS.rd ?_
      refine LW.ex rfl rfl rfl rfl (Ex.sliceFrom Try.underlying33 ti82 rfl rfl rfl (by omega) (by omega)) hS.rd ?_
      refine LW.ex rfl rfl rfl rfl (Ex.move rfl) hS.rd ?_
      refine LW.hv rfl rfl rfl rfl (Hv.copyObj (k := 0) (vs := tapL x) rfl Try.underlying33 ti82 hS rfl rfl rfl (by rw [hxl, show Nat.min 1 (n + 1 - i) = 1 from Nat.min_eq_left (by omega)]) (Rd.objAll (k := 1) rfl hS.rd) (tapOne x) hfa) fun v w45 hS => ?_
      dsimp only [List.set] at hS
      refine LW.nil fun aa ha => hK13 _ _ _ ?_ aa ha
      refine CW.seq fun K14 hK14 => ?_
      have hfb : 0 + (i + 1) * 4 + ((xs.drop i).flatMap tapL).length ≤ (patch ((xs.take i).flatMap tapL ++ rest2) (0 + i * 4) (tapL x)).length := by
        rw [patch_len _ _ hfa, List.length_append, hAl, hr2, hBl, ← Nat.add_mul]
        have h1 := Nat.mul_le_mul_right 4 (show i + 1 + (n - i) ≤ i + (c2 - i) by omega)
        rw [Nat.add_mul] at h1
        omega
      have hS := hS.drew
      refine CW.draw 8 (.ex 0 <| .ex 1 <| .ex 2 <| .ex 3 <| .ex 4 <| .ex 5 <| .ex 6 <| .ex 7 <| .done) [8] (Rd _ _) mixed (by kernel_rfl) rfl rfl hS.rd ?_
      refine PW.ex rfl rfl rfl rfl (Ex.move rfl) ?_
      refine PW.ex rfl rfl rfl rfl (Ex.move rfl) ?_
      refine PW.ex rfl rfl rfl rfl (Ex.move rfl) ?_
      refine PW.ex rfl rfl rfl rfl (Ex.add rfl rfl (by first | exact inc64 (by omega) | exact addN (by omega) | exact w64 (by omega) (by omega))) ?_
      refine PW.ex rfl rfl rfl rfl (Ex.sliceFrom Try.underlying33 ti82 rfl rfl rfl (by omega) (by omega)) ?_
      refine PW.ex rfl rfl rfl rfl (Ex.move rfl) ?_
      refine PW.ex rfl rfl rfl rfl (Ex.move rfl) ?_
      refine PW.ex rfl rfl rfl rfl (Ex.sliceFrom Try.underlying33 ti82 rfl rfl rfl (by omega) (by omega)) ?_
      refine PW.nil ?_
      refine LW.hv rfl rfl rfl rfl (Hv.copyObj (k := 0) (vs := (xs.drop i).flatMap tapL) rfl Try.underlying33 ti82 hS rfl rfl rfl (by rw [hBl, show Nat.min (n - i) (n + 1 - (i + 1)) = n - i by rw [show n + 1 - (i + 1) = n - i by omega]; exact Nat.min_self _]) (fun j u hu => Rd.obj (k := 2) rfl (by rw [List.append_assoc, List.getElem?_append_right (by rw [hAl]; omega), hAl, show 0 + i * 4 + j - i * 4 = j by omega, List.getElem?_append_left (List.getElem?_eq_some_iff.1 hu).1]; exact hu) _ hS.rd) hone hfb) fun v w54 hS => ?_
      dsimp only [List.set] at hS
      refine LW.nil fun aa ha => hK14 _ _ _ ?_ aa ha
      refine CW.seq fun K15 hK15 => ?_
      refine CW.region [0, 1] rfl ?_
      refine LW.ex rfl rfl rfl rfl (Ex.move rfl) hS.rd ?_
      refine LW.ex rfl rfl rfl rfl (Ex.assign rfl) hS.rd ?_
      refine LW.nil fun aa ha => hK15 _ _ _ ?_ aa ha
      refine CW.ret fun aa ha => ?_
      have hS := hS.close_sl 0 rfl (n + 1) c2 4 hc2 hc2m (by rw [patch_len _ _ hfb, patch_len _ _ hfa, List.length_append, hAl, hr2, ← Nat.add_mul, show i + (c2 - i) = c2 by omega])
      dsimp only [List.set] at hS
      have hS := hS.drop 1 rfl
      dsimp only [List.eraseIdx] at hS
      have hS := hS.drop 1 rfl
      dsimp only [List.eraseIdx] at hS
      refine ret_one ha Try.results45 rfl ?_
      refine ⟨_, rfl, _, _, rfl, ?_⟩
      have hcells := ins_cells2 (A := (xs.take i).flatMap tapL) (X := tapL x) (B := (xs.drop i).flatMap tapL) (R := rest2) (by rw [hxl, hBl, hr2]; have := Nat.mul_le_mul_right 4 (show 1 + (n - i) ≤ c2 - i by omega); rw [Nat.add_mul] at this; omega)
      rw [hAl, hxl, hBl, ← hmul] at hcells
      rw [hres, ← hcells]
      rw [show 0 + i * 4 = i * 4 by omega, show 0 + (i + 1) * 4 = i * 4 + 4 by rw [Nat.add_mul]; omega] at hS
      exact hS
    · have h8_5 := of_decide_eq_false h8_5
      refine LW.nil fun aa ha => hK11 _ _ _ ?_ aa ha
      refine CW.no rfl ?_
      refine CW.skip fun aa ha => hK10 _ _ _ ?_ aa ha
      refine CW.seq fun K16 hK16 => ?_
      refine CW.region [0, 1, 2, 3, 4, 5] rfl ?_
      refine LW.ex rfl rfl rfl rfl (Ex.move rfl) hS.rd ?_
      refine LW.ex rfl rfl rfl rfl (Ex.move rfl) hS.rd ?_
      refine LW.ex rfl rfl rfl rfl (Ex.move rfl) hS.rd ?_
      refine LW.ex rfl rfl rfl rfl (Ex.add rfl rfl (by first | exact inc64 (by omega) | exact addN (by omega) | exact w64 (by omega) (by omega))) hS.rd ?_
      refine LW.ex rfl rfl rfl rfl (Ex.sliceTo Try.underlying33 ti82 rfl rfl rfl (by omega)) hS.rd ?_
      refine LW.ex rfl rfl rfl rfl (Ex.assign rfl) hS.rd ?_
      refine LW.nil fun aa ha => hK16 _ _ _ ?_ aa ha
      refine CW.seq fun K17 hK17 => ?_
      refine CW.seq fun K18 hK18 => ?_
      refine CW.region [0, 1, 2, 3, 4, 5, 6, 7] rfl ?_
      refine LW.ex rfl rfl rfl rfl (Ex.move rfl) hS.rd ?_
      refine LW.ex rfl rfl rfl rfl (Ex.move rfl) hS.rd ?_
      refine LW.ex rfl rfl rfl rfl (Ex.move rfl) hS.rd ?_
      refine LW.ex rfl rfl rfl rfl (Ex.move rfl) hS.rd ?_
      refine LW.ex rfl rfl rfl rfl (Ex.add rfl rfl (by first | exact inc64 (by omega) | exact addN (by omega) | exact w64 (by omega) (by omega))) hS.rd ?_
      refine LW.ex rfl rfl rfl rfl (Ex.sliceFrom Try.underlying33 ti82 rfl rfl rfl (by omega) (by omega)) hS.rd ?_
      refine LW.hv rfl rfl rfl rfl (Hv.overlaps (i := 0) (j := 1) (tR := 4) Try.func69 (by kernel_rfl) (by kernel_rfl) (by kernel_rfl) (by kernel_rfl) Try.underlying33 ti82 hS rfl rfl hne (by rw [List.length_append, List.length_append, hAl, hBl, ← Nat.add_mul]; have := Nat.mul_le_mul_right 4 (show 1 ≤ i + (n - i) by omega); omega) rfl rfl rfl) fun v w67 ⟨hv, hS⟩ => ?_
      subst hv
      refine LW.ex rfl rfl rfl rfl (Ex.not rfl rfl) hS.rd ?_
      refine LW.nil fun aa ha => hK18 _ _ _ ?_ aa ha
      refine CW.yes rfl ?_
      refine CW.seq fun K19 hK19 => ?_
      have hfit1 : 0 + (i + 1) * 4 + ((xs.drop i).flatMap tapL).length ≤ ((xs.take i).flatMap tapL ++ (xs.drop i).flatMap tapL ++ rest).length := by
        rw [List.length_append, List.length_append, hAl, hBl, hrl, ← Nat.add_mul, ← Nat.add_mul]
        have h1 := Nat.mul_le_mul_right 4 (show i + 1 + (n - i) ≤ i + (n - i) + (c - n) by omega)
        rw [Nat.add_mul] at h1
        omega
      have hS := hS.drew
      refine CW.draw 8 (.ex 0 <| .ex 1 <| .ex 2 <| .ex 3 <| .ex 4 <| .ex 5 <| .ex 6 <| .ex 7 <| .done) [8] (Rd _ _) mixed (by kernel_rfl) rfl rfl hS.rd ?_
      refine PW.ex rfl rfl rfl rfl (Ex.move rfl) ?_
      refine PW.ex rfl rfl rfl rfl (Ex.move rfl) ?_
      refine PW.ex rfl rfl rfl rfl (Ex.move rfl) ?_
      refine PW.ex rfl rfl rfl rfl (Ex.add rfl rfl (by first | exact inc64 (by omega) | exact addN (by omega) | exact w64 (by omega) (by omega))) ?_
      refine PW.ex rfl rfl rfl rfl (Ex.sliceFrom Try.underlying33 ti82 rfl rfl rfl (by omega) (by omega)) ?_
      refine PW.ex rfl rfl rfl rfl (Ex.move rfl) ?_
      refine PW.ex rfl rfl rfl rfl (Ex.move rfl) ?_
      refine PW.ex rfl rfl rfl rfl (Ex.sliceFrom Try.underlying33 ti82 rfl rfl rfl (by omega) (by omega)) ?_
      refine PW.nil ?_
      refine LW.hv rfl rfl rfl rfl (Hv.copyObj (k := 1) (vs := (xs.drop i).flatMap tapL) rfl Try.underlying33 ti82 hS rfl rfl rfl (by rw [hBl, show Nat.min (n + 1 - i) (n + 1 - (i + 1)) = n - i by rw [show n + 1 - (i + 1) = n - i by omega]; exact Nat.min_eq_right (by omega)]) (fun j u hu => Rd.obj (k := 1) rfl (by rw [List.append_assoc, List.getElem?_append_right (by rw [hAl]; omega), hAl, show 0 + i * 4 + j - i * 4 = j by omega, List.getElem?_append_left (List.getElem?_eq_some_iff.1 hu).1]; exact hu) _ hS.rd) hone hfit1) fun v w77 hS => ?_
      dsimp only [List.set] at hS
      refine LW.nil fun aa ha => hK19 _ _ _ ?_ aa ha
      refine CW.seq fun K20 hK20 => ?_
      have hfit2 : 0 + i * 4 + (tapL x).length ≤ (patch ((xs.take i).flatMap tapL ++ (xs.drop i).flatMap tapL ++ rest) (0 + (i + 1) * 4) ((xs.drop i).flatMap tapL)).length := by
        rw [patch_len _ _ hfit1, hxl, List.length_append, List.length_append, hAl, hBl, hrl, ← Nat.add_mul, ← Nat.add_mul]
        have h1 := Nat.mul_le_mul_right 4 (show i + 1 ≤ i + (n - i) + (c - n) by omega)
        omega
      refine CW.region [0, 1, 2, 3, 4] rfl ?_
      refine LW.ex rfl rfl rfl rfl (Ex.move rfl) hS.rd ?_
      refine LW.ex rfl rfl rfl rfl (Ex.move rfl) hS.rd ?_
      refine LW.ex rfl rfl rfl rfl (Ex.sliceFrom Try.underlying33 ti82 rfl rfl rfl (by omega) (by omega)) hS.rd ?_
      refine LW.ex rfl rfl rfl rfl (Ex.move rfl) hS.rd ?_
      refine LW.hv rfl rfl rfl rfl (Hv.copyObj (k := 1) (vs := tapL x) rfl Try.underlying33 ti82 hS rfl rfl rfl (by rw [hxl, show Nat.min 1 (n + 1 - i) = 1 from Nat.min_eq_left (by omega)]) (Rd.objAll (k := 0) rfl hS.rd) (tapOne x) hfit2) fun v w82 hS => ?_
      dsimp only [List.set] at hS
      refine LW.nil fun aa ha => hK20 _ _ _ ?_ aa ha
      refine CW.seq fun K21 hK21 => ?_
      refine CW.region [0, 1] rfl ?_
      refine LW.ex rfl rfl rfl rfl (Ex.move rfl) hS.rd ?_
      refine LW.ex rfl rfl rfl rfl (Ex.assign rfl) hS.rd ?_
      refine LW.nil fun aa ha => hK21 _ _ _ ?_ aa ha
      refine CW.ret fun aa ha => ?_
      have hS := hS.close_sl 1 rfl (n + 1) c 4 (by omega) hcap.2 (by rw [patch_len _ _ hfit2, patch_len _ _ hfit1, List.length_append, List.length_append, hAl, hBl, hrl, ← Nat.add_mul, ← Nat.add_mul]; congr 1; omega)
      dsimp only [List.set] at hS
      have hS := hS.drop 0 rfl
      dsimp only [List.eraseIdx] at hS
      refine ret_one ha Try.results45 rfl ?_
      refine ⟨_, rfl, _, _, rfl, ?_⟩
      have hcells := ins_cells (A := (xs.take i).flatMap tapL) (X := tapL x) (B := (xs.drop i).flatMap tapL) (R := rest) (by rw [hxl, hrl]; have := Nat.mul_le_mul_right 4 (show 1 ≤ c - n by omega); omega)
      rw [hAl, hxl, hBl, ← hmul] at hcells
      rw [hres, ← hcells]
      rw [show 0 + i * 4 = i * 4 by omega, show 0 + (i + 1) * 4 = i * 4 + 4 by rw [Nat.add_mul]; omega] at hS
      exact hS

theorem tapSl {μ : Mem} {ad : Option Addr} {c : Nat} {xs : List Tap} (h : Sl μ ad c xs) : ad = none → xs = [] := fun e => by
  subst e
  cases xs with
  | nil => rfl
  | cons x r => obtain ⟨b, off, e, _⟩ := h.at (i := 0) (by simp); cases e
set_option maxRecDepth 100000 in
theorem cloneT_c {w0 w : World} {μ : Mem} {L : List Own} {ad : Option Addr} {c : Nat} {xs : List Tap} (hS : St w0 w μ L) (hx : Sl μ ad c xs) (hbig : xs.length ≤ 1000000) :
    Calls Try.prog 43 #[.slice ad xs.length c] w (RetM fun v w' => ∃ ad' c', v = .slice ad' xs.length c' ∧ St w0 w' μ (Own.sl ad' xs.length c' 82 4 (xs.flatMap tapL) :: L)) := by
  refine calls_start 8 [.slice ad xs.length c] Try.func43 rfl Try.ntmps43 rfl rfl ?_
  refine CW.seq fun K22 hK22 => ?_
  refine CW.region [0] rfl ?_
  refine LW.ex rfl rfl rfl rfl (Ex.assign rfl) hS.rd ?_
  refine LW.nil fun aa ha => hK22 _ _ _ ?_ aa ha
  refine CW.seq fun K23 hK23 => ?_
  refine CW.seq fun K24 hK24 => ?_
  refine CW.region [0, 1] rfl ?_
  refine LW.ex rfl rfl rfl rfl (Ex.move rfl) hS.rd ?_
  refine LW.ex rfl rfl rfl rfl (Ex.eqlSlN Try.underlying33 rfl rfl) hS.rd ?_
  refine LW.splitB (fun h1_1 => ?_) (fun h1_1 => ?_)
  · skip
    refine LW.nil fun aa ha => hK24 _ _ _ ?_ aa ha
    refine CW.yes rfl ?_
    refine CW.seq fun K25 hK25 => ?_
    refine CW.region [0] rfl ?_
    refine LW.ex rfl rfl rfl rfl (Ex.assign rfl) hS.rd ?_
    refine LW.nil fun aa ha => hK25 _ _ _ ?_ aa ha
    refine CW.ret fun aa ha => ?_
    refine ret_one ha Try.results43 rfl ?_
    have he : xs = [] := tapSl hx (by simpa using h1_1)
    subst he
    exact ⟨_, rfl, none, 0, rfl, nil_sl _ _ hS⟩
  · skip
    refine LW.nil fun aa ha => hK24 _ _ _ ?_ aa ha
    refine CW.no rfl ?_
    refine CW.skip fun aa ha => hK23 _ _ _ ?_ aa ha
    refine CW.seq fun K26 hK26 => ?_
    refine CW.region [0, 1, 2, 3] rfl ?_
    refine LW.hv rfl rfl rfl rfl (Hv.buildSl hS Try.underlying33 ti82 rfl rfl rfl rfl rfl rfl) fun v w5 ⟨b5, hv, hb5, hS⟩ => ?_
    subst hv
    have hS := hS.row_sl (k := 0) rfl 0 4 rfl (by simp [maxLen])
    dsimp only [List.set] at hS
    refine LW.ex rfl rfl rfl rfl (Ex.move rfl) hS.rd ?_
    refine LW.hv rfl rfl rfl rfl (Hv.appendFlat (enc := tapL) (k := 0) (ys := []) (h0 := by decide) tapL_len tapEnc tapOnes rfl Try.underlying33 ti82 rfl hS rfl hx rfl rfl (by unfold maxLen; omega) (by omega)) fun v w7 ⟨ad7, c7, hv, hS⟩ => ?_
    subst hv
    dsimp only [List.set] at hS
    refine LW.ex rfl rfl rfl rfl (Ex.assign rfl) hS.rd ?_
    refine LW.nil fun aa ha => hK26 _ _ _ ?_ aa ha
    refine CW.ret fun aa ha => ?_
    refine ret_one ha Try.results43 rfl ?_
    rw [show 0 + xs.length = xs.length by omega] at hS ⊢
    exact ⟨_, rfl, ad7, c7, rfl, hS⟩
end Go.Proofs.Ytphgjongflkolaa

