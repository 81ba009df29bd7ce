/-
  Context: the nodes, in plain Lean and in the program.
-/
import Derived.Test.YtgnpjhellmfhoaaCxN
namespace Go.Proofs.Ytgnpjhellmfhoaa
open Go.RowKit Sy Go.Sort

theorem ndLt_irr (x : I2) : ¬ ndLt x x := by unfold ndLt; omega
theorem ndLt_asym (x y : I2) : ndLt x y → ¬ ndLt y x := by unfold ndLt; omega
theorem ndLt_trans {x y z : I2} : ndLt x y → ndLt y z → ndLt x z := by unfold ndLt; omega
theorem ndLt_tot {x y : I2} (h : ¬ ndLt y x) : x = y ∨ ndLt x y := by
  by_cases h1 : x = y
  · exact .inl h1
  · right
    have : ¬ (x.a = y.a ∧ x.b = y.b) := fun e => h1 (i2_ext e.1 e.2)
    unfold ndLt at *; omega
theorem dd_mem (z : I2) : ∀ xs : List I2, z ∈ dd xs ↔ z ∈ xs
  | [] => by simp [dd]
  | [a] => by simp [dd]
  | a :: b :: r => by
    have ih := dd_mem z (b :: r)
    rw [dd]
    split
    · rename_i h; subst h; rw [ih]; simp
    · rw [List.mem_cons, ih, List.mem_cons]; simp
theorem dd_strict : ∀ xs : List I2, xs.Pairwise (fun x y => ¬ ndLt y x) → (dd xs).Pairwise ndLt
  | [], _ => by simp [dd]
  | [a], _ => by simp [dd]
  | a :: b :: r, h => by
    have h' := List.pairwise_cons.1 h
    have ih := dd_strict (b :: r) h'.2
    rw [dd]
    split
    · exact ih
    · rename_i hne
      refine List.pairwise_cons.2 ⟨fun y hy => ?_, ih⟩
      rw [dd_mem] at hy
      have hab : ndLt a b := (ndLt_tot (h'.1 b (List.mem_cons_self ..))).resolve_left hne
      rcases List.mem_cons.1 hy with rfl | hy
      · exact hab
      · rcases ndLt_tot ((List.pairwise_cons.1 h'.2).1 y hy) with rfl | h2
        · exact hab
        · exact ndLt_trans hab h2
def endsL (x : Lat) : List I2 := (x.Edges.filter fun e => decide (e.To < x.N)).map fun e => ⟨e.To, e.Word⟩
def endsAt (x : Lat) (p w : Nat) : Bool := x.Edges.any fun e => decide (e.To = p ∧ e.Word = w)
/-- The nodes between the first and the last one. -/
def midR (x : Lat) (n : Nat) : List I2 := (List.range' 1 (x.N.toNat - 1)).flatMap fun p => ((List.range n).filter fun w => endsAt x p w).map fun (w : Nat) => (⟨p, w⟩ : I2)
theorem midR_mem {x : Lat} {n : Nat} {z : I2} : z ∈ midR x n ↔ ∃ p w : Nat, 1 ≤ p ∧ p < x.N.toNat ∧ w < n ∧ endsAt x p w = true ∧ z = ⟨p, w⟩ := by
  unfold midR
  simp only [List.mem_flatMap, List.mem_range'_1, List.mem_map, List.mem_filter, List.mem_range]
  constructor
  · rintro ⟨p, hp, w, ⟨h1, h2⟩, rfl⟩; exact ⟨p, w, by omega, by omega, h1, h2, rfl⟩
  · rintro ⟨p, w, h1, h2, h3, h4, rfl⟩; exact ⟨p, by omega, w, ⟨h3, h4⟩, rfl⟩
theorem midR_strict (x : Lat) (n : Nat) : (midR x n).Pairwise ndLt := by
  unfold midR
  rw [List.pairwise_flatMap]
  refine ⟨fun p _ => ?_, ?_⟩
  · rw [List.pairwise_map]
    refine (List.Pairwise.filter _ List.pairwise_lt_range).imp fun {a b} h => ?_
    exact .inr ⟨rfl, Int.ofNat_lt.2 h⟩
  · refine (List.pairwise_lt_range' 1 (by omega)).imp fun {p q} h => fun y hy z hz => ?_
    obtain ⟨w, _, rfl⟩ := List.mem_map.1 hy
    obtain ⟨w', _, rfl⟩ := List.mem_map.1 hz
    unfold ndLt; simp only; omega
theorem okX_edges {x : Lat} (h : okX x = true) : (0 ≤ x.N ∧ x.N ≤ 40 ∧ x.Edges.length ≤ 20000) ∧ (∀ e ∈ x.Edges, 0 ≤ e.From ∧ e.From < e.To ∧ e.To ≤ x.N ∧ 0 ≤ e.Word ∧ e.Word ≤ 199 ∧ 0 ≤ e.Cost ∧ e.Cost ≤ 1000000) ∧ x.Edges.Pairwise fun a b => edLess a b = true := by
  unfold okX at h
  rw [Bool.and_eq_true, decide_eq_true_eq] at h
  refine ⟨h.1, fun e he => edIn_iff.1 (rises_all h.2 e he), (rises_pair (fun a b c h1 h2 => ?_) h.2).1⟩
  rw [edLess_iff] at *; omega
theorem mid_of {x : Lat} {n : Nat} (hx : okX x = true) (hw : wordsIn x n = true) {ys : List I2} (hp : ys.Perm (endsL x)) (hs : ys.Pairwise fun a b => ¬ ndLt b a) : dd ys = midR x n := by
  obtain ⟨h1, h2, _⟩ := okX_edges hx
  unfold wordsIn at hw
  rw [List.all_eq_true] at hw
  refine strict_ext ndLt_irr ndLt_asym (dd_strict ys hs) (midR_strict x n) fun z => ?_
  rw [dd_mem, hp.mem_iff, midR_mem]
  unfold endsL endsAt
  simp only [List.mem_map, List.mem_filter, decide_eq_true_eq, List.any_eq_true]
  constructor
  · rintro ⟨e, ⟨he, hN⟩, rfl⟩
    have h3 := h2 e he
    have h4 := of_decide_eq_true (hw e he)
    exact ⟨e.To.toNat, e.Word.toNat, by omega, by omega, by omega, ⟨e, he, by omega, by omega⟩, by congr 1 <;> omega⟩
  · rintro ⟨p, w, h3, h4, h5, ⟨e, he, h6, h7⟩, rfl⟩
    exact ⟨e, ⟨he, by omega⟩, by rw [h6, h7]⟩
def nodesL (x : Lat) (n : Nat) (p : Int) : List I2 := ⟨0, p⟩ :: (midR x n ++ if 0 < x.N then [⟨x.N, -1⟩] else [])
theorem nodesL_strict {x : Lat} (hx : okX x = true) (n : Nat) (p : Int) : (nodesL x n p).Pairwise ndLt := by
  obtain ⟨h1, h2, _⟩ := okX_edges hx
  unfold nodesL
  refine List.pairwise_cons.2 ⟨fun z hz => ?_, List.pairwise_append.2 ⟨midR_strict x n, ?_, fun y hy z hz => ?_⟩⟩
  · rcases List.mem_append.1 hz with hz | hz
    · obtain ⟨q, w, h3, h4, _, _, rfl⟩ := midR_mem.1 hz
      unfold ndLt; simp only; omega
    · split at hz
      · obtain rfl := List.mem_singleton.1 hz
        unfold ndLt; simp only; omega
      · cases hz
  · split <;> simp
  · obtain ⟨q, w, h3, h4, _, _, rfl⟩ := midR_mem.1 hy
    split at hz
    · obtain rfl := List.mem_singleton.1 hz
      unfold ndLt; simp only; omega
    · cases hz
theorem endsL_len (x : Lat) : (endsL x).length ≤ x.Edges.length := by unfold endsL; rw [List.length_map]; exact List.length_filter_le _ _
theorem endsL_take {x : Lat} {i : Nat} (h : i < x.Edges.length) : endsL ⟨x.N, x.Edges.take (i + 1)⟩ = endsL ⟨x.N, x.Edges.take i⟩ ++ if x.Edges[i].To < x.N then [⟨x.Edges[i].To, x.Edges[i].Word⟩] else [] := by
  unfold endsL
  rw [List.take_succ_eq_append_getElem h, List.filter_append, List.map_append]
  congr 1
  by_cases h1 : x.Edges[i].To < x.N
  · simp [h1]
  · simp [h1]

/-! ### The walk -/
def LatB (x : Lat) : Prop := okX x = true ∧ x.Edges.length ≤ 20000 ∧ 0 ≤ x.N ∧ x.N ≤ 40
theorem nodupI {l : List I2} (h : l.Pairwise ndLt) {i j : Nat} (hi : i < l.length) (hj : j < l.length) (he : l[i] = l[j]) : i = j := by
  rcases Nat.lt_trichotomy i j with h1 | h1 | h1
  · have := List.pairwise_iff_getElem.1 h i j hi hj h1; rw [he] at this; exact absurd this (ndLt_irr _)
  · exact h1
  · have := List.pairwise_iff_getElem.1 h j i hj hi h1; rw [he] at this; exact absurd this (ndLt_irr _)
theorem nodesL_small {x : Lat} {n : Nat} {p : Int} (hp : -1 ≤ p ∧ p < n) (hn : n ≤ 200) (hx : okX x = true) : ∀ z ∈ nodesL x n p, (0 ≤ z.a ∧ z.a ≤ 40) ∧ (-1 ≤ z.b ∧ z.b ≤ 200) := by
  obtain ⟨h1, h2, _⟩ := okX_edges hx
  intro z hz
  unfold nodesL at hz
  rcases List.mem_cons.1 hz with rfl | hz
  · simp only; omega
  · rcases List.mem_append.1 hz with hz | hz
    · obtain ⟨q, w, h3, h4, h5, _, rfl⟩ := midR_mem.1 hz
      simp only; omega
    · split at hz
      · obtain rfl := List.mem_singleton.1 hz
        simp only; omega
      · cases hz
theorem laidK : laidOutB Try.prog = true := by kernel_rfl
theorem encNd : EncK Try.prog 125 KPair.val := encK2 laidK (of_decide_eq_true (by kernel_rfl)) (by kernel_rfl) (by kernel_rfl) Try.underlying125 Try.underlying3 (by kernel_rfl) (by kernel_rfl)
  (fun a b => by simp [Value.formed, Try.underlying125, show Try.prog.cellsOf 125 = 2 by kernel_rfl]) ⟨Try.prog.types.size - 1, by kernel_rfl⟩
def keyN (z : I2) (h : (0 ≤ z.a ∧ z.a ≤ 40) ∧ (-1 ≤ z.b ∧ z.b ≤ 200)) : KPair := ⟨(z.a, z.b), by simp only; omega⟩
set_option maxRecDepth 100000 in
set_option maxHeartbeats 1000000 in
theorem nodes_c {w0 w : World} {μ : Mem} {L : List Own} (x : Lat) (n : Nat) (p : Int) (hx : okX x = true) (hn : n ≤ 200) (hw : wordsIn x n = true) (hp : -1 ≤ p ∧ p < n) (a3 : Option Addr) (c3 : Nat) (hS : St w0 w μ L) (hl : Sl μ a3 c3 x.Edges) :
    Calls Try.prog 55 #[.agg #[.int .i64 x.N, .slice a3 x.Edges.length c3], .int .i64 p] w (RetM fun v w' => ∃ ad c mb kv, v = .tuple #[.slice ad (nodesL x n p).length c, .map (some mb)] ∧
      St w0 w' μ (Own.mp KPair.val (fun (i : Nat) => .int .i64 i) mb kv :: Own.sl ad (nodesL x n p).length c 125 2 ((nodesL x n p).flatMap i2L) :: L) ∧
      ∀ i (h : i < (nodesL x n p).length) (k : KPair), 0 < i → k.1 = ((nodesL x n p)[i].a, (nodesL x n p)[i].b) → aget kv k = some i) := by
  obtain ⟨⟨hN0, hN1, hE⟩, hed, _⟩ := okX_edges hx
  have hkl : ∀ x, (i2L x).length = 2 := fun _ => rfl
  have hn1 : nodesL x n p = ⟨0, p⟩ :: (midR x n ++ if 0 < x.N then [⟨x.N, -1⟩] else []) := rfl
  have hsm := nodesL_small hp hn hx
  have hst := nodesL_strict hx n p
  refine calls_start 76 [.agg #[.int .i64 x.N, .slice a3 x.Edges.length c3], .int .i64 p] Try.func55 rfl Try.ntmps55 rfl rfl ?_
  refine CW.seq fun K1 hK1 => ?_
  refine CW.region [0, 1, 2] rfl ?_
  refine LW.hv rfl rfl rfl rfl (Hv.boxS hS rfl rfl) fun v w2 ⟨b2, hv, hb2, hS⟩ => ?_
  subst hv
  refine LW.ex rfl rfl rfl rfl (Ex.assign rfl) hS.rd ?_
  refine LW.ex rfl rfl rfl rfl (Ex.assign rfl) hS.rd ?_
  refine LW.nil fun aa ha => hK1 _ _ _ ?_ aa ha
  refine CW.seq fun K2 hK2 => ?_
  have hJr1 : ∀ (wj : World) (b6 : Nat) (b7 : Nat), St w0 wj μ (Own.obj b7 [.int .i64 x.N, .int .i64 (-1)] 125 :: Own.obj b6 [.int .i64 0, .int .i64 p] 125 :: Own.obj b2 [.int .i64 x.N, .slice a3 x.Edges.length c3] 38 :: L) → KW K2 76 [(2, .pointer (some ⟨b2, 0, none⟩)), (6, .pointer (some ⟨b6, 0, none⟩)), (7, .pointer (some ⟨b7, 0, none⟩))] wj := by
    intro wj b6 b7 hS 
    refine hK2 _ _ _ ?_
    refine CW.seq fun K3 hK3 => ?_
    refine CW.region [0, 1] rfl ?_
    refine LW.hv rfl rfl rfl rfl (Hv.buildSl hS Try.underlying120 ti125 rfl rfl rfl rfl rfl rfl) fun v w19 ⟨b19, hv, hb19, hS⟩ => ?_
    subst hv
    have hS := hS.row_sl (k := 0) rfl 0 2 rfl (by simp [maxLen])
    dsimp only [List.set] at hS
    refine LW.ex rfl rfl rfl rfl (Ex.assign rfl) hS.rd ?_
    refine LW.nil fun aa ha => hK3 _ _ _ ?_ aa ha
    refine CW.seq fun K4 hK4 => ?_
    refine CW.seq fun K5 hK5 => ?_
    refine CW.region [0, 1, 2, 3] rfl ?_
    refine LW.ex rfl rfl rfl rfl (Ex.fieldO 1 Try.underlying38 rfl rfl ti36 rfl) hS.rd ?_
    refine LW.ex rfl rfl rfl rfl (Ex.load1 ti36 rfl rfl (by first | exact obT rfl | exact Rd.imm ‹_› | exact slT ‹_›)) hS.rd ?_
    refine LW.ex rfl rfl rfl rfl (Ex.lenSl rfl Try.underlying36 rfl) hS.rd ?_
    refine LW.ex rfl rfl rfl rfl (Ex.move rfl) hS.rd ?_
    refine LW.nil fun aa ha => hK5 _ _ _ ?_ aa ha
    refine CW.block ?_
    refine CW.loop (fun qq frm wl4 => ∃ (i : Nat) (g : Nat) (c : Nat) (l : Nat) (ls : List I2), i ≤ x.Edges.length ∧ l = ls.length ∧ qq = x.Edges.length - i ∧ frm = [(2, .pointer (some ⟨b2, 0, none⟩)), (6, .pointer (some ⟨b6, 0, none⟩)), (7, .pointer (some ⟨b7, 0, none⟩)), (8, .slice (some ⟨g, 0, none⟩) l c), (21, .slice a3 x.Edges.length c3), (22, .int .i64 x.Edges.length), (23, .int .i64 i)] ∧ St w0 wl4 μ (Own.sl (some ⟨g, 0, none⟩) l c 125 2 (ls.flatMap i2L) :: Own.obj b7 [.int .i64 x.N, .int .i64 (-1)] 125 :: Own.obj b6 [.int .i64 0, .int .i64 p] 125 :: Own.obj b2 [.int .i64 x.N, .slice a3 x.Edges.length c3] 38 :: L) ∧ (ls = endsL ⟨x.N, x.Edges.take i⟩)) _ ⟨0, b19, 0, 0, [], (by first | omega | (simp; done) | (simp; omega)), (by first | omega | (simp; done) | (simp; omega)), rfl, rfl, hS, rfl⟩ ⟨rfl, rfl, rfl, rfl, rfl, rfl, rfl, trivial⟩ ?_
    clear hS
    rintro qq frm wl4 ⟨i, g, c, l, ls, hi, hll, hq, rfl, hS, hls⟩
    refine CW.seq fun K6 hK6 => ?_
    refine CW.region [0] rfl ?_
    refine LW.ex rfl rfl rfl rfl (Ex.lss rfl rfl rfl) hS.rd ?_
    refine LW.splitB (fun h4_0 => ?_) (fun h4_0 => ?_)
    · have h4_0 := of_decide_eq_true h4_0
      refine LW.nil fun aa ha => hK6 _ _ _ ?_ aa ha
      refine CW.seq fun K7 hK7 => ?_
      refine CW.yes rfl ?_
      refine CW.skip fun aa ha => hK7 _ _ _ ?_ aa ha
      refine CW.seq fun K8 hK8 => ?_
      refine CW.block ?_
      refine CW.seq fun K9 hK9 => ?_
      have hi2 : i < x.Edges.length := by omega
      obtain ⟨bl, ol, rfl, k0, k1, k2, k3⟩ := hl.at hi2
      have hle := endsL_take hi2
      have hll2 : ls.length ≤ i := by rw [hls]; exact Nat.le_trans (endsL_len _) (by rw [List.length_take]; omega)
      refine CW.region [0, 1, 2, 3] rfl ?_
      refine LW.ex rfl rfl rfl rfl (Ex.indexSl Try.underlying36 ti43 rfl rfl rfl (by omega)) hS.rd ?_
      refine LW.ex rfl rfl rfl rfl (Ex.load4c ti43 rfl rfl (by first | exact obT rfl | exact Rd.imm ‹_› | exact slT ‹_›) (by first | exact obT rfl | exact Rd.imm ‹_› | exact slT ‹_›) (by first | exact obT rfl | exact Rd.imm ‹_› | exact slT ‹_›) (by first | exact obT rfl | exact Rd.imm ‹_› | exact slT ‹_›)) hS.rd ?_
      refine LW.hv rfl rfl rfl rfl (Hv.alloc ti43 hS) fun v w10 ⟨b10, hv, hb10, hS⟩ => ?_
      subst hv
      refine LW.hu rfl rfl rfl (Hv.storeN (k := 0) ti43 hS rfl rfl rfl rfl (by simp [Value.oneCell'])) fun _ w_3 hS => ?_
      dsimp only [List.set] at hS
      refine LW.nil fun aa ha => hK9 _ _ _ ?_ aa ha
      refine CW.seq fun K10 hK10 => ?_
      refine CW.region [0, 1, 2, 3, 4] rfl ?_
      refine LW.ex rfl rfl rfl rfl (Ex.fieldO 1 Try.underlying43 rfl rfl ti3 rfl) hS.rd ?_
      refine LW.ex rfl rfl rfl rfl (Ex.load1 ti3 rfl rfl (by first | exact obT rfl | exact Rd.imm ‹_› | exact slT ‹_›)) hS.rd ?_
      refine LW.ex rfl rfl rfl rfl (Ex.fieldO 0 Try.underlying38 rfl rfl ti3 rfl) hS.rd ?_
      refine LW.ex rfl rfl rfl rfl (Ex.load1 ti3 rfl rfl (by first | exact obT rfl | exact Rd.imm ‹_› | exact slT ‹_›)) hS.rd ?_
      refine LW.ex rfl rfl rfl rfl (Ex.lss rfl rfl rfl) hS.rd ?_
      refine LW.splitB (fun h6_4 => ?_) (fun h6_4 => ?_)
      · have h6_4 := of_decide_eq_true h6_4
        refine LW.nil fun aa ha => hK10 _ _ _ ?_ aa ha
        refine CW.yes rfl ?_
        refine CW.region [0, 1, 2, 3, 4, 5, 6, 7, 8] rfl ?_
        refine LW.ex rfl rfl rfl rfl (Ex.move rfl) hS.rd ?_
        refine LW.ex rfl rfl rfl rfl (Ex.fieldO 1 Try.underlying43 rfl rfl ti3 rfl) hS.rd ?_
        refine LW.ex rfl rfl rfl rfl (Ex.load1 ti3 rfl rfl (by first | exact obT rfl | exact Rd.imm ‹_› | exact slT ‹_›)) hS.rd ?_
        refine LW.ex rfl rfl rfl rfl (Ex.fieldO 2 Try.underlying43 rfl rfl ti3 rfl) hS.rd ?_
        refine LW.ex rfl rfl rfl rfl (Ex.load1 ti3 rfl rfl (by first | exact obT rfl | exact Rd.imm ‹_› | exact slT ‹_›)) hS.rd ?_
        refine LW.ex rfl rfl rfl rfl (Ex.buildA ti125 ti3 rfl rfl rfl) hS.rd ?_
        refine LW.hv rfl rfl rfl rfl (Hv.buildSl hS Try.underlying120 ti125 rfl rfl rfl rfl rfl rfl) fun v w38 ⟨b38, hv, hb38, hS⟩ => ?_
        subst hv
        refine LW.hv rfl rfl rfl rfl (Hv.append (k := 2) rfl Try.underlying120 ti125 rfl hS rfl rfl rfl rfl (Rd.objAll (k := 0) rfl hS.rd) (by simp [Value.oneCell']) (by unfold maxLen; omega) (by omega)) fun v w39 ⟨ad39, c39, hv, hS⟩ => ?_
        subst hv
        dsimp only [List.set] at hS
        have hS := hS.drop 0 rfl
        dsimp only [List.eraseIdx] at hS
        rw [show ls.flatMap i2L ++ [Value.int .i64 x.Edges[i].To, .int .i64 x.Edges[i].Word] = (ls ++ [(⟨x.Edges[i].To, x.Edges[i].Word⟩ : I2)]).flatMap i2L by rw [List.flatMap_append]; rfl] at hS
        refine LW.ex rfl rfl rfl rfl (Ex.assign rfl) hS.rd ?_
        refine LW.nil fun aa ha => hK8 _ _ _ ?_ aa ha
        refine CW.region [0, 1] rfl ?_
        refine LW.ex rfl rfl rfl rfl (Ex.add rfl rfl (by first | exact inc64 (by omega) | exact addN (by omega) | exact w64 (by omega) (by omega))) hS.rd ?_
        refine LW.ex rfl rfl rfl rfl (Ex.move rfl) hS.rd ?_
        refine LW.nil fun aa ha => ?_
        have hS := hS.drop 0 rfl
        dsimp only [List.eraseIdx] at hS
        obtain ⟨g39, rfl⟩ := hS.sl_some 0 rfl (by omega)
        rw [if_pos h6_4] at hle
        refine ⟨_, _, ?m4, ⟨i + 1, g39, c39, l + 1, ls ++ [⟨x.Edges[i].To, x.Edges[i].Word⟩], (by first | omega | (simp; done) | (simp; omega)), (by first | omega | (simp; done) | (simp; omega)), rfl, rfl, hS, by rw [hle, ← hls]⟩, ha.sub ⟨rfl, rfl, rfl, rfl, rfl, rfl, rfl, trivial⟩⟩
        case m4 => omega
      · have h6_4 := of_decide_eq_false h6_4
        refine LW.nil fun aa ha => hK10 _ _ _ ?_ aa ha
        refine CW.no rfl ?_
        refine CW.skip fun aa ha => hK8 _ _ _ ?_ aa ha
        refine CW.region [0, 1] rfl ?_
        refine LW.ex rfl rfl rfl rfl (Ex.add rfl rfl (by first | exact inc64 (by omega) | exact addN (by omega) | exact w64 (by omega) (by omega))) hS.rd ?_
        refine LW.ex rfl rfl rfl rfl (Ex.move rfl) hS.rd ?_
        refine LW.nil fun aa ha => ?_
        have hS := hS.drop 0 rfl
        dsimp only [List.eraseIdx] at hS
        rw [if_neg h6_4] at hle
        refine ⟨_, _, ?m4, ⟨i + 1, g, c, l, ls, (by first | omega | (simp; done) | (simp; omega)), (by first | omega | (simp; done) | (simp; omega)), rfl, rfl, hS, by rw [hle, ← hls, List.append_nil]⟩, ha.sub ⟨rfl, rfl, rfl, rfl, rfl, rfl, rfl, trivial⟩⟩
        case m4 => omega
    · have h4_0 := of_decide_eq_false h4_0
      refine LW.nil fun aa ha => hK6 _ _ _ ?_ aa ha
      refine CW.seq fun K11 hK11 => ?_
      refine CW.no rfl ?_
      refine CW.exit fun aa ha => hK4 _ _ _ ?_ aa ha
      refine CW.seq fun K12 hK12 => ?_
      have hie : i = x.Edges.length := by omega
      rw [hie, List.take_length] at hls
      have hlb := endsL_len x
      subst hll
      have hlsl : ls.length ≤ 20000 := by rw [hls]; exact Nat.le_trans (endsL_len x) hE
      refine CW.region [0, 1] rfl ?_
      refine LW.ex rfl rfl rfl rfl (Ex.move rfl) hS.rd ?_
      refine LW.hv rfl rfl rfl rfl (Hv.sortBy (enc := i2L) (k := 2) (xs := ls) 0 hS rfl hkl (by omega) rfl rfl rfl rfl rfl cb73 (fun hH hg => sortNd_c g c ls.toArray _ hH hg (by simp; omega))) fun v w42 ⟨hv42, ys, hyp, hyw, hS⟩ => ?_
      subst hv42
      dsimp only [List.set] at hS
      refine LW.nil fun aa ha => hK12 _ _ _ ?_ aa ha
      refine CW.seq fun K13 hK13 => ?_
      have hyl := hyp.length_eq
      have hmid : dd ys = midR x n := mid_of hx hw (by rw [hls] at hyp; exact hyp) (hyw.imp fun {a b} h => by rw [ndLtOf] at h; exact of_decide_eq_false h)
      have hdl := dd_len ys
      have hS := hS.drew
      refine CW.draw 4 (.ex 0 <| .ex 2 <| .two 1 (.one 3 <| .done) 3 (.one 1 <| .done)) [4, 5] (Rd _ _) mixed (by kernel_rfl) rfl rfl (by have h := hS.rd.erase 0; dsimp only [List.eraseIdx] at h; exact h) ?_
      refine PW.ex rfl rfl rfl rfl (Ex.load2c ti125 rfl rfl (by first | exact obT rfl | exact Rd.imm ‹_› | exact slT ‹_›) (by first | exact obT rfl | exact Rd.imm ‹_› | exact slT ‹_›)) ?_
      refine PW.ex rfl rfl rfl rfl (Ex.move rfl) ?_
      refine PW.two rfl rfl rfl rfl rfl rfl rfl rfl (Hv.buildSl hS Try.underlying120 ti125 rfl rfl rfl rfl rfl rfl) (fun _ _ ⟨_, _, _, h⟩ => ((h.rd.tail).erase 0)) (Hv.callM rfl rfl rfl cb75 (compact_c (L := _ :: _ :: _ :: _) hS hyl.symm)) (fun _ _ h => h.2.rd.erase 0) (fun v w44 ⟨b44, hv, hb44, hS⟩ => ?gA14) (fun v w46 ⟨hv, hS⟩ => ?gB14)
      case gA14 =>
        skip
        subst hv
        have hS := hS.swap
        refine PW.hv rfl rfl rfl rfl (Hv.callM rfl rfl rfl cb75 (compact_c (L := _ :: _ :: _ :: _) hS hyl.symm)) (fun _ _ h => (h.2.rd.erase 0).tail) fun v w46 ⟨hv, hS⟩ => ?_
        subst hv
        have hS := hS.swap
        refine PW.nil ?_
        have hS := hS.row_sl (k := 0) rfl 1 2 rfl (by simp [maxLen])
        dsimp only [List.set] at hS
        refine LW.hv rfl rfl rfl rfl (Hv.append (k := 0) (vs := (dd ys).flatMap i2L) rfl Try.underlying120 ti125 rfl hS rfl rfl rfl (flatMap_len hkl _) (fun j u hu => by rw [Nat.zero_add]; exact Rd.sl (k := 1) rfl hu _ hS.rd) (i2Ones _) (by unfold maxLen; omega) (by omega)) fun v w47 ⟨ad47, c47, hv, hS⟩ => ?_
        subst hv
        dsimp only [List.set] at hS
        have hS := hS.drop 1 rfl
        dsimp only [List.eraseIdx] at hS
        refine LW.ex rfl rfl rfl rfl (Ex.assign rfl) hS.rd ?_
        refine LW.nil fun aa ha => hK13 _ _ _ ?_ aa ha
        refine CW.seq fun K15 hK15 => ?_
        have hJ11 : ∀ (wj : World) (g : Nat) (c : Nat), St w0 wj μ (Own.sl (some ⟨g, 0, none⟩) (nodesL x n p).length c 125 2 ((nodesL x n p).flatMap i2L) :: Own.obj b7 [.int .i64 x.N, .int .i64 (-1)] 125 :: Own.obj b6 [.int .i64 0, .int .i64 p] 125 :: Own.obj b2 [.int .i64 x.N, .slice a3 x.Edges.length c3] 38 :: L) → KW K15 76 [(6, .pointer (some ⟨b6, 0, none⟩)), (8, .slice (some ⟨g, 0, none⟩) (nodesL x n p).length c)] wj := by
          intro wj g c hS 
          refine hK15 _ _ _ ?_
          have hcap := hS.sl_cap 0 rfl
          obtain ⟨hcap1, hcap2⟩ := hcap
          simp only [maxLen] at hcap2
          have hnl1 : 1 ≤ (nodesL x n p).length := by rw [hn1]; simp
          refine CW.seq fun K16 hK16 => ?_
          refine CW.region [0, 1] rfl ?_
          refine LW.hv rfl rfl rfl rfl (Hv.makeMap KPair.val (fun (i : Nat) => .int .i64 i) hS) fun v w55 ⟨b55, hv, hb55, hS⟩ => ?_
          subst hv
          refine LW.ex rfl rfl rfl rfl (Ex.assign rfl) hS.rd ?_
          refine LW.nil fun aa ha => hK16 _ _ _ ?_ aa ha
          refine CW.seq fun K17 hK17 => ?_
          refine CW.seq fun K18 hK18 => ?_
          refine CW.region [0, 1, 2] rfl ?_
          refine LW.ex rfl rfl rfl rfl (Ex.move rfl) hS.rd ?_
          refine LW.ex rfl rfl rfl rfl (Ex.lenSl rfl Try.underlying120 rfl) hS.rd ?_
          refine LW.ex rfl rfl rfl rfl (Ex.move rfl) hS.rd ?_
          refine LW.nil fun aa ha => hK18 _ _ _ ?_ aa ha
          refine CW.block ?_
          refine CW.loop (fun qq frm wl15 => ∃ (i : Nat) (kv : List (KPair × Nat)), i ≤ (nodesL x n p).length ∧ qq = (nodesL x n p).length - i ∧ frm = [(6, .pointer (some ⟨b6, 0, none⟩)), (8, .slice (some ⟨g, 0, none⟩) (nodesL x n p).length c), (11, .map (some b55)), (56, .slice (some ⟨g, 0, none⟩) (nodesL x n p).length c), (57, .int .i64 (((nodesL x n p).length : Nat) : Int)), (58, .int .i64 i)] ∧ St w0 wl15 μ (Own.mp KPair.val (fun (i : Nat) => .int .i64 i) b55 kv :: Own.sl (some ⟨g, 0, none⟩) (nodesL x n p).length c 125 2 ((nodesL x n p).flatMap i2L) :: Own.obj b7 [.int .i64 x.N, .int .i64 (-1)] 125 :: Own.obj b6 [.int .i64 0, .int .i64 p] 125 :: Own.obj b2 [.int .i64 x.N, .slice a3 x.Edges.length c3] 38 :: L) ∧ (∀ j (h : j < (nodesL x n p).length) (k : KPair), 0 < j → j < i → k.1 = ((nodesL x n p)[j].a, (nodesL x n p)[j].b) → aget kv k = some j)) _ ⟨0, [], (by first | omega | (simp; done) | (simp; omega)), rfl, rfl, hS, fun j h k h0 hj => by omega⟩ ⟨rfl, rfl, rfl, rfl, rfl, rfl, trivial⟩ ?_
          clear hS
          rintro qq frm wl15 ⟨i, kv, hi, hq, rfl, hS, hkv⟩
          refine CW.seq fun K19 hK19 => ?_
          refine CW.region [0] rfl ?_
          refine LW.ex rfl rfl rfl rfl (Ex.lss rfl rfl rfl) hS.rd ?_
          refine LW.splitB (fun h15_0 => ?_) (fun h15_0 => ?_)
          · have h15_0 := of_decide_eq_true h15_0
            refine LW.nil fun aa ha => hK19 _ _ _ ?_ aa ha
            refine CW.seq fun K20 hK20 => ?_
            refine CW.yes rfl ?_
            refine CW.skip fun aa ha => hK20 _ _ _ ?_ aa ha
            refine CW.seq fun K21 hK21 => ?_
            refine CW.block ?_
            refine CW.seq fun K22 hK22 => ?_
            have hi2 : i < (nodesL x n p).length := by omega
            have f0 := flat2 hkl (nodesL x n p) i 0 hi2 (by omega) (v := .int .i64 (nodesL x n p)[i].a) rfl
            have f1 := flat2 hkl (nodesL x n p) i 1 hi2 (by omega) (v := .int .i64 (nodesL x n p)[i].b) rfl
            have hsi := hsm _ (List.getElem_mem hi2)
            refine CW.region [0, 1, 2, 3, 4, 5] rfl ?_
            refine LW.ex rfl rfl rfl rfl (Ex.move rfl) hS.rd ?_
            refine LW.ex rfl rfl rfl rfl (Ex.indexSl Try.underlying120 ti125 rfl rfl rfl (by omega)) hS.rd ?_
            refine LW.ex rfl rfl rfl rfl (Ex.load2c ti125 rfl rfl (slT (v := .int .i64 (nodesL x n p)[i].a) (by rw [Nat.zero_add]; exact f0)) (slT (v := .int .i64 (nodesL x n p)[i].b) (by rw [Nat.zero_add]; exact f1))) hS.rd ?_
            refine LW.hv rfl rfl rfl rfl (Hv.alloc ti125 hS) fun v w13 ⟨b13, hv, hb13, hS⟩ => ?_
            subst hv
            refine LW.ex rfl rfl rfl rfl (Ex.assign rfl) hS.rd ?_
            refine LW.hu rfl rfl rfl (Hv.storeN (k := 0) ti125 hS rfl rfl rfl rfl (by simp [Value.oneCell'])) fun _ w_5 hS => ?_
            dsimp only [List.set] at hS
            refine LW.nil fun aa ha => hK22 _ _ _ ?_ aa ha
            refine CW.seq fun K23 hK23 => ?_
            refine CW.region [0, 1, 2, 3, 4, 5, 6] rfl ?_
            refine LW.ex rfl rfl rfl rfl (Ex.move rfl) hS.rd ?_
            refine LW.ex rfl rfl rfl rfl (Ex.gtr rfl rfl rfl) hS.rd ?_
            refine LW.splitB (fun h17_1 => ?_) (fun h17_1 => ?_)
            · have h17_1 := of_decide_eq_true h17_1
              refine LW.ex rfl rfl rfl rfl (Ex.move rfl) hS.rd ?_
              refine LW.skip rfl rfl rfl rfl ?_
              refine LW.skip rfl rfl rfl rfl ?_
              refine LW.skip rfl rfl rfl rfl ?_
              refine LW.ex rfl rfl rfl rfl (by first | exact Ex.pick_yes rfl rfl | exact Ex.pick_no rfl rfl) hS.rd ?_
              refine LW.nil fun aa ha => hK23 _ _ _ ?_ aa ha
              refine CW.yes rfl ?_
              refine CW.region [0, 1, 2, 3] rfl ?_
              refine LW.ex rfl rfl rfl rfl (Ex.move rfl) hS.rd ?_
              refine LW.ex rfl rfl rfl rfl (Ex.load2c ti125 rfl rfl (by first | exact obT rfl | exact Rd.imm ‹_› | exact slT ‹_›) (by first | exact obT rfl | exact Rd.imm ‹_› | exact slT ‹_›)) hS.rd ?_
              refine LW.ex rfl rfl rfl rfl (Ex.move rfl) hS.rd ?_
              refine LW.hu rfl rfl rfl (Hv.mapUpdate (a := keyN (nodesL x n p)[i] hsi) (c := i) Try.underlying121 encNd 1 hS rfl rfl rfl rfl) fun _ w_3 hS => ?_
              dsimp only [List.set] at hS
              refine LW.nil fun aa ha => hK21 _ _ _ ?_ aa ha
              refine CW.region [0, 1] rfl ?_
              refine LW.ex rfl rfl rfl rfl (Ex.add rfl rfl (by first | exact inc64 (by omega) | exact addN (by omega) | exact w64 (by omega) (by omega))) hS.rd ?_
              refine LW.ex rfl rfl rfl rfl (Ex.move rfl) hS.rd ?_
              refine LW.nil fun aa ha => ?_
              have hS := hS.drop 0 rfl
              dsimp only [List.eraseIdx] at hS
              refine ⟨_, _, ?m15, ⟨i + 1, aset kv (keyN (nodesL x n p)[i] hsi) i, (by first | omega | (simp; done) | (simp; omega)), rfl, rfl, hS, ?_⟩, ha.sub ⟨rfl, rfl, rfl, rfl, rfl, rfl, trivial⟩⟩
              case m15 => omega
              intro j h k h0 hji hk
              rw [aget_aset]
              split
              · rename_i he
                congr 1
                subst he
                have he1 : ((nodesL x n p)[i].a, (nodesL x n p)[i].b) = ((nodesL x n p)[j].a, (nodesL x n p)[j].b) := hk
                exact nodupI hst hi2 h (i2_ext (congrArg Prod.fst he1) (congrArg Prod.snd he1))
              · rename_i he
                refine hkv j h k h0 ?_ hk
                rcases Nat.lt_or_eq_of_le (Nat.le_of_lt_succ hji) with h2 | h2
                · exact h2
                · subst h2; exact absurd (Subtype.ext hk.symm) he
            · have h17_1 := of_decide_eq_false h17_1
              refine LW.ex rfl rfl rfl rfl (Ex.move rfl) hS.rd ?_
              refine LW.ex rfl rfl rfl rfl (Ex.load2c ti125 rfl rfl (by first | exact obT rfl | exact Rd.imm ‹_› | exact slT ‹_›) (by first | exact obT rfl | exact Rd.imm ‹_› | exact slT ‹_›)) hS.rd ?_
              refine LW.ex rfl rfl rfl rfl (Ex.load2c ti125 rfl rfl (by first | exact obT rfl | exact Rd.imm ‹_› | exact slT ‹_›) (by first | exact obT rfl | exact Rd.imm ‹_› | exact slT ‹_›)) hS.rd ?_
              refine LW.ex rfl rfl rfl rfl (Ex.neqSt (by kernel_rfl) rfl rfl (i2Eq (nodesL x n p)[i] ⟨0, p⟩)) hS.rd ?_
              refine LW.splitB (fun h17_5 => ?_) (fun h17_5 => ?_)
              · exfalso
                have h0 : i = 0 := by omega
                subst h0
                simp only [Bool.not_eq_true', decide_eq_false_iff_not] at h17_5
                exact h17_5 rfl
              · skip
                refine LW.ex rfl rfl rfl rfl (by first | exact Ex.pick_yes rfl rfl | exact Ex.pick_no rfl rfl) hS.rd ?_
                refine LW.nil fun aa ha => hK23 _ _ _ ?_ aa ha
                refine CW.no rfl ?_
                refine CW.skip fun aa ha => hK21 _ _ _ ?_ aa ha
                refine CW.region [0, 1] rfl ?_
                refine LW.ex rfl rfl rfl rfl (Ex.add rfl rfl (by first | exact inc64 (by omega) | exact addN (by omega) | exact w64 (by omega) (by omega))) hS.rd ?_
                refine LW.ex rfl rfl rfl rfl (Ex.move rfl) hS.rd ?_
                refine LW.nil fun aa ha => ?_
                have hS := hS.drop 0 rfl
                dsimp only [List.eraseIdx] at hS
                refine ⟨_, _, ?m15, ⟨i + 1, kv, (by first | omega | (simp; done) | (simp; omega)), rfl, rfl, hS, ?_⟩, ha.sub ⟨rfl, rfl, rfl, rfl, rfl, rfl, trivial⟩⟩
                case m15 => omega
                intro j h k h0 hji hk
                exact hkv j h k h0 (by omega) hk
          · have h15_0 := of_decide_eq_false h15_0
            refine LW.nil fun aa ha => hK19 _ _ _ ?_ aa ha
            refine CW.seq fun K24 hK24 => ?_
            refine CW.no rfl ?_
            refine CW.exit fun aa ha => hK17 _ _ _ ?_ aa ha
            refine CW.seq fun K25 hK25 => ?_
            refine CW.region [0, 1, 2, 3] rfl ?_
            refine LW.ex rfl rfl rfl rfl (Ex.move rfl) hS.rd ?_
            refine LW.ex rfl rfl rfl rfl (Ex.move rfl) hS.rd ?_
            refine LW.ex rfl rfl rfl rfl (Ex.assign rfl) hS.rd ?_
            refine LW.ex rfl rfl rfl rfl (Ex.assign rfl) hS.rd ?_
            refine LW.nil fun aa ha => hK25 _ _ _ ?_ aa ha
            refine CW.ret fun aa ha => ?_
            refine ret_two ha Try.results55 rfl rfl ?_
            have hS := ((hS.drop 2 rfl).drop 2 rfl).drop 2 rfl
            dsimp only [List.eraseIdx] at hS
            exact ⟨_, rfl, _, _, _, _, rfl, hS, fun j h k h0 hk => hkv j h k h0 (by omega) hk⟩
        refine CW.seq fun K26 hK26 => ?_
        refine CW.region [0, 1, 2] rfl ?_
        refine LW.ex rfl rfl rfl rfl (Ex.fieldO 0 Try.underlying38 rfl rfl ti3 rfl) hS.rd ?_
        refine LW.ex rfl rfl rfl rfl (Ex.load1 ti3 rfl rfl (by first | exact obT rfl | exact Rd.imm ‹_› | exact slT ‹_›)) hS.rd ?_
        refine LW.ex rfl rfl rfl rfl (Ex.gtr rfl rfl rfl) hS.rd ?_
        refine LW.splitB (fun h11_2 => ?_) (fun h11_2 => ?_)
        · have h11_2 := of_decide_eq_true h11_2
          refine LW.nil fun aa ha => hK26 _ _ _ ?_ aa ha
          refine CW.yes rfl ?_
          rw [if_pos h11_2] at hn1
          refine CW.region [0, 1, 2, 3, 4] rfl ?_
          refine LW.ex rfl rfl rfl rfl (Ex.move rfl) hS.rd ?_
          refine LW.ex rfl rfl rfl rfl (Ex.load2c ti125 rfl rfl (by first | exact obT rfl | exact Rd.imm ‹_› | exact slT ‹_›) (by first | exact obT rfl | exact Rd.imm ‹_› | exact slT ‹_›)) hS.rd ?_
          refine LW.hv rfl rfl rfl rfl (Hv.buildSl hS Try.underlying120 ti125 rfl rfl rfl rfl rfl rfl) fun v w53 ⟨b53, hv, hb53, hS⟩ => ?_
          subst hv
          refine LW.hv rfl rfl rfl rfl (Hv.append (k := 1) rfl Try.underlying120 ti125 rfl hS rfl rfl rfl rfl (Rd.objAll (k := 0) rfl hS.rd) (by simp [Value.oneCell']) (by unfold maxLen; omega) (by omega)) fun v w54 ⟨ad54, c54, hv, hS⟩ => ?_
          subst hv
          dsimp only [List.set] at hS
          have hS := hS.drop 0 rfl
          dsimp only [List.eraseIdx] at hS
          refine LW.ex rfl rfl rfl rfl (Ex.assign rfl) hS.rd ?_
          refine LW.nil fun aa ha => ?_
          have hnl : 1 + (dd ys).length + 1 = (nodesL x n p).length := by rw [hn1, hmid]; simp; omega
          rw [hnl] at hS ha
          have hcl : [Value.int .i64 0, Value.int .i64 p] ++ (dd ys).flatMap i2L ++ [Value.int .i64 x.N, Value.int .i64 (-1)] = (nodesL x n p).flatMap i2L := by rw [hn1, hmid, List.flatMap_cons, List.flatMap_append]; rfl
          rw [hcl] at hS
          obtain ⟨g54, rfl⟩ := hS.sl_some 0 rfl (by omega)
          refine hJ11 _ (g54) (c54) hS  aa (ha.sub ⟨rfl, rfl, trivial⟩)
        · have h11_2 := of_decide_eq_false h11_2
          refine LW.nil fun aa ha => hK26 _ _ _ ?_ aa ha
          refine CW.no rfl ?_
          refine CW.skip fun aa ha => ?_
          rw [if_neg h11_2] at hn1
          have hnl : 1 + (dd ys).length = (nodesL x n p).length := by rw [hn1, hmid]; simp; omega
          rw [hnl] at hS ha
          have hcl : [Value.int .i64 0, Value.int .i64 p] ++ (dd ys).flatMap i2L = (nodesL x n p).flatMap i2L := by rw [hn1, hmid, List.append_nil, List.flatMap_cons]; rfl
          rw [hcl] at hS
          obtain ⟨g47, rfl⟩ := hS.sl_some 0 rfl (by omega)
          refine hJ11 _ (g47) (c47) hS  aa (ha.sub ⟨rfl, rfl, trivial⟩)
      case gB14 =>
        skip
        subst hv
        refine PW.hv rfl rfl rfl rfl (Hv.buildSl hS Try.underlying120 ti125 rfl rfl rfl rfl rfl rfl) (fun _ _ ⟨_, _, _, h⟩ => ((h.rd.tail).erase 0)) fun v w44 ⟨b44, hv, hb44, hS⟩ => ?_
        subst hv
        refine PW.nil ?_
        have hS := hS.row_sl (k := 0) rfl 1 2 rfl (by simp [maxLen])
        dsimp only [List.set] at hS
        refine LW.hv rfl rfl rfl rfl (Hv.append (k := 0) (vs := (dd ys).flatMap i2L) rfl Try.underlying120 ti125 rfl hS rfl rfl rfl (flatMap_len hkl _) (fun j u hu => by rw [Nat.zero_add]; exact Rd.sl (k := 1) rfl hu _ hS.rd) (i2Ones _) (by unfold maxLen; omega) (by omega)) fun v w47 ⟨ad47, c47, hv, hS⟩ => ?_
        subst hv
        dsimp only [List.set] at hS
        have hS := hS.drop 1 rfl
        dsimp only [List.eraseIdx] at hS
        refine LW.ex rfl rfl rfl rfl (Ex.assign rfl) hS.rd ?_
        refine LW.nil fun aa ha => hK13 _ _ _ ?_ aa ha
        refine CW.seq fun K27 hK27 => ?_
        have hJ11 : ∀ (wj : World) (g : Nat) (c : Nat), St w0 wj μ (Own.sl (some ⟨g, 0, none⟩) (nodesL x n p).length c 125 2 ((nodesL x n p).flatMap i2L) :: Own.obj b7 [.int .i64 x.N, .int .i64 (-1)] 125 :: Own.obj b6 [.int .i64 0, .int .i64 p] 125 :: Own.obj b2 [.int .i64 x.N, .slice a3 x.Edges.length c3] 38 :: L) → KW K27 76 [(6, .pointer (some ⟨b6, 0, none⟩)), (8, .slice (some ⟨g, 0, none⟩) (nodesL x n p).length c)] wj := by
          intro wj g c hS 
          refine hK27 _ _ _ ?_
          have hcap := hS.sl_cap 0 rfl
          obtain ⟨hcap1, hcap2⟩ := hcap
          simp only [maxLen] at hcap2
          have hnl1 : 1 ≤ (nodesL x n p).length := by rw [hn1]; simp
          refine CW.seq fun K28 hK28 => ?_
          refine CW.region [0, 1] rfl ?_
          refine LW.hv rfl rfl rfl rfl (Hv.makeMap KPair.val (fun (i : Nat) => .int .i64 i) hS) fun v w55 ⟨b55, hv, hb55, hS⟩ => ?_
          subst hv
          refine LW.ex rfl rfl rfl rfl (Ex.assign rfl) hS.rd ?_
          refine LW.nil fun aa ha => hK28 _ _ _ ?_ aa ha
          refine CW.seq fun K29 hK29 => ?_
          refine CW.seq fun K30 hK30 => ?_
          refine CW.region [0, 1, 2] rfl ?_
          refine LW.ex rfl rfl rfl rfl (Ex.move rfl) hS.rd ?_
          refine LW.ex rfl rfl rfl rfl (Ex.lenSl rfl Try.underlying120 rfl) hS.rd ?_
          refine LW.ex rfl rfl rfl rfl (Ex.move rfl) hS.rd ?_
          refine LW.nil fun aa ha => hK30 _ _ _ ?_ aa ha
          refine CW.block ?_
          refine CW.loop (fun qq frm wl15 => ∃ (i : Nat) (kv : List (KPair × Nat)), i ≤ (nodesL x n p).length ∧ qq = (nodesL x n p).length - i ∧ frm = [(6, .pointer (some ⟨b6, 0, none⟩)), (8, .slice (some ⟨g, 0, none⟩) (nodesL x n p).length c), (11, .map (some b55)), (56, .slice (some ⟨g, 0, none⟩) (nodesL x n p).length c), (57, .int .i64 (((nodesL x n p).length : Nat) : Int)), (58, .int .i64 i)] ∧ St w0 wl15 μ (Own.mp KPair.val (fun (i : Nat) => .int .i64 i) b55 kv :: Own.sl (some ⟨g, 0, none⟩) (nodesL x n p).length c 125 2 ((nodesL x n p).flatMap i2L) :: Own.obj b7 [.int .i64 x.N, .int .i64 (-1)] 125 :: Own.obj b6 [.int .i64 0, .int .i64 p] 125 :: Own.obj b2 [.int .i64 x.N, .slice a3 x.Edges.length c3] 38 :: L) ∧ (∀ j (h : j < (nodesL x n p).length) (k : KPair), 0 < j → j < i → k.1 = ((nodesL x n p)[j].a, (nodesL x n p)[j].b) → aget kv k = some j)) _ ⟨0, [], (by first | omega | (simp; done) | (simp; omega)), rfl, rfl, hS, fun j h k h0 hj => by omega⟩ ⟨rfl, rfl, rfl, rfl, rfl, rfl, trivial⟩ ?_
          clear hS
          rintro qq frm wl15 ⟨i, kv, hi, hq, rfl, hS, hkv⟩
          refine CW.seq fun K31 hK31 => ?_
          refine CW.region [0] rfl ?_
          refine LW.ex rfl rfl rfl rfl (Ex.lss rfl rfl rfl) hS.rd ?_
          refine LW.splitB (fun h15_0 => ?_) (fun h15_0 => ?_)
          · have h15_0 := of_decide_eq_true h15_0
            refine LW.nil fun aa ha => hK31 _ _ _ ?_ aa ha
            refine CW.seq fun K32 hK32 => ?_
            refine CW.yes rfl ?_
            refine CW.skip fun aa ha => hK32 _ _ _ ?_ aa ha
            refine CW.seq fun K33 hK33 => ?_
            refine CW.block ?_
            refine CW.seq fun K34 hK34 => ?_
            have hi2 : i < (nodesL x n p).length := by omega
            have f0 := flat2 hkl (nodesL x n p) i 0 hi2 (by omega) (v := .int .i64 (nodesL x n p)[i].a) rfl
            have f1 := flat2 hkl (nodesL x n p) i 1 hi2 (by omega) (v := .int .i64 (nodesL x n p)[i].b) rfl
            have hsi := hsm _ (List.getElem_mem hi2)
            refine CW.region [0, 1, 2, 3, 4, 5] rfl ?_
            refine LW.ex rfl rfl rfl rfl (Ex.move rfl) hS.rd ?_
            refine LW.ex rfl rfl rfl rfl (Ex.indexSl Try.underlying120 ti125 rfl rfl rfl (by omega)) hS.rd ?_
            refine LW.ex rfl rfl rfl rfl (Ex.load2c ti125 rfl rfl (slT (v := .int .i64 (nodesL x n p)[i].a) (by rw [Nat.zero_add]; exact f0)) (slT (v := .int .i64 (nodesL x n p)[i].b) (by rw [Nat.zero_add]; exact f1))) hS.rd ?_
            refine LW.hv rfl rfl rfl rfl (Hv.alloc ti125 hS) fun v w13 ⟨b13, hv, hb13, hS⟩ => ?_
            subst hv
            refine LW.ex rfl rfl rfl rfl (Ex.assign rfl) hS.rd ?_
            refine LW.hu rfl rfl rfl (Hv.storeN (k := 0) ti125 hS rfl rfl rfl rfl (by simp [Value.oneCell'])) fun _ w_5 hS => ?_
            dsimp only [List.set] at hS
            refine LW.nil fun aa ha => hK34 _ _ _ ?_ aa ha
            refine CW.seq fun K35 hK35 => ?_
            refine CW.region [0, 1, 2, 3, 4, 5, 6] rfl ?_
            refine LW.ex rfl rfl rfl rfl (Ex.move rfl) hS.rd ?_
            refine LW.ex rfl rfl rfl rfl (Ex.gtr rfl rfl rfl) hS.rd ?_
            refine LW.splitB (fun h17_1 => ?_) (fun h17_1 => ?_)
            · have h17_1 := of_decide_eq_true h17_1
              refine LW.ex rfl rfl rfl rfl (Ex.move rfl) hS.rd ?_
              refine LW.skip rfl rfl rfl rfl ?_
              refine LW.skip rfl rfl rfl rfl ?_
              refine LW.skip rfl rfl rfl rfl ?_
              refine LW.ex rfl rfl rfl rfl (by first | exact Ex.pick_yes rfl rfl | exact Ex.pick_no rfl rfl) hS.rd ?_
              refine LW.nil fun aa ha => hK35 _ _ _ ?_ aa ha
              refine CW.yes rfl ?_
              refine CW.region [0, 1, 2, 3] rfl ?_
              refine LW.ex rfl rfl rfl rfl (Ex.move rfl) hS.rd ?_
              refine LW.ex rfl rfl rfl rfl (Ex.load2c ti125 rfl rfl (by first | exact obT rfl | exact Rd.imm ‹_› | exact slT ‹_›) (by first | exact obT rfl | exact Rd.imm ‹_› | exact slT ‹_›)) hS.rd ?_
              refine LW.ex rfl rfl rfl rfl (Ex.move rfl) hS.rd ?_
              refine LW.hu rfl rfl rfl (Hv.mapUpdate (a := keyN (nodesL x n p)[i] hsi) (c := i) Try.underlying121 encNd 1 hS rfl rfl rfl rfl) fun _ w_3 hS => ?_
              dsimp only [List.set] at hS
              refine LW.nil fun aa ha => hK33 _ _ _ ?_ aa ha
              refine CW.region [0, 1] rfl ?_
              refine LW.ex rfl rfl rfl rfl (Ex.add rfl rfl (by first | exact inc64 (by omega) | exact addN (by omega) | exact w64 (by omega) (by omega))) hS.rd ?_
              refine LW.ex rfl rfl rfl rfl (Ex.move rfl) hS.rd ?_
              refine LW.nil fun aa ha => ?_
              have hS := hS.drop 0 rfl
              dsimp only [List.eraseIdx] at hS
              refine ⟨_, _, ?m15, ⟨i + 1, aset kv (keyN (nodesL x n p)[i] hsi) i, (by first | omega | (simp; done) | (simp; omega)), rfl, rfl, hS, ?_⟩, ha.sub ⟨rfl, rfl, rfl, rfl, rfl, rfl, trivial⟩⟩
              case m15 => omega
              intro j h k h0 hji hk
              rw [aget_aset]
              split
              · rename_i he
                congr 1
                subst he
                have he1 : ((nodesL x n p)[i].a, (nodesL x n p)[i].b) = ((nodesL x n p)[j].a, (nodesL x n p)[j].b) := hk
                exact nodupI hst hi2 h (i2_ext (congrArg Prod.fst he1) (congrArg Prod.snd he1))
              · rename_i he
                refine hkv j h k h0 ?_ hk
                rcases Nat.lt_or_eq_of_le (Nat.le_of_lt_succ hji) with h2 | h2
                · exact h2
                · subst h2; exact absurd (Subtype.ext hk.symm) he
            · have h17_1 := of_decide_eq_false h17_1
              refine LW.ex rfl rfl rfl rfl (Ex.move rfl) hS.rd ?_
              refine LW.ex rfl rfl rfl rfl (Ex.load2c ti125 rfl rfl (by first | exact obT rfl | exact Rd.imm ‹_› | exact slT ‹_›) (by first | exact obT rfl | exact Rd.imm ‹_› | exact slT ‹_›)) hS.rd ?_
              refine LW.ex rfl rfl rfl rfl (Ex.load2c ti125 rfl rfl (by first | exact obT rfl | exact Rd.imm ‹_› | exact slT ‹_›) (by first | exact obT rfl | exact Rd.imm ‹_› | exact slT ‹_›)) hS.rd ?_
              refine LW.ex rfl rfl rfl rfl (Ex.neqSt (by kernel_rfl) rfl rfl (i2Eq (nodesL x n p)[i] ⟨0, p⟩)) hS.rd ?_
              refine LW.splitB (fun h17_5 => ?_) (fun h17_5 => ?_)
              · exfalso
                have h0 : i = 0 := by omega
                subst h0
                simp only [Bool.not_eq_true', decide_eq_false_iff_not] at h17_5
                exact h17_5 rfl
              · skip
                refine LW.ex rfl rfl rfl rfl (by first | exact Ex.pick_yes rfl rfl | exact Ex.pick_no rfl rfl) hS.rd ?_
                refine LW.nil fun aa ha => hK35 _ _ _ ?_ aa ha
                refine CW.no rfl ?_
                refine CW.skip fun aa ha => hK33 _ _ _ ?_ aa ha
                refine CW.region [0, 1] rfl ?_
                refine LW.ex rfl rfl rfl rfl (Ex.add rfl rfl (by first | exact inc64 (by omega) | exact addN (by omega) | exact w64 (by omega) (by omega))) hS.rd ?_
                refine LW.ex rfl rfl rfl rfl (Ex.move rfl) hS.rd ?_
                refine LW.nil fun aa ha => ?_
                have hS := hS.drop 0 rfl
                dsimp only [List.eraseIdx] at hS
                refine ⟨_, _, ?m15, ⟨i + 1, kv, (by first | omega | (simp; done) | (simp; omega)), rfl, rfl, hS, ?_⟩, ha.sub ⟨rfl, rfl, rfl, rfl, rfl, rfl, trivial⟩⟩
                case m15 => omega
                intro j h k h0 hji hk
                exact hkv j h k h0 (by omega) hk
          · have h15_0 := of_decide_eq_false h15_0
            refine LW.nil fun aa ha => hK31 _ _ _ ?_ aa ha
            refine CW.seq fun K36 hK36 => ?_
            refine CW.no rfl ?_
            refine CW.exit fun aa ha => hK29 _ _ _ ?_ aa ha
            refine CW.seq fun K37 hK37 => ?_
            refine CW.region [0, 1, 2, 3] rfl ?_
            refine LW.ex rfl rfl rfl rfl (Ex.move rfl) hS.rd ?_
            refine LW.ex rfl rfl rfl rfl (Ex.move rfl) hS.rd ?_
            refine LW.ex rfl rfl rfl rfl (Ex.assign rfl) hS.rd ?_
            refine LW.ex rfl rfl rfl rfl (Ex.assign rfl) hS.rd ?_
            refine LW.nil fun aa ha => hK37 _ _ _ ?_ aa ha
            refine CW.ret fun aa ha => ?_
            refine ret_two ha Try.results55 rfl rfl ?_
            have hS := ((hS.drop 2 rfl).drop 2 rfl).drop 2 rfl
            dsimp only [List.eraseIdx] at hS
            exact ⟨_, rfl, _, _, _, _, rfl, hS, fun j h k h0 hk => hkv j h k h0 (by omega) hk⟩
        refine CW.seq fun K38 hK38 => ?_
        refine CW.region [0, 1, 2] rfl ?_
        refine LW.ex rfl rfl rfl rfl (Ex.fieldO 0 Try.underlying38 rfl rfl ti3 rfl) hS.rd ?_
        refine LW.ex rfl rfl rfl rfl (Ex.load1 ti3 rfl rfl (by first | exact obT rfl | exact Rd.imm ‹_› | exact slT ‹_›)) hS.rd ?_
        refine LW.ex rfl rfl rfl rfl (Ex.gtr rfl rfl rfl) hS.rd ?_
        refine LW.splitB (fun h11_2 => ?_) (fun h11_2 => ?_)
        · have h11_2 := of_decide_eq_true h11_2
          refine LW.nil fun aa ha => hK38 _ _ _ ?_ aa ha
          refine CW.yes rfl ?_
          rw [if_pos h11_2] at hn1
          refine CW.region [0, 1, 2, 3, 4] rfl ?_
          refine LW.ex rfl rfl rfl rfl (Ex.move rfl) hS.rd ?_
          refine LW.ex rfl rfl rfl rfl (Ex.load2c ti125 rfl rfl (by first | exact obT rfl | exact Rd.imm ‹_› | exact slT ‹_›) (by first | exact obT rfl | exact Rd.imm ‹_› | exact slT ‹_›)) hS.rd ?_
          refine LW.hv rfl rfl rfl rfl (Hv.buildSl hS Try.underlying120 ti125 rfl rfl rfl rfl rfl rfl) fun v w53 ⟨b53, hv, hb53, hS⟩ => ?_
          subst hv
          refine LW.hv rfl rfl rfl rfl (Hv.append (k := 1) rfl Try.underlying120 ti125 rfl hS rfl rfl rfl rfl (Rd.objAll (k := 0) rfl hS.rd) (by simp [Value.oneCell']) (by unfold maxLen; omega) (by omega)) fun v w54 ⟨ad54, c54, hv, hS⟩ => ?_
          subst hv
          dsimp only [List.set] at hS
          have hS := hS.drop 0 rfl
          dsimp only [List.eraseIdx] at hS
          refine LW.ex rfl rfl rfl rfl (Ex.assign rfl) hS.rd ?_
          refine LW.nil fun aa ha => ?_
          have hnl : 1 + (dd ys).length + 1 = (nodesL x n p).length := by rw [hn1, hmid]; simp; omega
          rw [hnl] at hS ha
          have hcl : [Value.int .i64 0, Value.int .i64 p] ++ (dd ys).flatMap i2L ++ [Value.int .i64 x.N, Value.int .i64 (-1)] = (nodesL x n p).flatMap i2L := by rw [hn1, hmid, List.flatMap_cons, List.flatMap_append]; rfl
          rw [hcl] at hS
          obtain ⟨g54, rfl⟩ := hS.sl_some 0 rfl (by omega)
          refine hJ11 _ (g54) (c54) hS  aa (ha.sub ⟨rfl, rfl, trivial⟩)
        · have h11_2 := of_decide_eq_false h11_2
          refine LW.nil fun aa ha => hK38 _ _ _ ?_ aa ha
          refine CW.no rfl ?_
          refine CW.skip fun aa ha => ?_
          rw [if_neg h11_2] at hn1
          have hnl : 1 + (dd ys).length = (nodesL x n p).length := by rw [hn1, hmid]; simp; omega
          rw [hnl] at hS ha
          have hcl : [Value.int .i64 0, Value.int .i64 p] ++ (dd ys).flatMap i2L = (nodesL x n p).flatMap i2L := by rw [hn1, hmid, List.append_nil, List.flatMap_cons]; rfl
          rw [hcl] at hS
          obtain ⟨g47, rfl⟩ := hS.sl_some 0 rfl (by omega)
          refine hJ11 _ (g47) (c47) hS  aa (ha.sub ⟨rfl, rfl, trivial⟩)
  have hS := hS.drew
  refine CW.drawP 7 [2, 3, 4] (.ex 0 <| .ex 1 <| .pu 2 <| .pu 3 <| .pu 4 <| .two 5 (.one 6 <| .done) 6 (.one 5 <| .done)) [7, 8] (Rd _ _) (Rd _ _) mixed (by kernel_rfl) rfl rfl hS.rd hS.rd ?_
  refine QW.ex rfl rfl rfl rfl (Ex.move rfl) ?_
  refine QW.ex rfl rfl rfl rfl (Ex.buildA ti125 ti3 rfl rfl rfl) ?_
  refine QW.pu rfl rfl rfl rfl (Ex.fieldO 0 Try.underlying38 rfl rfl ti3 rfl) ?_
  refine QW.pu rfl rfl rfl rfl (Ex.load1 ti3 rfl rfl (by first | exact obT rfl | exact Rd.imm ‹_› | exact slT ‹_›)) ?_
  refine QW.pu rfl rfl rfl rfl (Ex.buildA ti125 ti3 rfl rfl rfl) ?_
  refine QW.two rfl rfl rfl rfl rfl rfl rfl rfl (Hv.alloc ti125 hS) (fun _ _ ⟨_, _, _, h⟩ => h.rd.tail) (fun _ _ ⟨_, _, _, h⟩ => h.rd.tail) (Hv.alloc ti125 hS) (fun _ _ ⟨_, _, _, h⟩ => h.rd.tail) (fun _ _ ⟨_, _, _, h⟩ => h.rd.tail) (fun v w6 ⟨b6, hv, hb6, hS⟩ => ?gA39) (fun v w7 ⟨b7, hv, hb7, hS⟩ => ?gB39)
  case gA39 =>
    skip
    subst hv
    refine QW.hv rfl rfl rfl rfl (Hv.alloc ti125 hS) (fun _ _ ⟨_, _, _, h⟩ => h.rd.tail.tail) (fun _ _ ⟨_, _, _, h⟩ => h.rd.tail.tail) fun v w7 ⟨b7, hv, hb7, hS⟩ => ?_
    subst hv
    refine QW.nil ?_
    refine TW.hu rfl rfl rfl (Hv.storeN (k := 1) ti125 hS rfl rfl rfl rfl (by simp [Value.oneCell'])) (fun _ _ h => (h.rd.erase 1).tail) fun _ w_7 hS => ?_
    dsimp only [List.set] at hS
    refine TW.hu rfl rfl rfl (Hv.storeN (k := 0) ti125 hS rfl rfl rfl rfl (by simp [Value.oneCell'])) (fun _ _ h => (h.rd.erase 0).tail) fun _ w_8 hS => ?_
    dsimp only [List.set] at hS
    refine TW.nil fun aa ha => ?_
    refine hJr1 _ (b6) (b7) hS  aa (ha.sub ⟨rfl, rfl, rfl, trivial⟩)
  case gB39 =>
    skip
    subst hv
    refine QW.hv rfl rfl rfl rfl (Hv.alloc ti125 hS) (fun _ _ ⟨_, _, _, h⟩ => h.rd.tail.tail) (fun _ _ ⟨_, _, _, h⟩ => h.rd.tail.tail) fun v w6 ⟨b6, hv, hb6, hS⟩ => ?_
    subst hv
    refine QW.nil ?_
    refine TW.hu rfl rfl rfl (Hv.storeN (k := 0) ti125 hS rfl rfl rfl rfl (by simp [Value.oneCell'])) (fun _ _ h => (h.rd.erase 1).tail) fun _ w_7 hS => ?_
    dsimp only [List.set] at hS
    refine TW.hu rfl rfl rfl (Hv.storeN (k := 1) ti125 hS rfl rfl rfl rfl (by simp [Value.oneCell'])) (fun _ _ h => (h.rd.erase 0).tail) fun _ w_8 hS => ?_
    dsimp only [List.set] at hS
    refine TW.nil fun aa ha => ?_
    have hS := hS.swap
    refine hJr1 _ (b6) (b7) hS  aa (ha.sub ⟨rfl, rfl, rfl, trivial⟩)
end Go.Proofs.Ytgnpjhellmfhoaa

