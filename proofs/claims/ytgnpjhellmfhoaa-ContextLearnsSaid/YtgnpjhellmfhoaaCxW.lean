/-
  Context: the reference's lattice, made of raw data: in plain Lean, and its walk.
-/
import Derived.Test.YtgnpjhellmfhoaaCxV
import Derived.Test.YtgnpjhellmfhoaaCxL2
import Derived.Test.YtgnpjhellmfhoaaCxO
namespace Go.Proofs.Ytgnpjhellmfhoaa
open Go.RowKit Sy

def sameE (e y : Edge) : Bool := decide (y.From = e.From ∧ y.To = e.To ∧ y.Word = e.Word)
theorem findE_c (x : Lat) (e : Edge) (a3 : Option Addr) (c3 : Nat) (μ : Mem) (w : World) (hμ : Imm μ w) (hl : Sl μ a3 c3 x.Edges) :
    Calls Try.prog 31 #[.agg #[.int .i64 x.N, .slice a3 x.Edges.length c3], edgeV e] w (RetS w (.int .i64 (firstI (sameE e) x.Edges))) := by
  have hll := hl.1
  have hlc := hl.2.1
  simp only [maxLen] at hlc
  have hS := St.start w μ hμ
  refine calls_start 39 [.agg #[.int .i64 x.N, .slice a3 x.Edges.length c3], edgeV e] Try.func31 rfl Try.ntmps31 rfl rfl ?_
  refine CW.seq fun K1 hK1 => ?_
  refine CW.region [0, 1, 2] rfl ?_
  refine LW.hv rfl rfl rfl rfl (Hv.boxS hS rfl rfl) fun v w2 ⟨b2, hv, hb2, hS⟩ => ?_
  subst hv
  refine LW.hv rfl rfl rfl rfl (Hv.boxS hS rfl rfl) fun v w3 ⟨b3, hv, hb3, hS⟩ => ?_
  subst hv
  refine LW.ex rfl rfl rfl rfl (Ex.assign rfl) hS.rd ?_
  refine LW.nil fun aa ha => hK1 _ _ _ ?_ aa ha
  refine CW.seq fun K2 hK2 => ?_
  refine CW.seq fun K3 hK3 => ?_
  refine CW.region [0] rfl ?_
  refine LW.ex rfl rfl rfl rfl (Ex.assign rfl) hS.rd ?_
  refine LW.nil fun aa ha => hK3 _ _ _ ?_ aa ha
  refine CW.block ?_
  refine CW.loop (fun qq frm wl2 => ∃ (i : Nat), i ≤ x.Edges.length ∧ qq = x.Edges.length - i ∧ frm = [(2, .pointer (some ⟨b2, 0, none⟩)), (3, .pointer (some ⟨b3, 0, none⟩)), (5, .int .i64 i)] ∧ St w wl2 μ [Own.obj b3 (edgeL e) 43, Own.obj b2 [.int .i64 x.N, .slice a3 x.Edges.length c3] 38] ∧ (∀ j (hj : j < x.Edges.length), j < i → sameE e x.Edges[j] = false)) _ ⟨0, (by first | omega | (simp; done) | (simp; omega)), rfl, rfl, hS, fun j _ hj => by omega⟩ ⟨rfl, rfl, rfl, trivial⟩ ?_
  clear hS
  rintro qq frm wl2 ⟨i, hi, hq, rfl, hS, he⟩
  refine CW.seq fun K4 hK4 => ?_
  refine CW.seq fun K5 hK5 => ?_
  refine CW.region [0, 1, 2, 3, 4] rfl ?_
  refine LW.ex rfl rfl rfl rfl (Ex.move rfl) hS.rd ?_
  refine LW.ex rfl rfl rfl rfl (Ex.fieldO 1 Try.underlying38 rfl rfl ti36 rfl) hS.rd ?_
  refine LW.ex rfl rfl rfl rfl (Ex.load1 ti36 rfl rfl (by first | exact obT rfl | exact Rd.imm ‹_› | exact slT ‹_›)) hS.rd ?_
  refine LW.ex rfl rfl rfl rfl (Ex.lenSl rfl Try.underlying36 rfl) hS.rd ?_
  refine LW.ex rfl rfl rfl rfl (Ex.lss rfl rfl rfl) hS.rd ?_
  refine LW.splitB (fun h2_4 => ?_) (fun h2_4 => ?_)
  · have h2_4 := of_decide_eq_true h2_4
    refine LW.nil fun aa ha => hK5 _ _ _ ?_ aa ha
    refine CW.yes rfl ?_
    refine CW.skip fun aa ha => hK4 _ _ _ ?_ aa ha
    refine CW.seq fun K6 hK6 => ?_
    refine CW.block ?_
    refine CW.seq fun K7 hK7 => ?_
    have hi2 : i < x.Edges.length := by omega
    obtain ⟨bl', ol, rfl, k0, k1, k2, k3⟩ := hl.at hi2
    refine CW.region [0, 1, 2, 3, 4, 5, 6] rfl ?_
    refine LW.ex rfl rfl rfl rfl (Ex.fieldO 1 Try.underlying38 rfl rfl ti36 rfl) hS.rd ?_
    refine LW.ex rfl rfl rfl rfl (Ex.load1 ti36 rfl rfl (by first | exact obT rfl | exact Rd.imm ‹_› | exact slT ‹_›)) hS.rd ?_
    refine LW.ex rfl rfl rfl rfl (Ex.move rfl) hS.rd ?_
    refine LW.ex rfl rfl rfl rfl (Ex.indexSl Try.underlying36 ti43 rfl rfl rfl (by omega)) hS.rd ?_
    refine LW.ex rfl rfl rfl rfl (Ex.load4c ti43 rfl rfl (by first | exact obT rfl | exact Rd.imm ‹_› | exact slT ‹_›) (by first | exact obT rfl | exact Rd.imm ‹_› | exact slT ‹_›) (by first | exact obT rfl | exact Rd.imm ‹_› | exact slT ‹_›) (by first | exact obT rfl | exact Rd.imm ‹_› | exact slT ‹_›)) hS.rd ?_
    refine LW.hv rfl rfl rfl rfl (Hv.alloc ti43 hS) fun v w6 ⟨b6, hv, hb6, hS⟩ => ?_
    subst hv
    refine LW.hu rfl rfl rfl (Hv.storeN (k := 0) ti43 hS rfl rfl rfl rfl (by simp [Value.oneCell'])) fun _ w_6 hS => ?_
    dsimp only [List.set] at hS
    refine LW.nil fun aa ha => hK7 _ _ _ ?_ aa ha
    refine CW.seq fun K8 hK8 => ?_
    refine CW.region [0, 1, 2, 3, 4, 5, 6, 7, 8, 9, 10, 11, 12, 13, 14, 15, 16, 17, 18] rfl ?_
    refine LW.ex rfl rfl rfl rfl (Ex.fieldO 0 Try.underlying43 rfl rfl ti3 rfl) hS.rd ?_
    refine LW.ex rfl rfl rfl rfl (Ex.load1 ti3 rfl rfl (by first | exact obT rfl | exact Rd.imm ‹_› | exact slT ‹_›)) hS.rd ?_
    refine LW.ex rfl rfl rfl rfl (Ex.fieldO 0 Try.underlying43 rfl rfl ti3 rfl) hS.rd ?_
    refine LW.ex rfl rfl rfl rfl (Ex.load1 ti3 rfl rfl (by first | exact obT rfl | exact Rd.imm ‹_› | exact slT ‹_›)) hS.rd ?_
    refine LW.ex rfl rfl rfl rfl (Ex.eql rfl rfl rfl) hS.rd ?_
    refine LW.splitB (fun h5_4 => ?_) (fun h5_4 => ?_)
    · have h5_4 := of_decide_eq_true h5_4
      refine LW.ex rfl rfl rfl rfl (Ex.move rfl) hS.rd ?_
      refine LW.ex rfl rfl rfl rfl (Ex.fieldO 1 Try.underlying43 rfl rfl ti3 rfl) hS.rd ?_
      refine LW.ex rfl rfl rfl rfl (Ex.load1 ti3 rfl rfl (by first | exact obT rfl | exact Rd.imm ‹_› | exact slT ‹_›)) hS.rd ?_
      refine LW.ex rfl rfl rfl rfl (Ex.fieldO 1 Try.underlying43 rfl rfl ti3 rfl) hS.rd ?_
      refine LW.ex rfl rfl rfl rfl (Ex.load1 ti3 rfl rfl (by first | exact obT rfl | exact Rd.imm ‹_› | exact slT ‹_›)) hS.rd ?_
      refine LW.ex rfl rfl rfl rfl (Ex.eql rfl rfl rfl) hS.rd ?_
      refine LW.splitB (fun h5_10 => ?_) (fun h5_10 => ?_)
      · have h5_10 := of_decide_eq_true h5_10
        refine LW.ex rfl rfl rfl rfl (by first | exact Ex.pick_yes rfl rfl | exact Ex.pick_no rfl rfl) hS.rd ?_
        refine LW.ex rfl rfl rfl rfl (Ex.move rfl) hS.rd ?_
        refine LW.ex rfl rfl rfl rfl (Ex.fieldO 2 Try.underlying43 rfl rfl ti3 rfl) hS.rd ?_
        refine LW.ex rfl rfl rfl rfl (Ex.load1 ti3 rfl rfl (by first | exact obT rfl | exact Rd.imm ‹_› | exact slT ‹_›)) hS.rd ?_
        refine LW.ex rfl rfl rfl rfl (Ex.fieldO 2 Try.underlying43 rfl rfl ti3 rfl) hS.rd ?_
        refine LW.ex rfl rfl rfl rfl (Ex.load1 ti3 rfl rfl (by first | exact obT rfl | exact Rd.imm ‹_› | exact slT ‹_›)) hS.rd ?_
        refine LW.ex rfl rfl rfl rfl (Ex.eql rfl rfl rfl) hS.rd ?_
        refine LW.splitB (fun h5_17 => ?_) (fun h5_17 => ?_)
        · have h5_17 := of_decide_eq_true h5_17
          refine LW.ex rfl rfl rfl rfl (by first | exact Ex.pick_yes rfl rfl | exact Ex.pick_no rfl rfl) hS.rd ?_
          refine LW.nil fun aa ha => hK8 _ _ _ ?_ aa ha
          refine CW.yes rfl ?_
          refine CW.seq fun K9 hK9 => ?_
          refine CW.region [0, 1] rfl ?_
          refine LW.ex rfl rfl rfl rfl (Ex.move rfl) hS.rd ?_
          refine LW.ex rfl rfl rfl rfl (Ex.assign rfl) hS.rd ?_
          refine LW.nil fun aa ha => hK9 _ _ _ ?_ aa ha
          refine CW.ret fun aa ha => ?_
          refine ret_one ha Try.results31 rfl ?_
          exact hS.retE (by unfold firstI; rw [(List.findIdx_eq hi2).2 ⟨decide_eq_true ⟨by omega, by omega, by omega⟩, fun j hj => he j (by omega) hj⟩, if_pos hi2])
        · have h5_17 := of_decide_eq_false h5_17
          refine LW.ex rfl rfl rfl rfl (by first | exact Ex.pick_yes rfl rfl | exact Ex.pick_no rfl rfl) hS.rd ?_
          refine LW.nil fun aa ha => hK8 _ _ _ ?_ aa ha
          refine CW.no rfl ?_
          refine CW.skip fun aa ha => hK6 _ _ _ ?_ aa ha
          refine CW.region [0, 1, 2] rfl ?_
          refine LW.ex rfl rfl rfl rfl (Ex.move rfl) hS.rd ?_
          refine LW.ex rfl rfl rfl rfl (Ex.add rfl rfl (by first | exact inc64 (by omega) | exact addN (by omega) | exact w64 (by omega) (by omega))) hS.rd ?_
          refine LW.ex rfl rfl rfl rfl (Ex.assign rfl) hS.rd ?_
          refine LW.nil fun aa ha => ?_
          have hS := hS.drop 0 rfl
          dsimp only [List.eraseIdx] at hS
          refine ⟨_, _, ?m2, ⟨i + 1, (by first | omega | (simp; done) | (simp; omega)), rfl, rfl, hS, fun j hj hji => by by_cases h : j = i; (· subst h; exact decide_eq_false (by omega)); (· exact he j hj (by omega))⟩, ha.sub ⟨rfl, rfl, rfl, trivial⟩⟩
          case m2 => omega
      · have h5_10 := of_decide_eq_false h5_10
        refine LW.ex rfl rfl rfl rfl (by first | exact Ex.pick_yes rfl rfl | exact Ex.pick_no rfl rfl) hS.rd ?_
        refine LW.ex rfl rfl rfl rfl (Ex.move rfl) hS.rd ?_
        refine LW.skip rfl rfl rfl rfl ?_
        refine LW.skip rfl rfl rfl rfl ?_
        refine LW.skip rfl rfl rfl rfl ?_
        refine LW.skip rfl rfl rfl rfl ?_
        refine LW.skip rfl rfl rfl rfl ?_
        refine LW.ex rfl rfl rfl rfl (by first | exact Ex.pick_yes rfl rfl | exact Ex.pick_no rfl rfl) hS.rd ?_
        refine LW.nil fun aa ha => hK8 _ _ _ ?_ aa ha
        refine CW.no rfl ?_
        refine CW.skip fun aa ha => hK6 _ _ _ ?_ aa ha
        refine CW.region [0, 1, 2] rfl ?_
        refine LW.ex rfl rfl rfl rfl (Ex.move rfl) hS.rd ?_
        refine LW.ex rfl rfl rfl rfl (Ex.add rfl rfl (by first | exact inc64 (by omega) | exact addN (by omega) | exact w64 (by omega) (by omega))) hS.rd ?_
        refine LW.ex rfl rfl rfl rfl (Ex.assign rfl) hS.rd ?_
        refine LW.nil fun aa ha => ?_
        have hS := hS.drop 0 rfl
        dsimp only [List.eraseIdx] at hS
        refine ⟨_, _, ?m2, ⟨i + 1, (by first | omega | (simp; done) | (simp; omega)), rfl, rfl, hS, fun j hj hji => by by_cases h : j = i; (· subst h; exact decide_eq_false (by omega)); (· exact he j hj (by omega))⟩, ha.sub ⟨rfl, rfl, rfl, trivial⟩⟩
        case m2 => omega
    · have h5_4 := of_decide_eq_false h5_4
      refine LW.ex rfl rfl rfl rfl (Ex.move rfl) hS.rd ?_
      refine LW.skip rfl rfl rfl rfl ?_
      refine LW.skip rfl rfl rfl rfl ?_
      refine LW.skip rfl rfl rfl rfl ?_
      refine LW.skip rfl rfl rfl rfl ?_
      refine LW.skip rfl rfl rfl rfl ?_
      refine LW.ex rfl rfl rfl rfl (by first | exact Ex.pick_yes rfl rfl | exact Ex.pick_no rfl rfl) hS.rd ?_
      refine LW.ex rfl rfl rfl rfl (Ex.move rfl) hS.rd ?_
      refine LW.skip rfl rfl rfl rfl ?_
      refine LW.skip rfl rfl rfl rfl ?_
      refine LW.skip rfl rfl rfl rfl ?_
      refine LW.skip rfl rfl rfl rfl ?_
      refine LW.skip rfl rfl rfl rfl ?_
      refine LW.ex rfl rfl rfl rfl (by first | exact Ex.pick_yes rfl rfl | exact Ex.pick_no rfl rfl) hS.rd ?_
      refine LW.nil fun aa ha => hK8 _ _ _ ?_ aa ha
      refine CW.no rfl ?_
      refine CW.skip fun aa ha => hK6 _ _ _ ?_ aa ha
      refine CW.region [0, 1, 2] rfl ?_
      refine LW.ex rfl rfl rfl rfl (Ex.move rfl) hS.rd ?_
      refine LW.ex rfl rfl rfl rfl (Ex.add rfl rfl (by first | exact inc64 (by omega) | exact addN (by omega) | exact w64 (by omega) (by omega))) hS.rd ?_
      refine LW.ex rfl rfl rfl rfl (Ex.assign rfl) hS.rd ?_
      refine LW.nil fun aa ha => ?_
      have hS := hS.drop 0 rfl
      dsimp only [List.eraseIdx] at hS
      refine ⟨_, _, ?m2, ⟨i + 1, (by first | omega | (simp; done) | (simp; omega)), rfl, rfl, hS, fun j hj hji => by by_cases h : j = i; (· subst h; exact decide_eq_false (by omega)); (· exact he j hj (by omega))⟩, ha.sub ⟨rfl, rfl, rfl, trivial⟩⟩
      case m2 => omega
  · have h2_4 := of_decide_eq_false h2_4
    refine LW.nil fun aa ha => hK5 _ _ _ ?_ aa ha
    refine CW.no rfl ?_
    refine CW.exit fun aa ha => hK2 _ _ _ ?_ aa ha
    refine CW.seq fun K10 hK10 => ?_
    refine CW.region [0] rfl ?_
    refine LW.ex rfl rfl rfl rfl (Ex.assign rfl) hS.rd ?_
    refine LW.nil fun aa ha => hK10 _ _ _ ?_ aa ha
    refine CW.ret fun aa ha => ?_
    refine ret_one ha Try.results31 rfl ?_
    exact hS.retE (by unfold firstI; rw [List.findIdx_eq_length.2 fun y hy => (by obtain ⟨j, hj, rfl⟩ := List.getElem_of_mem hy; exact he j hj (by omega)), if_neg (by omega)])
def baseE (n i : Nat) : Edge := ⟨(i : Nat), (i + 1 : Nat), (i % n : Nat), 3⟩
def baseX (N n : Nat) : List Edge := (List.range N).map (baseE n)
def edgeOf (N n : Nat) (b : B4) : Edge := ⟨(b.a.toNat % N : Nat), (b.a.toNat % N + 1 + b.b.toNat % (N - b.a.toNat % N) : Nat), (b.c.toNat % n : Nat), (b.d.toNat % 32 : Nat)⟩
def addE (L : List Edge) (e : Edge) : List Edge := if L.any (sameE e) = true then L else insE e L
def edgesTo (N n : Nat) (ls : List B4) (i : Nat) : List Edge := (ls.take i).foldl (fun L b => addE L (edgeOf N n b)) (baseX N n)
def madeX (ls : List B4) (places : UInt8) (n : Nat) : Lat := ⟨(places.toNat % 6 : Nat), if 0 < places.toNat % 6 then edgesTo (places.toNat % 6) n ls (min ls.length 8) else []⟩
theorem edgesTo_succ {N n : Nat} {ls : List B4} {i : Nat} (h : i < ls.length) : edgesTo N n ls (i + 1) = addE (edgesTo N n ls i) (edgeOf N n ls[i]) := by
  unfold edgesTo; rw [List.take_succ_eq_append_getElem h, List.foldl_append]; rfl
theorem edLess_trans (a b c : Edge) (h1 : edLess a b = true) (h2 : edLess b c = true) : edLess a c = true := by rw [edLess_iff] at *; omega
theorem insE_eq {e : Edge} {L : List Edge} (h : L.Pairwise fun a b => edLess a b = true) : insE e L = ins (fun q => edLess e q) (fun _ => false) id e L :=
  insG_ins (R := fun a b => edLess a b = true) (fun q z h1 h2 => edLess_trans _ _ _ h1 h2) (fun q z h1 => by cases h1) (fun _ _ => rfl) h
theorem addE_sorted {e : Edge} {L : List Edge} (h : L.Pairwise fun a b => edLess a b = true) : (addE L e).Pairwise fun a b => edLess a b = true := by
  unfold addE
  split
  · exact h
  · rename_i hn
    rw [insE_eq h]
    refine ins_sortedM (R := fun a b => edLess a b = true) (fun q hq => hq) (fun q z h => by cases h) (fun q z h => by cases h) edLess_trans (fun q hq h1 _ => ?_) h
    have h3 : ¬ (q.From = e.From ∧ q.To = e.To ∧ q.Word = e.Word) := fun h4 => hn (List.any_eq_true.2 ⟨q, hq, decide_eq_true h4⟩)
    rw [Bool.eq_false_iff, ne_eq, edLess_iff] at h1
    rw [edLess_iff]; omega
theorem addE_mem {e y : Edge} {L : List Edge} (h : L.Pairwise fun a b => edLess a b = true) (hy : y ∈ addE L e) : y = e ∨ y ∈ L := by
  unfold addE at hy
  split at hy
  · exact .inr hy
  · rw [insE_eq h] at hy
    rcases ins_mem hy with h | h | ⟨z, _, h, _⟩
    · exact .inl h
    · exact .inr h
    · cases h
theorem addE_len {e : Edge} {L : List Edge} (h : L.Pairwise fun a b => edLess a b = true) : (addE L e).length ≤ L.length + 1 := by
  unfold addE
  split
  · omega
  · rw [insE_eq h]; exact ins_len.2
theorem addE_has {e y : Edge} {L : List Edge} (h : L.Pairwise fun a b => edLess a b = true) (hy : y ∈ L) : y ∈ addE L e := by
  unfold addE
  split
  · exact hy
  · rw [insE_eq h]; exact ins_has rfl hy
def edGood (N n : Nat) (e : Edge) : Prop := 0 ≤ e.From ∧ e.From < e.To ∧ e.To ≤ N ∧ 0 ≤ e.Word ∧ e.Word < n ∧ 0 ≤ e.Cost ∧ e.Cost ≤ 31
theorem edgeOf_good {N n : Nat} (hN : 0 < N) (hn : 0 < n) (b : B4) : edGood N n (edgeOf N n b) := by
  have h1 := Nat.mod_lt b.a.toNat hN
  have h2 := Nat.mod_lt b.b.toNat (show 0 < N - b.a.toNat % N by omega)
  have h3 := Nat.mod_lt b.c.toNat hn
  have h4 := Nat.mod_lt b.d.toNat (show 0 < 32 by omega)
  unfold edGood edgeOf; simp only; omega
theorem baseX_sorted (N n : Nat) : (baseX N n).Pairwise fun a b => edLess a b = true := by
  unfold baseX
  rw [List.pairwise_map]
  refine List.pairwise_lt_range.imp fun {a b} h => ?_
  rw [edLess_iff]; unfold baseE; simp only; omega
theorem baseX_good {N n : Nat} (hn : 0 < n) : ∀ e ∈ baseX N n, edGood N n e := fun e he => by
  unfold baseX at he
  obtain ⟨i, hi, rfl⟩ := List.mem_map.1 he
  rw [List.mem_range] at hi
  have h3 := Nat.mod_lt i hn
  unfold edGood baseE; simp only; omega
theorem edgesTo_ok {N n : Nat} (hN : 0 < N) (hn : 0 < n) (ls : List B4) : ∀ i, i ≤ ls.length → (edgesTo N n ls i).Pairwise (fun a b => edLess a b = true) ∧ (∀ e ∈ edgesTo N n ls i, edGood N n e) ∧ (edgesTo N n ls i).length ≤ N + i ∧ ∀ e ∈ baseX N n, e ∈ edgesTo N n ls i
  | 0, _ => by rw [show edgesTo N n ls 0 = baseX N n from rfl]; exact ⟨baseX_sorted N n, baseX_good hn, by unfold baseX; simp, fun e he => he⟩
  | i + 1, h => by
    obtain ⟨h1, h2, h3, h4⟩ := edgesTo_ok hN hn ls i (by omega)
    rw [edgesTo_succ (by omega)]
    refine ⟨addE_sorted h1, fun e he => ?_, Nat.le_trans (addE_len h1) (by omega), fun e he => addE_has h1 (h4 e he)⟩
    rcases addE_mem h1 he with rfl | he
    · exact edgeOf_good hN hn _
    · exact h2 e he
theorem madeX_ok (ls : List B4) (places : UInt8) {n : Nat} (hn : 0 < n) (hn2 : n ≤ 200) : okX (madeX ls places n) = true ∧ wordsIn (madeX ls places n) n = true ∧ (madeX ls places n).Edges.length ≤ 13 ∧ (0 ≤ (madeX ls places n).N ∧ (madeX ls places n).N ≤ 5) ∧
    ∀ p : Nat, (p : Int) < (madeX ls places n).N → ∃ e ∈ (madeX ls places n).Edges, e.From = p := by
  have h6 := Nat.mod_lt places.toNat (show 0 < 6 by omega)
  by_cases h0 : 0 < places.toNat % 6
  · have hE : (madeX ls places n).Edges = edgesTo (places.toNat % 6) n ls (min ls.length 8) := by unfold madeX; rw [if_pos h0]
    have hN : (madeX ls places n).N = (places.toNat % 6 : Nat) := rfl
    obtain ⟨h1, h2, h3, h4⟩ := edgesTo_ok h0 hn ls (min ls.length 8) (by omega)
    rw [← hE] at h1 h2 h3 h4
    refine ⟨?_, ?_, by omega, by omega, fun p hp => ⟨baseE n p, h4 _ (List.mem_map.2 ⟨p, List.mem_range.2 (by omega), rfl⟩), rfl⟩⟩
    · unfold okX
      rw [Bool.and_eq_true, decide_eq_true_eq]
      refine ⟨by omega, rises_of (fun e he => ?_) h1 (fun q hq => by cases hq)⟩
      have := h2 e he
      unfold edGood at this
      rw [edIn_iff]; omega
    · unfold wordsIn
      rw [List.all_eq_true]
      intro e he
      have := h2 e he
      unfold edGood at this
      exact decide_eq_true (by omega)
  · have hE : (madeX ls places n).Edges = [] := by unfold madeX; rw [if_neg h0]
    have hN : (madeX ls places n).N = (places.toNat % 6 : Nat) := rfl
    refine ⟨?_, by unfold wordsIn; rw [hE]; rfl, by rw [hE]; simp, by omega, fun p hp => by omega⟩
    unfold okX; rw [hE, hN]; rw [show places.toNat % 6 = 0 by omega]; rfl
theorem baseX_succ (n i : Nat) : baseX (i + 1) n = baseX i n ++ [baseE n i] := by unfold baseX; rw [List.range_succ, List.map_append]; rfl
def IsLat (x : Lat) (μ : Mem) (v : Value) : Prop := ∃ a c, v = .agg #[.int .i64 x.N, .slice a x.Edges.length c] ∧ Sl μ a c x.Edges
theorem remN' (a b : Nat) {B : Int} (h : B = b) : ((a : Int)).tmod B = ((a % b : Nat) : Int) := by subst h; exact remN a b
set_option maxRecDepth 100000 in
set_option maxHeartbeats 2000000 in
theorem madeX_m {w0 w : World} {μ : Mem} {Lr : List Own} (ls : List B4) (places : UInt8) (n : Nat) (hn : 0 < n) (hn2 : n ≤ 200) (r0 : Option Addr) (d0 : Nat) (hS : St w0 w μ Lr) (h0 : Sl μ r0 d0 ls) :
    Calls Try.prog 11 #[.slice r0 ls.length d0, .int .u8 places.toNat, .int .i64 n] w (RetM fun v w' => ∃ a c, v = .agg #[.int .i64 (madeX ls places n).N, .slice a (madeX ls places n).Edges.length c] ∧
      St w0 w' μ (Own.sl a (madeX ls places n).Edges.length c 43 4 ((madeX ls places n).Edges.flatMap edgeL) :: Lr)) := by
  have h6 := Nat.mod_lt places.toNat (show 0 < 6 by omega)
  have hpl := places.toNat_lt
  obtain ⟨N, hN⟩ : ∃ N, N = places.toNat % 6 := ⟨_, rfl⟩
  have hX : madeX ls places n = ⟨(N : Nat), if 0 < N then edgesTo N n ls (min ls.length 8) else []⟩ := by rw [hN]; rfl
  rw [← hN] at h6
  refine calls_start 100 [.slice r0 ls.length d0, .int .u8 places.toNat, .int .i64 n] Try.func11 rfl Try.ntmps11 rfl rfl ?_
  refine CW.seq fun K11 hK11 => ?_
  refine CW.region [0] rfl ?_
  refine LW.hv rfl rfl rfl rfl (Hv.alloc ti38 hS) fun v w6 ⟨b6, hv, hb6, hS⟩ => ?_
  subst hv
  refine LW.nil fun aa ha => hK11 _ _ _ ?_ aa ha
  refine CW.seq fun K12 hK12 => ?_
  refine CW.region [0, 1, 2, 3, 4, 5] rfl ?_
  refine LW.ex rfl rfl rfl rfl (Ex.move rfl) hS.rd ?_
  refine LW.ex rfl rfl rfl rfl (Ex.rem (r := (N : Int)) rfl rfl (by omega) (by rw [hN]; exact remN' _ 6 rfl)) hS.rd ?_
  refine LW.ex rfl rfl rfl rfl (Ex.conv Try.underlying5 Try.underlying3 rfl (by first | exact w64 (by omega) (by omega) | exact wu8 (by omega) (by omega))) hS.rd ?_
  refine LW.ex rfl rfl rfl rfl (Ex.buildS st38 rfl rfl rfl) hS.rd ?_
  refine LW.hv rfl rfl rfl rfl (Hv.alloc ti38 hS) fun v w7 ⟨b7, hv, hb7, hS⟩ => ?_
  subst hv
  refine LW.hu rfl rfl rfl (Hv.storeN (k := 0) ti38 hS rfl rfl rfl rfl (by simp [Value.oneCell'])) fun _ w_5 hS => ?_
  dsimp only [List.set] at hS
  refine LW.nil fun aa ha => hK12 _ _ _ ?_ aa ha
  refine CW.seq fun K13 hK13 => ?_
  refine CW.seq fun K14 hK14 => ?_
  refine CW.region [0] rfl ?_
  refine LW.ex rfl rfl rfl rfl (Ex.assign rfl) hS.rd ?_
  refine LW.nil fun aa ha => hK14 _ _ _ ?_ aa ha
  refine CW.block ?_
  have hS := nil_sl 43 4 hS
  refine CW.loop (fun qq frm wl3 => ∃ (i : Nat) (aE : Option Addr) (cE : Nat), i ≤ N ∧ qq = N - i ∧ frm = [(0, .slice r0 ls.length d0), (2, .int .i64 n), (6, .pointer (some ⟨b6, 0, none⟩)), (7, .pointer (some ⟨b7, 0, none⟩)), (8, .int .i64 i)] ∧ St w0 wl3 μ (Own.sl aE i cE 43 4 ((baseX i n).flatMap edgeL) :: Own.obj b7 [.int .i64 N, .slice aE i cE] 38 :: Own.obj b6 [.int .i64 0, .slice none 0 0] 38 :: Lr)) _ ⟨0, none, 0, (by first | omega | (simp; done) | (simp; omega)), rfl, rfl, hS⟩ ⟨rfl, rfl, rfl, rfl, rfl, trivial⟩ ?_
  clear hS
  rintro qq frm wl3 ⟨i, aE, cE, hi, hq, rfl, hS⟩
  refine CW.seq fun K15 hK15 => ?_
  refine CW.seq fun K16 hK16 => ?_
  refine CW.region [0, 1, 2, 3] rfl ?_
  refine LW.ex rfl rfl rfl rfl (Ex.move rfl) hS.rd ?_
  refine LW.ex rfl rfl rfl rfl (Ex.fieldO 0 Try.underlying38 rfl rfl ti3 rfl) hS.rd ?_
  refine LW.ex rfl rfl rfl rfl (Ex.load1 ti3 rfl rfl (by first | exact obT rfl | exact Rd.imm ‹_› | exact slT ‹_›)) hS.rd ?_
  refine LW.ex rfl rfl rfl rfl (Ex.lss rfl rfl rfl) hS.rd ?_
  refine LW.splitB (fun h3_3 => ?_) (fun h3_3 => ?_)
  · have h3_3 := of_decide_eq_true h3_3
    refine LW.nil fun aa ha => hK16 _ _ _ ?_ aa ha
    refine CW.yes rfl ?_
    refine CW.skip fun aa ha => hK15 _ _ _ ?_ aa ha
    refine CW.seq fun K17 hK17 => ?_
    refine CW.block ?_
    have hS := hS.drew
    refine CW.draw 10 (.ex 0 <| .ex 1 <| .ex 2 <| .ex 3 <| .ex 4 <| .ex 5 <| .ex 6 <| .ex 7 <| .ex 8 <| .one 9 <| .done) [10, 11, 12] (Rd _ _) mixed (by kernel_rfl) rfl rfl hS.rd ?_
    refine PW.ex rfl rfl rfl rfl (Ex.fieldO 1 Try.underlying38 rfl rfl ti36 rfl) ?_
    refine PW.ex rfl rfl rfl rfl (Ex.load1 ti36 rfl rfl (by first | exact obT rfl | exact Rd.imm ‹_› | exact slT ‹_›)) ?_
    refine PW.ex rfl rfl rfl rfl (Ex.move rfl) ?_
    refine PW.ex rfl rfl rfl rfl (Ex.move rfl) ?_
    refine PW.ex rfl rfl rfl rfl (Ex.add rfl rfl (by first | exact inc64 (by omega) | exact addN (by omega) | exact w64 (by omega) (by omega))) ?_
    refine PW.ex rfl rfl rfl rfl (Ex.move rfl) ?_
    refine PW.ex rfl rfl rfl rfl (Ex.move rfl) ?_
    refine PW.ex rfl rfl rfl rfl (Ex.rem (r := ((i % n : Nat) : Int)) rfl rfl (by omega) (remN _ _)) ?_
    refine PW.ex rfl rfl rfl rfl (Ex.buildS st43 rfl rfl rfl) ?_
    refine PW.hv rfl rfl rfl rfl (Hv.buildSl hS Try.underlying36 ti43 rfl rfl rfl rfl rfl rfl) (fun _ _ ⟨_, _, _, h⟩ => h.rd.tail) fun v w30 ⟨b30, hv, hb30, hS⟩ => ?_
    subst hv
    refine PW.nil ?_
    refine LW.hv rfl rfl rfl rfl (Hv.append (k := 1) rfl Try.underlying36 ti43 rfl hS rfl rfl rfl rfl (Rd.objAll (k := 0) rfl hS.rd) (by simp [Value.oneCell']) (by unfold maxLen; omega) (by omega)) fun v w31 ⟨ad31, c31, hv, hS⟩ => ?_
    subst hv
    dsimp only [List.set] at hS
    have hS := hS.drop 0 rfl
    dsimp only [List.eraseIdx] at hS
    rw [show (baseX i n).flatMap edgeL ++ [Value.int .i64 i, .int .i64 (i + 1 : Nat), .int .i64 (i % n : Nat), .int .i64 3] = (baseX (i + 1) n).flatMap edgeL by rw [baseX_succ, List.flatMap_append, List.flatMap_singleton]; rfl] at hS
    refine LW.ex rfl rfl rfl rfl (Ex.fieldO 1 Try.underlying38 rfl rfl ti36 rfl) hS.rd ?_
    refine LW.hu rfl rfl rfl (Hv.storeObj (k := 1) ti36 hS rfl rfl rfl rfl (by first | assumption | (simp; done) | omega | exact Nat.zero_lt_succ _)) fun _ w_12 hS => ?_
    dsimp only [List.set] at hS
    refine LW.nil fun aa ha => hK17 _ _ _ ?_ aa ha
    refine CW.region [0, 1, 2] rfl ?_
    refine LW.ex rfl rfl rfl rfl (Ex.move rfl) hS.rd ?_
    refine LW.ex rfl rfl rfl rfl (Ex.add rfl rfl (by first | exact inc64 (by omega) | exact addN (by omega) | exact w64 (by omega) (by omega))) hS.rd ?_
    refine LW.ex rfl rfl rfl rfl (Ex.assign rfl) hS.rd ?_
    refine LW.nil fun aa ha => ?_
    refine ⟨_, _, ?m3, ⟨i + 1, ad31, c31, (by first | omega | (simp; done) | (simp; omega)), rfl, rfl, hS⟩, ha.sub ⟨rfl, rfl, rfl, rfl, rfl, trivial⟩⟩
    case m3 => omega
  · have h3_3 := of_decide_eq_false h3_3
    refine LW.nil fun aa ha => hK16 _ _ _ ?_ aa ha
    refine CW.no rfl ?_
    refine CW.exit fun aa ha => hK13 _ _ _ ?_ aa ha
    refine CW.seq fun K18 hK18 => ?_
    have hie : i = N := by omega
    subst hie
    have hbl : (baseX i n).length = i := by unfold baseX; simp
    have hJ6 : ∀ (wj : World) (aF : Option Addr) (cF : Nat) (lF : Nat) (L : List Edge), St w0 wj μ (Own.sl aF lF cF 43 4 (L.flatMap edgeL) :: Own.obj b7 [.int .i64 i, .slice aF lF cF] 38 :: Own.obj b6 [.int .i64 0, .slice none 0 0] 38 :: Lr) → (L = if 0 < i then edgesTo i n ls (min ls.length 8) else []) → (lF = L.length) → KW K18 100 [(6, .pointer (some ⟨b6, 0, none⟩)), (7, .pointer (some ⟨b7, 0, none⟩))] wj := by
      intro wj aF cF lF L hS hL hlF
      refine hK18 _ _ _ ?_
      refine CW.seq fun K19 hK19 => ?_
      refine CW.region [0, 1] rfl ?_
      refine LW.ex rfl rfl rfl rfl (Ex.load2c ti38 rfl rfl (by first | exact obT rfl | exact Rd.imm ‹_› | exact slT ‹_›) (by first | exact obT rfl | exact Rd.imm ‹_› | exact slT ‹_›)) hS.rd ?_
      refine LW.hu rfl rfl rfl (Hv.storeN (k := 2) ti38 hS rfl rfl rfl rfl (by simp [Value.oneCell'])) fun _ w_1 hS => ?_
      dsimp only [List.set] at hS
      refine LW.nil fun aa ha => hK19 _ _ _ ?_ aa ha
      refine CW.ret fun aa ha => ?_
      refine ret_cell ha Try.results11 rfl ti38 rfl (fun j v hv => Rd.objAll (k := 2) rfl hS.rd j v hv) ?_
      have hS := (hS.drop 1 rfl).drop 1 rfl
      dsimp only [List.eraseIdx] at hS
      have e : (madeX ls places n).Edges = L := by rw [hX, ← hL]
      have e2 : (madeX ls places n).N = (i : Nat) := by rw [hX]
      rw [e, e2, ← hlF]
      exact ⟨_, rfl, aF, cF, rfl, hS⟩
    refine CW.seq fun K20 hK20 => ?_
    refine CW.region [0] rfl ?_
    refine LW.ex rfl rfl rfl rfl (Ex.assign rfl) hS.rd ?_
    refine LW.nil fun aa ha => hK20 _ _ _ ?_ aa ha
    refine CW.block ?_
    refine CW.loop (fun qq frm wl7 => ∃ (k : Nat) (aF : Option Addr) (cF : Nat) (lF : Nat) (L : List Edge), k ≤ ls.length ∧ k ≤ 8 ∧ (i = 0 → k = 0) ∧ lF = L.length ∧ qq = 8 - k ∧ frm = [(0, .slice r0 ls.length d0), (2, .int .i64 n), (6, .pointer (some ⟨b6, 0, none⟩)), (7, .pointer (some ⟨b7, 0, none⟩)), (9, .int .i64 k)] ∧ St w0 wl7 μ (Own.sl aF lF cF 43 4 (L.flatMap edgeL) :: Own.obj b7 [.int .i64 i, .slice aF lF cF] 38 :: Own.obj b6 [.int .i64 0, .slice none 0 0] 38 :: Lr) ∧ (L = edgesTo i n ls k)) _ ⟨0, aE, cE, i, baseX i n, (by first | omega | (simp; done) | (simp; omega)), (by first | omega | (simp; done) | (simp; omega)), (by first | omega | (simp; done) | (simp; omega)), (by first | omega | (simp; done) | (simp; omega)), rfl, rfl, hS, rfl⟩ ⟨rfl, rfl, rfl, rfl, rfl, trivial⟩ ?_
    clear hS
    rintro qq frm wl7 ⟨k, aF, cF, lF, L, hk, hk8, hk0, hlF, hq, rfl, hS, hL⟩
    refine CW.seq fun K21 hK21 => ?_
    refine CW.seq fun K22 hK22 => ?_
    refine CW.region [0, 1, 2, 3, 4, 5, 6, 7, 8, 9, 10, 11, 12] rfl ?_
    refine LW.ex rfl rfl rfl rfl (Ex.move rfl) hS.rd ?_
    refine LW.ex rfl rfl rfl rfl (Ex.move rfl) hS.rd ?_
    refine LW.ex rfl rfl rfl rfl (Ex.lenSl rfl Try.underlying22 rfl) hS.rd ?_
    refine LW.ex rfl rfl rfl rfl (Ex.lss rfl rfl rfl) hS.rd ?_
    refine LW.splitB (fun h7_3 => ?_) (fun h7_3 => ?_)
    · have h7_3 := of_decide_eq_true h7_3
      refine LW.ex rfl rfl rfl rfl (Ex.move rfl) hS.rd ?_
      refine LW.ex rfl rfl rfl rfl (Ex.move rfl) hS.rd ?_
      refine LW.ex rfl rfl rfl rfl (Ex.lss rfl rfl rfl) hS.rd ?_
      refine LW.splitB (fun h7_6 => ?_) (fun h7_6 => ?_)
      · have h7_6 := of_decide_eq_true h7_6
        refine LW.ex rfl rfl rfl rfl (by first | exact Ex.pick_yes rfl rfl | exact Ex.pick_no rfl rfl) hS.rd ?_
        refine LW.ex rfl rfl rfl rfl (Ex.move rfl) hS.rd ?_
        refine LW.ex rfl rfl rfl rfl (Ex.fieldO 0 Try.underlying38 rfl rfl ti3 rfl) hS.rd ?_
        refine LW.ex rfl rfl rfl rfl (Ex.load1 ti3 rfl rfl (by first | exact obT rfl | exact Rd.imm ‹_› | exact slT ‹_›)) hS.rd ?_
        refine LW.ex rfl rfl rfl rfl (Ex.gtr rfl rfl rfl) hS.rd ?_
        refine LW.splitB (fun h7_11 => ?_) (fun h7_11 => ?_)
        · have h7_11 := of_decide_eq_true h7_11
          refine LW.ex rfl rfl rfl rfl (by first | exact Ex.pick_yes rfl rfl | exact Ex.pick_no rfl rfl) hS.rd ?_
          refine LW.nil fun aa ha => hK22 _ _ _ ?_ aa ha
          refine CW.yes rfl ?_
          refine CW.skip fun aa ha => hK21 _ _ _ ?_ aa ha
          refine CW.seq fun K23 hK23 => ?_
          refine CW.block ?_
          refine CW.seq fun K24 hK24 => ?_
          have hk2 : k < ls.length := by omega
          have hi0 : 0 < i := by omega
          obtain ⟨bl', ol, rfl, k0, k1, k2, k3⟩ := h0.at hk2
          have g1 := edgeOf_good hi0 hn ls[k]
          have hu1 := ls[k].a.toNat_lt
          have hu2 := ls[k].b.toNat_lt
          have hu3 := ls[k].c.toNat_lt
          have hu4 := ls[k].d.toNat_lt
          have m1 := Nat.mod_lt ls[k].a.toNat hi0
          have m2 := Nat.mod_lt ls[k].b.toNat (show 0 < i - ls[k].a.toNat % i by omega)
          have m3 := Nat.mod_lt ls[k].c.toNat hn
          have m4 := Nat.mod_lt ls[k].d.toNat (show 0 < 32 by omega)
          have hok := edgesTo_ok hi0 hn ls k hk
          rw [← hL] at hok
          have hS := hS.drew
          refine CW.draw 26 (.ex 0 <| .ex 1 <| .ex 2 <| .ex 3 <| .ex 4 <| .ex 5 <| .ex 6 <| .ex 7 <| .ex 8 <| .ex 9 <| .ex 10 <| .ex 11 <| .ex 12 <| .ex 13 <| .ex 14 <| .ex 15 <| .ex 16 <| .ex 17 <| .ex 18 <| .ex 19 <| .ex 20 <| .ex 21 <| .ex 22 <| .ex 23 <| .ex 24 <| .one 25 <| .done) [26] (Rd _ _) mixed (by kernel_rfl) rfl rfl hS.rd ?_
          refine PW.ex rfl rfl rfl rfl (Ex.move rfl) ?_
          refine PW.ex rfl rfl rfl rfl (Ex.move rfl) ?_
          refine PW.ex rfl rfl rfl rfl (Ex.indexSl Try.underlying22 ti88 rfl rfl rfl (by omega)) ?_
          refine PW.ex rfl rfl rfl rfl (Ex.indexArr (j := 0) Try.underlying88 ti5 rfl rfl rfl (by omega)) ?_
          refine PW.ex rfl rfl rfl rfl (Ex.load1 ti5 rfl rfl (by first | exact obT rfl | exact Rd.imm ‹_› | exact slT ‹_›)) ?_
          refine PW.ex rfl rfl rfl rfl (Ex.conv Try.underlying5 Try.underlying3 rfl (by first | exact w64 (by omega) (by omega) | exact wu8 (by omega) (by omega))) ?_
          refine PW.ex rfl rfl rfl rfl (Ex.fieldO 0 Try.underlying38 rfl rfl ti3 rfl) ?_
          refine PW.ex rfl rfl rfl rfl (Ex.load1 ti3 rfl rfl (by first | exact obT rfl | exact Rd.imm ‹_› | exact slT ‹_›)) ?_
          refine PW.ex rfl rfl rfl rfl (Ex.rem (r := ((ls[k].a.toNat % i : Nat) : Int)) rfl rfl (by omega) (remN _ _)) ?_
          refine PW.ex rfl rfl rfl rfl (Ex.move rfl) ?_
          refine PW.ex rfl rfl rfl rfl (Ex.move rfl) ?_
          refine PW.ex rfl rfl rfl rfl (Ex.indexSl Try.underlying22 ti88 rfl rfl rfl (by omega)) ?_
          refine PW.ex rfl rfl rfl rfl (Ex.indexArr (j := 2) Try.underlying88 ti5 rfl rfl rfl (by omega)) ?_
          refine PW.ex rfl rfl rfl rfl (Ex.load1 ti5 rfl rfl (by first | exact obT rfl | exact Rd.imm ‹_› | exact slT ‹_›)) ?_
          refine PW.ex rfl rfl rfl rfl (Ex.conv Try.underlying5 Try.underlying3 rfl (by first | exact w64 (by omega) (by omega) | exact wu8 (by omega) (by omega))) ?_
          refine PW.ex rfl rfl rfl rfl (Ex.move rfl) ?_
          refine PW.ex rfl rfl rfl rfl (Ex.rem (r := ((ls[k].c.toNat % n : Nat) : Int)) rfl rfl (by omega) (remN _ _)) ?_
          refine PW.ex rfl rfl rfl rfl (Ex.move rfl) ?_
          refine PW.ex rfl rfl rfl rfl (Ex.move rfl) ?_
          refine PW.ex rfl rfl rfl rfl (Ex.indexSl Try.underlying22 ti88 rfl rfl rfl (by omega)) ?_
          refine PW.ex rfl rfl rfl rfl (Ex.indexArr (j := 3) Try.underlying88 ti5 rfl rfl rfl (by omega)) ?_
          refine PW.ex rfl rfl rfl rfl (Ex.load1 ti5 rfl rfl (by first | exact obT rfl | exact Rd.imm ‹_› | exact slT ‹_›)) ?_
          refine PW.ex rfl rfl rfl rfl (Ex.rem (r := ((ls[k].d.toNat % 32 : Nat) : Int)) rfl rfl (by omega) (remN' _ 32 rfl)) ?_
          refine PW.ex rfl rfl rfl rfl (Ex.conv Try.underlying5 Try.underlying3 rfl (by first | exact w64 (by omega) (by omega) | exact wu8 (by omega) (by omega))) ?_
          refine PW.ex rfl rfl rfl rfl (Ex.buildS st43 rfl rfl rfl) ?_
          refine PW.hv rfl rfl rfl rfl (Hv.alloc ti43 hS) (fun _ _ ⟨_, _, _, h⟩ => h.rd.tail) fun v w10 ⟨b10, hv, hb10, hS⟩ => ?_
          subst hv
          refine PW.nil ?_
          refine LW.hu rfl rfl rfl (Hv.storeN (k := 0) ti43 hS rfl rfl rfl rfl (by simp [Value.oneCell'])) fun _ w_26 hS => ?_
          dsimp only [List.set] at hS
          refine LW.nil fun aa ha => hK24 _ _ _ ?_ aa ha
          refine CW.seq fun K25 hK25 => ?_
          have hS := hS.drew
          refine CW.draw 17 (.ex 0 <| .ex 1 <| .ex 2 <| .ex 3 <| .ex 4 <| .ex 5 <| .ex 6 <| .ex 7 <| .ex 8 <| .ex 9 <| .ex 10 <| .ex 11 <| .ex 12 <| .ex 13 <| .ex 14 <| .ex 15 <| .ex 16 <| .done) [17] (Rd _ _) mixed (by kernel_rfl) rfl rfl hS.rd ?_
          refine PW.ex rfl rfl rfl rfl (Ex.fieldO 0 Try.underlying43 rfl rfl ti3 rfl) ?_
          refine PW.ex rfl rfl rfl rfl (Ex.load1 ti3 rfl rfl (by first | exact obT rfl | exact Rd.imm ‹_› | exact slT ‹_›)) ?_
          refine PW.ex rfl rfl rfl rfl (Ex.add rfl rfl (by first | exact inc64 (by omega) | exact addN (by omega) | exact w64 (by omega) (by omega))) ?_
          refine PW.ex rfl rfl rfl rfl (Ex.move rfl) ?_
          refine PW.ex rfl rfl rfl rfl (Ex.move rfl) ?_
          refine PW.ex rfl rfl rfl rfl (Ex.indexSl Try.underlying22 ti88 rfl rfl rfl (by omega)) ?_
          refine PW.ex rfl rfl rfl rfl (Ex.indexArr (j := 1) Try.underlying88 ti5 rfl rfl rfl (by omega)) ?_
          refine PW.ex rfl rfl rfl rfl (Ex.load1 ti5 rfl rfl (by first | exact obT rfl | exact Rd.imm ‹_› | exact slT ‹_›)) ?_
          refine PW.ex rfl rfl rfl rfl (Ex.conv Try.underlying5 Try.underlying3 rfl (by first | exact w64 (by omega) (by omega) | exact wu8 (by omega) (by omega))) ?_
          refine PW.ex rfl rfl rfl rfl (Ex.fieldO 0 Try.underlying38 rfl rfl ti3 rfl) ?_
          refine PW.ex rfl rfl rfl rfl (Ex.load1 ti3 rfl rfl (by first | exact obT rfl | exact Rd.imm ‹_› | exact slT ‹_›)) ?_
          refine PW.ex rfl rfl rfl rfl (Ex.fieldO 0 Try.underlying43 rfl rfl ti3 rfl) ?_
          refine PW.ex rfl rfl rfl rfl (Ex.load1 ti3 rfl rfl (by first | exact obT rfl | exact Rd.imm ‹_› | exact slT ‹_›)) ?_
          refine PW.ex rfl rfl rfl rfl (Ex.sub (r := ((i - ls[k].a.toNat % i : Nat) : Int)) rfl rfl (by rw [w64 (by omega) (by omega)]; omega)) ?_
          refine PW.ex rfl rfl rfl rfl (Ex.rem (r := ((ls[k].b.toNat % (i - ls[k].a.toNat % i) : Nat) : Int)) rfl rfl (by omega) (remN _ _)) ?_
          refine PW.ex rfl rfl rfl rfl (Ex.add (r := ((ls[k].a.toNat % i + 1 + ls[k].b.toNat % (i - ls[k].a.toNat % i) : Nat) : Int)) rfl rfl (by rw [w64 (by omega) (by omega)]; omega)) ?_
          refine PW.ex rfl rfl rfl rfl (Ex.fieldO 1 Try.underlying43 rfl rfl ti3 rfl) ?_
          refine PW.nil ?_
          refine LW.hu rfl rfl rfl (Hv.storeObj (k := 0) ti3 hS rfl rfl rfl rfl (by first | assumption | (simp; done) | omega | exact Nat.zero_lt_succ _)) fun _ w_17 hS => ?_
          dsimp only [List.set] at hS
          refine LW.nil fun aa ha => hK25 _ _ _ ?_ aa ha
          refine CW.seq fun K26 hK26 => ?_
          subst hlF
          refine CW.region [0, 1, 2, 3] rfl ?_
          refine LW.ex rfl rfl rfl rfl (Ex.load2c ti38 rfl rfl (by first | exact obT rfl | exact Rd.imm ‹_› | exact slT ‹_›) (by first | exact obT rfl | exact Rd.imm ‹_› | exact slT ‹_›)) hS.rd ?_
          refine LW.ex rfl rfl rfl rfl (Ex.load4c ti43 rfl rfl (by first | exact obT rfl | exact Rd.imm ‹_› | exact slT ‹_›) (by first | exact obT rfl | exact Rd.imm ‹_› | exact slT ‹_›) (by first | exact obT rfl | exact Rd.imm ‹_› | exact slT ‹_›) (by first | exact obT rfl | exact Rd.imm ‹_› | exact slT ‹_›)) hS.rd ?_
          refine LW.hv rfl rfl rfl rfl (Hv.callS hS rfl rfl rfl cb31 (findE_c ⟨(i : Nat), L⟩ (edgeOf i n ls[k]) _ _ (memOf _) _ (imm_memOf _) (hS.lend_sl 1 rfl (edgeReps _ L) rfl))) fun v w92 ⟨hv, hS⟩ => ?_
          subst hv
          refine LW.ex rfl rfl rfl rfl (Ex.lss rfl rfl rfl) hS.rd ?_
          refine LW.splitB (fun h11_3 => ?_) (fun h11_3 => ?_)
          · have h11_3 := of_decide_eq_true h11_3
            refine LW.nil fun aa ha => hK26 _ _ _ ?_ aa ha
            refine CW.yes rfl ?_
            have hany := firstI_any (sameE (edgeOf i n ls[k])) L
            rw [decide_eq_false (Int.not_le.2 h11_3)] at hany
            refine CW.region [0, 1, 2, 3, 4, 5] rfl ?_
            refine LW.ex rfl rfl rfl rfl (Ex.fieldO 1 Try.underlying38 rfl rfl ti36 rfl) hS.rd ?_
            refine LW.ex rfl rfl rfl rfl (Ex.load1 ti36 rfl rfl (by first | exact obT rfl | exact Rd.imm ‹_› | exact slT ‹_›)) hS.rd ?_
            refine LW.ex rfl rfl rfl rfl (Ex.load4c ti43 rfl rfl (by first | exact obT rfl | exact Rd.imm ‹_› | exact slT ‹_›) (by first | exact obT rfl | exact Rd.imm ‹_› | exact slT ‹_›) (by first | exact obT rfl | exact Rd.imm ‹_› | exact slT ‹_›) (by first | exact obT rfl | exact Rd.imm ‹_› | exact slT ‹_›)) hS.rd ?_
            have hS := hS.swap
            refine LW.hv rfl rfl rfl rfl (Hv.callM rfl rfl rfl cb32 (insE_m (edgeOf i n ls[k]) hS rfl (by omega))) fun v w97 ⟨ad97, c97, hv, hS⟩ => ?_
            subst hv
            have hS := hS.drop 1 rfl
            dsimp only [List.eraseIdx] at hS
            have hS := hS.swap
            refine LW.ex rfl rfl rfl rfl (Ex.fieldO 1 Try.underlying38 rfl rfl ti36 rfl) hS.rd ?_
            refine LW.hu rfl rfl rfl (Hv.storeObj (k := 2) ti36 hS rfl rfl rfl rfl (by first | assumption | (simp; done) | omega | exact Nat.zero_lt_succ _)) fun _ w_5 hS => ?_
            dsimp only [List.set] at hS
            refine LW.nil fun aa ha => hK23 _ _ _ ?_ aa ha
            refine CW.region [0, 1, 2] rfl ?_
            refine LW.ex rfl rfl rfl rfl (Ex.move rfl) hS.rd ?_
            refine LW.ex rfl rfl rfl rfl (Ex.add rfl rfl (by first | exact inc64 (by omega) | exact addN (by omega) | exact w64 (by omega) (by omega))) hS.rd ?_
            refine LW.ex rfl rfl rfl rfl (Ex.assign rfl) hS.rd ?_
            refine LW.nil fun aa ha => ?_
            have hS := hS.drop 0 rfl
            dsimp only [List.eraseIdx] at hS
            refine ⟨_, _, ?m7, ⟨k + 1, ad97, c97, (insE (edgeOf i n ls[k]) L).length, insE (edgeOf i n ls[k]) L, (by first | omega | (simp; done) | (simp; omega)), (by first | omega | (simp; done) | (simp; omega)), (by first | omega | (simp; done) | (simp; omega)), (by first | omega | (simp; done) | (simp; omega)), rfl, rfl, hS, by rw [edgesTo_succ hk2, ← hL, addE, if_neg (by rw [← hany]; decide)]⟩, ha.sub ⟨rfl, rfl, rfl, rfl, rfl, trivial⟩⟩
            case m7 => omega
          · have h11_3 := of_decide_eq_false h11_3
            refine LW.nil fun aa ha => hK26 _ _ _ ?_ aa ha
            refine CW.no rfl ?_
            refine CW.skip fun aa ha => hK23 _ _ _ ?_ aa ha
            refine CW.region [0, 1, 2] rfl ?_
            refine LW.ex rfl rfl rfl rfl (Ex.move rfl) hS.rd ?_
            refine LW.ex rfl rfl rfl rfl (Ex.add rfl rfl (by first | exact inc64 (by omega) | exact addN (by omega) | exact w64 (by omega) (by omega))) hS.rd ?_
            refine LW.ex rfl rfl rfl rfl (Ex.assign rfl) hS.rd ?_
            refine LW.nil fun aa ha => ?_
            have hS := hS.drop 0 rfl
            dsimp only [List.eraseIdx] at hS
            have hany := firstI_any (sameE (edgeOf i n ls[k])) L
            rw [decide_eq_true (Int.not_lt.1 h11_3)] at hany
            refine ⟨_, _, ?m7, ⟨k + 1, aF, cF, L.length, L, (by first | omega | (simp; done) | (simp; omega)), (by first | omega | (simp; done) | (simp; omega)), (by first | omega | (simp; done) | (simp; omega)), (by first | omega | (simp; done) | (simp; omega)), rfl, rfl, hS, by rw [edgesTo_succ hk2, ← hL, addE, if_pos hany.symm]⟩, ha.sub ⟨rfl, rfl, rfl, rfl, rfl, trivial⟩⟩
            case m7 => omega
        · have h7_11 := of_decide_eq_false h7_11
          refine LW.ex rfl rfl rfl rfl (by first | exact Ex.pick_yes rfl rfl | exact Ex.pick_no rfl rfl) hS.rd ?_
          refine LW.nil fun aa ha => hK22 _ _ _ ?_ aa ha
          refine CW.no rfl ?_
          refine CW.exit fun aa ha => ?_
          refine hJ6 _ (aF) (cF) (lF) (L) hS (by rw [if_neg (by omega), hL, show i = 0 by omega, show k = 0 by omega]; rfl) (hlF) aa (ha.sub ⟨rfl, rfl, trivial⟩)
      · have h7_6 := of_decide_eq_false h7_6
        refine LW.ex rfl rfl rfl rfl (by first | exact Ex.pick_yes rfl rfl | exact Ex.pick_no rfl rfl) hS.rd ?_
        refine LW.ex rfl rfl rfl rfl (Ex.move rfl) hS.rd ?_
        refine LW.skip rfl rfl rfl rfl ?_
        refine LW.skip rfl rfl rfl rfl ?_
        refine LW.skip rfl rfl rfl rfl ?_
        refine LW.ex rfl rfl rfl rfl (by first | exact Ex.pick_yes rfl rfl | exact Ex.pick_no rfl rfl) hS.rd ?_
        refine LW.nil fun aa ha => hK22 _ _ _ ?_ aa ha
        refine CW.no rfl ?_
        refine CW.exit fun aa ha => ?_
        refine hJ6 _ (aF) (cF) (lF) (L) hS (by by_cases h0 : 0 < i; (· rw [if_pos h0, hL, show min ls.length 8 = k by omega]); (· rw [if_neg h0, hL, show i = 0 by omega, show k = 0 by omega]; rfl)) (hlF) aa (ha.sub ⟨rfl, rfl, trivial⟩)
    · have h7_3 := of_decide_eq_false h7_3
      refine LW.ex rfl rfl rfl rfl (Ex.move rfl) hS.rd ?_
      refine LW.skip rfl rfl rfl rfl ?_
      refine LW.skip rfl rfl rfl rfl ?_
      refine LW.ex rfl rfl rfl rfl (by first | exact Ex.pick_yes rfl rfl | exact Ex.pick_no rfl rfl) hS.rd ?_
      refine LW.ex rfl rfl rfl rfl (Ex.move rfl) hS.rd ?_
      refine LW.skip rfl rfl rfl rfl ?_
      refine LW.skip rfl rfl rfl rfl ?_
      refine LW.skip rfl rfl rfl rfl ?_
      refine LW.ex rfl rfl rfl rfl (by first | exact Ex.pick_yes rfl rfl | exact Ex.pick_no rfl rfl) hS.rd ?_
      refine LW.nil fun aa ha => hK22 _ _ _ ?_ aa ha
      refine CW.no rfl ?_
      refine CW.exit fun aa ha => ?_
      refine hJ6 _ (aF) (cF) (lF) (L) hS (by by_cases h0 : 0 < i; (· rw [if_pos h0, hL, show min ls.length 8 = k by omega]); (· rw [if_neg h0, hL, show i = 0 by omega, show k = 0 by omega]; rfl)) (hlF) aa (ha.sub ⟨rfl, rfl, trivial⟩)
theorem madeX_c (ls : List B4) (places : UInt8) (n : Nat) (hn : 0 < n) (hn2 : n ≤ 200) (r0 : Option Addr) (d0 : Nat) (μ : Mem) (w : World) (hμ : Imm μ w) (h0 : Sl μ r0 d0 ls) :
    Calls Try.prog 11 #[.slice r0 ls.length d0, .int .u8 places.toNat, .int .i64 n] w (RetV w μ (IsLat (madeX ls places n))) :=
  (madeX_m ls places n hn hn2 r0 d0 (St.start w μ hμ) h0).mono fun e w' ⟨v, he, a, c, hv, hS⟩ => by
    obtain ⟨bs, μ2, hm2, hS, hφ⟩ := hS.shut 0 rfl
    exact ⟨v, μ2, he, hS.below, hm2, hS.imm, a, c, hv, Sl.of_own hφ (edgeReps _ _) rfl⟩
end Go.Proofs.Ytgnpjhellmfhoaa

