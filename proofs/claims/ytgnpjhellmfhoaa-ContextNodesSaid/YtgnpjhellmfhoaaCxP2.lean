/-
  Context: the nodes and links of a graph that is built.
-/
import Derived.Test.YtgnpjhellmfhoaaCxZ
namespace Go.Proofs.Ytgnpjhellmfhoaa
open Go.RowKit Sy

/-- What holds of each link of a graph. -/
structure LinkGood (x : Lat) (L : List I2) (k : Link) (e : Edge) : Prop where
  f0 : 0 ≤ k.From
  ft : k.From < k.To
  tl : k.To < L.length
  l0 : 0 ≤ k.Label
  l1 : k.Label < x.Edges.length
  he : e = edAt x k.Label.toNat
  c : e.Cost ≤ k.Cost
  last : e.To = x.N ↔ k.To = (L.length : Int) - 1
  word : e.To < x.N → (L.map (·.b))[k.To.toNat]? = some e.Word
theorem zip_mem {L : List I2} {z : I2} {j n : Nat} (h : (z, j) ∈ L.zipIdx.take n) : ∃ hj : j < L.length, L[j] = z := by
  have h := List.mem_of_mem_take h
  obtain ⟨i, hi, he⟩ := List.getElem_of_mem h
  rw [List.getElem_zipIdx] at he
  simp only [Prod.mk.injEq] at he
  obtain ⟨e1, e2⟩ := he
  have hi2 : i < L.length := by rw [List.length_zipIdx] at hi; exact hi
  have : i = j := by omega
  subst this
  exact ⟨hi2, e1⟩
theorem pw_a {L : List I2} (hs : L.Pairwise ndLt) {i j : Nat} (hi : i < L.length) (hj : j < L.length) (h : L[i].a < L[j].a) : i < j := by
  rcases Nat.lt_trichotomy i j with h1 | h1 | h1
  · exact h1
  · subst h1; omega
  · have := List.pairwise_iff_getElem.1 hs j i hj hi h1
    unfold ndLt at this; omega
theorem link_good {x : Lat} {m : Mdl} {p : Int} (hm : MdlOk m) (hx : okX x = true) (hw : wordsIn x m.Words.length = true) (hp : -1 ≤ p ∧ p < m.Words.length) {k : Link}
    (hk : k ∈ linksTo x m (nodesL x m.Words.length p) (nodesL x m.Words.length p).length) : ∃ e, LinkGood x (nodesL x m.Words.length p) k e := by
  obtain ⟨L, hL⟩ : ∃ L, L = nodesL x m.Words.length p := ⟨_, rfl⟩
  have hst := nodesL_strict hx m.Words.length p
  unfold linksTo at hk
  obtain ⟨⟨z, nI⟩, hz, hk⟩ := List.mem_flatMap.1 hk
  obtain ⟨hn, hzn⟩ := zip_mem hz
  unfold linksOf at hk
  obtain ⟨i, hi, rfl⟩ := List.mem_map.1 hk
  rw [List.mem_filter, List.mem_range, decide_eq_true_eq] at hi
  obtain ⟨hi, hf⟩ := hi
  obtain ⟨_, hed, _⟩ := okX_edges hx
  have hei := hed _ (List.getElem_mem hi)
  have hpc := hm.pairC0 z.b (edAt x i).Word
  have h2 := hm.n2
  refine ⟨edAt x i, ?_⟩
  have hla := nodesL_last (n := m.Words.length) (p := p) hx h2 hp (by omega) hn
  simp only at hf hzn
  rw [edAt_of hi] at hf hpc ⊢
  by_cases ht : x.Edges[i].To < x.N
  · obtain ⟨j, hj, _, hj2, hj3⟩ := toN_at hx hw p hi ht
    have hlj := nodesL_last (n := m.Words.length) (p := p) hx h2 hp (by omega) hj
    have hlt : nI < j := pw_a hst hn hj (by rw [hzn, hj2]; simp only; omega)
    have hja : (nodesL x m.Words.length p)[j].a ≠ x.N := by rw [hj2]; simp only; omega
    unfold mkLink
    rw [edAt_of hi, hj3]
    refine ⟨?_, ?_, ?_, ?_, ?_, ?_, ?_, ?_, fun _ => ?_⟩ <;> simp only [Int.toNat_natCast]
    · omega
    · omega
    · omega
    · omega
    · omega
    · rw [edAt_of hi]
    · omega
    · have := mt hlj.2 hja
      constructor <;> intro h <;> omega
    · rw [List.getElem?_map, List.getElem?_eq_getElem hj, hj2]; rfl
  · have hti : toN (nodesL x m.Words.length p) x x.Edges[i] = (nodesL x m.Words.length p).length - 1 := by unfold toN; rw [if_neg ht]
    have hne : nI ≠ (nodesL x m.Words.length p).length - 1 := fun h => by
      have := hla.2 h
      rw [hzn] at this; omega
    unfold mkLink
    rw [edAt_of hi, hti]
    refine ⟨?_, ?_, ?_, ?_, ?_, ?_, ?_, ?_, fun h => absurd h ht⟩ <;> simp only [Int.toNat_natCast]
    · omega
    · omega
    · omega
    · omega
    · omega
    · rw [edAt_of hi]
    · omega
    · constructor <;> intro h <;> omega
def linkLt (a b : Link) : Prop := a.From < b.From ∨ a.From = b.From ∧ a.Label < b.Label
theorem links_sorted (x : Lat) (m : Mdl) (L : List I2) (n : Nat) : (linksTo x m L n).Pairwise linkLt := by
  unfold linksTo
  rw [List.pairwise_flatMap]
  refine ⟨fun z _ => ?_, ?_⟩
  · unfold linksOf
    rw [List.pairwise_map]
    refine (List.Pairwise.filter _ List.pairwise_lt_range).imp fun {a b} h => ?_
    exact Or.inr ⟨rfl, Int.ofNat_lt.2 h⟩
  · refine List.Pairwise.take ?_
    rw [List.pairwise_iff_getElem]
    intro i j hi hj hij a ha b hb
    rw [List.getElem_zipIdx] at ha hb
    unfold linksOf at ha hb
    obtain ⟨u, _, rfl⟩ := List.mem_map.1 ha
    obtain ⟨v, _, rfl⟩ := List.mem_map.1 hb
    unfold linkLt mkLink; simp only; omega
/-- What the law asks of a graph that is built. -/
structure BuiltGood (x : Lat) (L : List I2) (p : Int) (B : Built) : Prop where
  e : B.E = 0
  n : B.G.N = B.Last.length
  len : B.Last.length = L.length
  pos : 0 < B.Last.length
  first : B.Last[0] = p
  lk : ∀ k ∈ B.G.Links, ∃ e, LinkGood x L k e
  lw : B.Last = L.map (·.b)
  so : B.G.Links.Pairwise linkLt
theorem build_good {x : Lat} {m : Mdl} {p : Int} (hm : MdlOk m) (hx : okX x = true) (hw : wordsIn x m.Words.length = true) (hp : -1 ≤ p ∧ p < m.Words.length) : BuiltGood x (nodesL x m.Words.length p) p (buildR x m p) := by
  have e : buildR x m p = ⟨graphR x m p, (nodesL x m.Words.length p).map (·.b), 0⟩ := by
    unfold buildR; rw [if_pos (okM_yes hm), if_pos (fitsC_iff.2 ⟨hx, hp, hw⟩)]
  rw [e]
  exact ⟨rfl, by simp [graphR], by simp, by simp [nodesL], by simp [nodesL], fun k hk => link_good hm hx hw hp hk, rfl, links_sorted _ _ _ _⟩
end Go.Proofs.Ytgnpjhellmfhoaa

