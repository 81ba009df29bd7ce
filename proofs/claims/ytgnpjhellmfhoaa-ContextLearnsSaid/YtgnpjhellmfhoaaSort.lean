/-
  slices.SortFunc, for a slice of the call's own: over the library's contract of pdqsortCmpFunc.
-/
import Derived.Test.YtgnpjhellmfhoaaMap
import Derived.Shelf.SlSortCmp.NoneTotal
import Derived.Shelf.Small.Bits
namespace Go.Proofs.Ytgnpjhellmfhoaa.Sy
open Go.RowKit Go.Sort Go.Shelf

section
variable {α : Type} {enc : α → List Value} {k : Nat}

theorem flatMap_get (hk : ∀ x, (enc x).length = k) (h0 : 0 < k) : ∀ (xs : List α) (t : Nat), (xs.flatMap enc)[t]? = (xs[t / k]?).bind fun x => (enc x)[t % k]?
  | [], t => by simp
  | x :: r, t => by
    rw [List.flatMap_cons]
    by_cases ht : t < k
    · rw [List.getElem?_append_left (by rw [hk]; exact ht), Nat.div_eq_of_lt ht, Nat.mod_eq_of_lt ht]; rfl
    · rw [List.getElem?_append_right (by rw [hk]; omega), hk, flatMap_get hk h0 r]
      have e1 : t / k = (t - k) / k + 1 := by rw [Nat.div_eq_sub_div h0 (by omega)]
      have e2 : t % k = (t - k) % k := Nat.mod_eq_sub_mod (by omega)
      rw [e1, e2, List.getElem?_cons_succ]
theorem flatMap_len (hk : ∀ x, (enc x).length = k) : ∀ xs : List α, (xs.flatMap enc).length = xs.length * k
  | [] => by simp
  | x :: r => by rw [List.flatMap_cons, List.length_append, hk, flatMap_len hk r, List.length_cons, Nat.add_mul, Nat.one_mul, Nat.add_comm]
theorem flatMap_take (hk : ∀ x, (enc x).length = k) : ∀ (xs : List α) (n : Nat), (xs.flatMap enc).take (n * k) = (xs.take n).flatMap enc
  | [], n => by simp
  | x :: r, 0 => by simp
  | x :: r, n + 1 => by
    rw [List.take_succ_cons, List.flatMap_cons, List.flatMap_cons, List.take_append, hk, Nat.add_mul, Nat.one_mul, Nat.add_sub_cancel, flatMap_take hk r n, List.take_of_length_le (by rw [hk]; omega)]
theorem RepL.flat [El α] (hk : ∀ x, (enc x).length = El.sz α) (h0 : 0 < El.sz α) (μ : Mem) (hr : ∀ x, El.rep μ (fun j => (enc x)[j]?) x) (xs : List α) : RepL μ (xs.flatMap enc) xs := by
  refine ⟨flatMap_len hk xs, fun i hi => El.mono (Mem.ext.refl 0 μ) (fun j v hv => ?_) (hr xs[i])⟩
  have hj : j < El.sz α := by rw [← hk xs[i]]; exact (List.getElem?_eq_some_iff.1 hv).1
  rw [if_pos hj, flatMap_get hk h0]
  have e1 : (i * El.sz α + j) / El.sz α = i := by rw [Nat.mul_comm, Nat.mul_add_div h0, Nat.div_eq_of_lt hj, Nat.add_zero]
  have e2 : (i * El.sz α + j) % El.sz α = j := by rw [Nat.mul_comm, Nat.mul_add_mod, Nat.mod_eq_of_lt hj]
  rw [e1, e2, List.getElem?_eq_getElem hi]; exact hv
theorem Sl.cells [El α] (hk : ∀ x, (enc x).length = El.sz α) (h0 : 0 < El.sz α) (henc : ∀ (μ : Mem) (f : Nat → Option Value) (x : α), El.rep μ f x → ∀ j u, (enc x)[j]? = some u → f j = some u) {μ : Mem} {b off c : Nat} {xs : List α} (h : Sl μ (some ⟨b, off, none⟩) c xs) :
    ∀ j u, (xs.flatMap enc)[j]? = some u → μ.cell b (off + j) = some u := fun j u hu => by
  rw [flatMap_get hk h0] at hu
  cases hx : xs[j / El.sz α]? with
  | none => rw [hx] at hu; cases hu
  | some x =>
    rw [hx] at hu
    obtain ⟨hlt, hxe⟩ := List.getElem?_eq_some_iff.1 hx
    obtain ⟨b', o', e, hr⟩ := h.2.2 _ hlt
    cases e
    rw [hxe] at hr
    have := henc _ _ _ hr _ _ hu
    rw [Nat.add_assoc, Nat.div_add_mod'] at this
    exact this
theorem Sl.drop [El α] {μ : Mem} {b off c : Nat} {xs : List α} (h : Sl μ (some ⟨b, off, none⟩) c xs) (n : Nat) : Sl μ (some ⟨b, off + n * El.sz α, none⟩) (c - n) (xs.drop n) :=
  ⟨by have := h.1; simp; omega, by have := h.2.1; omega, fun i hi => by
    have hi' : n + i < xs.length := by simp at hi; omega
    obtain ⟨b', o', e, hr⟩ := h.2.2 (n + i) hi'
    cases e
    refine ⟨b, off + n * El.sz α, rfl, ?_⟩
    rw [List.getElem_drop]
    rw [Nat.add_mul, ← Nat.add_assoc] at hr
    exact hr⟩
variable [Inhabited α]
theorem flatK_list (hk : ∀ x, (enc x).length = k) (h0 : 0 < k) (d : Array α) : (flatK enc k d).toList = d.toList.flatMap enc := by
  apply List.ext_getElem?
  intro t
  rw [flatMap_get hk h0]
  by_cases ht : t < d.size * k
  · have hq : t / k < d.size := Nat.div_lt_of_lt_mul (by rwa [Nat.mul_comm] at ht)
    have hm : t % k < (enc d[t / k]).length := by rw [hk]; exact Nat.mod_lt _ h0
    have h1 : (flatK enc k d).toList[t]? = some ((enc d[t / k]!)[t % k]!) := by
      have h2 : t < (flatK enc k d).size := by simpa using ht
      rw [Array.getElem?_toList, Array.getElem?_eq_getElem h2, ← getElem!_pos (flatK enc k d) t h2, get_flatK _ _ _ _ ht]
    rw [h1, getElem!_pos d (t / k) hq, getElem!_pos (enc d[t / k]) (t % k) hm]
    simp [hq]
  · have h1 : (flatK enc k d).toList[t]? = none := by rw [List.getElem?_eq_none]; simp; omega
    have h2 : d.size ≤ t / k := (Nat.le_div_iff_mul_le h0).2 (by omega)
    rw [h1]; simp [h2]

theorem putCells_take (F cur : Array Value) (h : F.size ≤ cur.size) : (putCells id 0 F cur).toList.take F.size = F.toList := by
  apply List.ext_getElem?
  intro t
  rw [List.getElem?_take]
  by_cases ht : t < F.size
  · rw [if_pos ht]
    have h2 : t < cur.size := by omega
    simp [putCells, ht, h2]
  · rw [if_neg ht]; symm; rw [List.getElem?_eq_none]; simpa using ht
theorem putCells_size (F cur : Array Value) : (putCells id 0 F cur).size = cur.size := by simp [putCells]

variable {w0 w : World} {μ : Mem} {L : List Own} {g l c : Nat} {E : TypeId} {us : List Value} {xs : List α}

theorem St.holdsK (hS : St w0 w μ L) (i : Nat) (hi : L[i]? = some (Own.sl (some ⟨g, 0, none⟩) l c E k us)) (hk : ∀ x, (enc x).length = k) (h0 : 0 < k) (hus : us = xs.flatMap enc) : HoldsK enc k w g 0 xs.toArray ∧ g < w.heap.size := by
  have hcell := fun (off : Nat) (v : Value) (hv : us[off]? = some v) => Rd.sl hi hv w hS.rd
  obtain ⟨bs, hlen, hb⟩ := hS.rd.get hi
  rcases hb with ⟨hb, _⟩ | ⟨g', cur, hg, _, hh, _⟩
  · cases hb
  cases hg
  have hh' : w.heap[g]? = some (.cells cur E (0, 0)) := hh
  refine ⟨fun j hj => ⟨?_, by simp [World.frozen?, hh']⟩, (Array.getElem?_eq_some_iff.1 hh').1⟩
  rw [Nat.zero_add, getElem!_pos (flatK enc k xs.toArray) j hj]
  refine hcell j _ ?_
  rw [hus]
  have := congrArg (fun l => l[j]?) (flatK_list hk h0 xs.toArray)
  rw [← this, Array.getElem?_toList, Array.getElem?_eq_getElem hj]; rfl

theorem St.sorted (hS : St w0 w μ L) (i : Nat) (hi : L[i]? = some (Own.sl (some ⟨g, 0, none⟩) l c E k us)) (hk : ∀ x, (enc x).length = k) (h0 : 0 < k) (d : Array α) (hd : d.size = l) (n : Nat) (os : Array Obj) :
    St w0 (sortWorldK enc k w g 0 n d os) μ (L.set i (Own.sl (some ⟨g, 0, none⟩) l c E k (d.toList.flatMap enc))) := by
  obtain ⟨bs, ⟨hlen, hb⟩, _, _, hstep⟩ := hS.turn hi
  rcases hb with ⟨hb, _⟩ | ⟨g', cur, hg, rfl, hh, hlc, hcm, hcs, htake⟩
  · cases hb
  cases hg
  have hh' : w.heap[g]? = some (.cells cur E (0, 0)) := hh
  have hglt := (Array.getElem?_eq_some_iff.1 hh').1
  have hF : (flatK enc k d).size ≤ cur.size := by rw [size_flatK, hd, hcs]; exact Nat.mul_le_mul_right _ hlc
  have hblk : ∀ b, b < w.heap.size → (sortWorldK enc k w g 0 n d os).heap[b]? = (w.heap.modify g (onCells (putCells id 0 (flatK enc k d))))[b]? := fun b hb => by
    show ((w.heap.modify g _) ++ os)[b]? = _
    rw [Array.getElem?_append_left (by simpa using hb)]
  refine hstep _ _ [g] rfl rfl rfl ?_ ?_ (fun b hb hne => ?_) ⟨?_, .inr ⟨g, putCells id 0 (flatK enc k d) cur, rfl, rfl, ?_, hlc, hcm, by rw [putCells_size]; exact hcs, ?_⟩⟩ (by simp) (fun x hx => .inl hx)
  · exact Nat.le_add_right _ _
  · show w.heap.size ≤ ((w.heap.modify g _) ++ os).size
    simp
  · rw [hblk b hb, Array.getElem?_modify, if_neg (by simpa using Ne.symm (by simpa using hne))]
  · rw [flatMap_len hk, Array.length_toList, hd]
  · show (sortWorldK enc k w g 0 n d os).heap[g]? = _
    rw [hblk g hglt, Array.getElem?_modify, if_pos rfl, hh']; rfl
  · have := putCells_take (flatK enc k d) cur hF
    rw [size_flatK, hd] at this
    rw [this, flatK_list hk h0]

theorem St.ne_sl {b g l c sz : Nat} {cs us : List Value} {E E' : TypeId} {w0 w : World} {μ : Mem} {L : List Own} (h : St w0 w μ (Own.obj b cs E :: Own.sl (some ⟨g, 0, none⟩) l c E' sz us :: L)) : b ≠ g ∧ b < w.heap.size := by
  obtain ⟨_, _, bs, ⟨b1, b2, rfl, ⟨e1, hb⟩, b3, b4, rfl, ⟨_, hsl⟩, _⟩, hn, _⟩ := h
  subst e1
  refine ⟨fun e => ?_, (Array.getElem?_eq_some_iff.1 (show w.heap[b]? = some _ from hb)).1⟩
  rcases hsl with ⟨h0, _⟩ | ⟨g', cur, hg, hb3, _⟩
  · cases h0
  · cases hg
    subst hb3; subst e
    simp at hn
/-- A comparison that hands back a number, and may draw and lay blocks. -/
theorem cmpLays_of {P : Program} {f : Nat} {cf : α → α → Int} {blk off size : Nat} {w : World} (h : ∀ x y W, Calls P f #[.agg (enc x).toArray, .agg (enc y).toArray] W (RetS W (.int .i64 (cf x y)))) : CmpLays P f #[] enc k cf blk off size w :=
  fun m os dk _ x y => by
    have := (h x y (sortWorldK enc k w blk off m dk os)).mono (R' := fun e w' => e = .returned (.int .i64 (cf x y)) ∧ ∃ q os', w' = grow ((sortWorldK enc k w blk off m dk os).drewN q) os') fun e w' ⟨he, hb⟩ => ⟨he, _, _, hb.split⟩
    simpa using this

/-- The same, of a closure that captures: what it needs of the world holds in all worlds of the sort's. -/
theorem cmpLays_inv {P : Program} {f : Nat} {cb : Array Value} {cf : α → α → Int} {blk off size : Nat} {w : World} (Inv : World → Prop) (hi : ∀ m os dk, dk.size = size → Inv (sortWorldK enc k w blk off m dk os))
    (h : ∀ x y W, Inv W → Calls P f (#[.agg (enc x).toArray, .agg (enc y).toArray] ++ cb) W (RetS W (.int .i64 (cf x y)))) : CmpLays P f cb enc k cf blk off size w :=
  fun m os dk hd x y => (h x y (sortWorldK enc k w blk off m dk os) (hi m os dk hd)).mono fun _ _ ⟨he, hb⟩ => ⟨he, _, _, hb.split⟩
/-- A cell of another block, in all worlds of the sort's. -/
theorem sort_cell {w : World} {blk off b o : Nat} {v : Value} (hne : b ≠ blk) (hb : b < w.heap.size) (hc : w.cell? ⟨b, o, none⟩ = some v) (m : Nat) (os : Array Obj) (dk : Array α) : (sortWorldK enc k w blk off m dk os).cell? ⟨b, o, none⟩ = some v := by
  unfold sortWorldK
  rw [Go.Sort.cell?_grow _ _ _ (by simpa [putRowK, putRow, mapBlock, Sort.ahead] using hb), cell?_putRowK_other _ _ _ _ _ _ _ hne]
  exact hc

/-- The call of slices.SortFunc. -/
theorem Hv.sortBy {P : Program} {m : List (Nat × Value)} {o' : Call} {cc : Operand} {asl : List Operand} {ats : Array TypeId} {f : FuncId} {args : List Value} {lt : α → α → Bool} (i : Nat) (hS : St w0 w μ L) (hi : L[i]? = some (Own.sl (some ⟨g, 0, none⟩) l c E k us))
    (hk : ∀ x, (enc x).length = k) (h0 : 0 < k) (hus : us = xs.flatMap enc) (hl : l = xs.length)
    (ho' : o' = { callee := .value cc, args := asl.toArray, argTypes := ats }) (hc : ev m cc = some (.func (.func f) #[] #[])) (has : evs m asl = some args) (hf : Callable P f)
    (hC : HoldsK enc k w g 0 xs.toArray → g < w.heap.size → Calls P f args.toArray w fun e w' => e = .returned (.tuple #[]) ∧ ∃ d' n os, PermIn 0 xs.toArray.size xs.toArray d' ∧ SortedIn lt 0 xs.toArray.size d' ∧ w' = sortWorldK enc k w g 0 n d' os) :
    Hv P m (.call o') w (fun u w' => u = .tuple #[] ∧ ∃ ys : List α, ys.Perm xs ∧ ys.Pairwise (fun x y => lt y x = false) ∧ St w0 w' μ (L.set i (Own.sl (some ⟨g, 0, none⟩) l c E k (ys.flatMap enc)))) := by
  obtain ⟨hH, hg⟩ := hS.holdsK i hi hk h0 hus
  refine Hv.call ho' hc has hf ?_
  have e1 : (args ++ (#[] : Array Value).toList).toArray = args.toArray := by simp
  rw [e1]
  refine (hC hH hg).mono fun e w' ⟨he, d', n, os, hp, hs, hw⟩ => ⟨_, he, rfl, d'.toList, ?_, ?_, ?_⟩
  · obtain ⟨hsz, _, hperm⟩ := hp
    have e1 : d'.extract 0 xs.toArray.size = d' := by rw [← hsz]; exact Array.extract_size
    have e2 : xs.toArray.extract 0 xs.toArray.size = xs.toArray := Array.extract_size
    rw [e1, e2] at hperm
    simpa using hperm
  · rw [List.pairwise_iff_getElem]
    intro a b ha hb hab
    have h2 := hs a b (Nat.zero_le _) hab (by rw [← hp.1]; simpa using hb)
    rw [getElem!_pos d' b (by simpa using hb), getElem!_pos d' a (by simpa using ha)] at h2
    simpa using h2
  · rw [hw]
    exact hS.sorted i hi hk h0 d' (by rw [hp.1, hl]; simp) n os
end
end Go.Proofs.Ytgnpjhellmfhoaa.Sy
