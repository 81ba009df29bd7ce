import Derived.Test.YtgbdfgifgngijaaL5
import Derived.Shelf.SlSortCmp.NoneTotal
import Derived.Shelf.Small.Bits

/-
  slices.SortFunc, for a slice of the call's own: over the library's contract of pdqsortCmpFunc.
-/
namespace Go.Proofs.Ytgbdfgifgngijaa.Sy
open Go.RowKit Go.Sort Go.Shelf

section
variable {α : Type} {enc : α → List Value} {k : Nat}

theorem flatMap_get (hk : ∀ x, (enc x).length = k) (h0 : 0 < k) : ∀ (xs : List α) (t : Nat), (xs.flatMap enc)[t]? = (xs[t / k]?).bind fun x => (enc x)[t % k]?
  | [], t => by simp
  | x :: r, t => by
    rw [List.flatMap_cons]
    by_cases ht : t < k
    · rw [List.getElem?_append_left (by rw [hk]; exact ht), Nat.div_eq_of_lt ht, Nat.mod_eq_of_lt ht]; rfl
    · rw [List.getElem?_append_right (by rw [hk]; omega), hk, flatMap_get hk h0 r]
      have e1 : t / k = (t - k) / k + 1 := by rw [Nat.div_eq_sub_div h0 (by omega)]
      have e2 : t % k = (t - k) % k := Nat.mod_eq_sub_mod (by omega)
      rw [e1, e2, List.getElem?_cons_succ]
theorem flatMap_len (hk : ∀ x, (enc x).length = k) : ∀ xs : List α, (xs.flatMap enc).length = xs.length * k
  | [] => by simp
  | x :: r => by rw [List.flatMap_cons, List.length_append, hk, flatMap_len hk r, List.length_cons, Nat.add_mul, Nat.one_mul, Nat.add_comm]
theorem RepL.flat [El α] (hk : ∀ x, (enc x).length = El.sz α) (h0 : 0 < El.sz α) (μ : Mem) (hr : ∀ x, El.rep μ (fun j => (enc x)[j]?) x) (xs : List α) : RepL μ (xs.flatMap enc) xs := by
  refine ⟨flatMap_len hk xs, fun i hi => El.mono (Mem.ext.refl 0 μ) (fun j v hv => ?_) (hr xs[i])⟩
  have hj : j < El.sz α := by rw [← hk xs[i]]; exact (List.getElem?_eq_some_iff.1 hv).1
  rw [if_pos hj, flatMap_get hk h0]
  have e1 : (i * El.sz α + j) / El.sz α = i := by rw [Nat.mul_comm, Nat.mul_add_div h0, Nat.div_eq_of_lt hj, Nat.add_zero]
  have e2 : (i * El.sz α + j) % El.sz α = j := by rw [Nat.mul_comm, Nat.mul_add_mod, Nat.mod_eq_of_lt hj]
  rw [e1, e2, List.getElem?_eq_getElem hi]; exact hv
theorem Sl.cells [El α] (hk : ∀ x, (enc x).length = El.sz α) (h0 : 0 < El.sz α) (henc : ∀ (μ : Mem) (f : Nat → Option Value) (x : α), El.rep μ f x → ∀ j u, (enc x)[j]? = some u → f j = some u) {μ : Mem} {b off c : Nat} {xs : List α} (h : Sl μ (some ⟨b, off, none⟩) c xs) :
    ∀ j u, (xs.flatMap enc)[j]? = some u → μ.cell b (off + j) = some u := fun j u hu => by
  rw [flatMap_get hk h0] at hu
  cases hx : xs[j / El.sz α]? with
  | none => rw [hx] at hu; cases hu
  | some x =>
    rw [hx] at hu
    obtain ⟨hlt, hxe⟩ := List.getElem?_eq_some_iff.1 hx
    obtain ⟨b', o', e, hr⟩ := h.2.2 _ hlt
    cases e
    rw [hxe] at hr
    have := henc _ _ _ hr _ _ hu
    rw [Nat.add_assoc, Nat.div_add_mod'] at this
    exact this
theorem Sl.drop [El α] {μ : Mem} {b off c : Nat} {xs : List α} (h : Sl μ (some ⟨b, off, none⟩) c xs) (n : Nat) : Sl μ (some ⟨b, off + n * El.sz α, none⟩) (c - n) (xs.drop n) :=
  ⟨by have := h.1; simp; omega, by have := h.2.1; omega, fun i hi => by
    have hi' : n + i < xs.length := by simp at hi; omega
    obtain ⟨b', o', e, hr⟩ := h.2.2 (n + i) hi'
    cases e
    refine ⟨b, off + n * El.sz α, rfl, ?_⟩
    rw [List.getElem_drop]
    rw [Nat.add_mul, ← Nat.add_assoc] at hr
    exact hr⟩
variable [Inhabited α]
theorem flatK_list (hk : ∀ x, (enc x).length = k) (h0 : 0 < k) (d : Array α) : (flatK enc k d).toList = d.toList.flatMap enc := by
  apply List.ext_getElem?
  intro t
  rw [flatMap_get hk h0]
  by_cases ht : t < d.size * k
  · have hq : t / k < d.size := Nat.div_lt_of_lt_mul (by rwa [Nat.mul_comm] at ht)
    have hm : t % k < (enc d[t / k]).length := by rw [hk]; exact Nat.mod_lt _ h0
    have h1 : (flatK enc k d).toList[t]? = some ((enc d[t / k]!)[t % k]!) := by
      have h2 : t < (flatK enc k d).size := by simpa using ht
      rw [Array.getElem?_toList, Array.getElem?_eq_getElem h2, ← getElem!_pos (flatK enc k d) t h2, get_flatK _ _ _ _ ht]
    rw [h1, getElem!_pos d (t / k) hq, getElem!_pos (enc d[t / k]) (t % k) hm]
    simp [hq]
  · have h1 : (flatK enc k d).toList[t]? = none := by rw [List.getElem?_eq_none]; simp; omega
    have h2 : d.size ≤ t / k := (Nat.le_div_iff_mul_le h0).2 (by omega)
    rw [h1]; simp [h2]

theorem putCells_take (F cur : Array Value) (h : F.size ≤ cur.size) : (putCells id 0 F cur).toList.take F.size = F.toList := by
  apply List.ext_getElem?
  intro t
  rw [List.getElem?_take]
  by_cases ht : t < F.size
  · rw [if_pos ht]
    have h2 : t < cur.size := by omega
    simp [putCells, ht, h2]
  · rw [if_neg ht]; symm; rw [List.getElem?_eq_none]; simpa using ht
theorem putCells_size (F cur : Array Value) : (putCells id 0 F cur).size = cur.size := by simp [putCells]

variable {w0 w : World} {μ : Mem} {L : List Own} {g l c : Nat} {E : TypeId} {us : List Value} {xs : List α}

theorem St.holdsK (hS : St w0 w μ L) (i : Nat) (hi : L[i]? = some (Own.sl (some ⟨g, 0, none⟩) l c E k us)) (hk : ∀ x, (enc x).length = k) (h0 : 0 < k) (hus : us = xs.flatMap enc) : HoldsK enc k w g 0 xs.toArray ∧ g < w.heap.size := by
  have hcell := fun (off : Nat) (v : Value) (hv : us[off]? = some v) => Rd.sl hi hv w hS.rd
  obtain ⟨bs, hlen, hb⟩ := hS.rd.get hi
  rcases hb with ⟨hb, _⟩ | ⟨g', cur, hg, _, hh, _⟩
  · cases hb
  cases hg
  have hh' : w.heap[g]? = some (.cells cur E (0, 0)) := hh
  refine ⟨fun j hj => ⟨?_, by simp [World.frozen?, hh']⟩, (Array.getElem?_eq_some_iff.1 hh').1⟩
  rw [Nat.zero_add, getElem!_pos (flatK enc k xs.toArray) j hj]
  refine hcell j _ ?_
  rw [hus]
  have := congrArg (fun l => l[j]?) (flatK_list hk h0 xs.toArray)
  rw [← this, Array.getElem?_toList, Array.getElem?_eq_getElem hj]; rfl

theorem St.sorted (hS : St w0 w μ L) (i : Nat) (hi : L[i]? = some (Own.sl (some ⟨g, 0, none⟩) l c E k us)) (hk : ∀ x, (enc x).length = k) (h0 : 0 < k) (d : Array α) (hd : d.size = l) (n : Nat) (os : Array Obj) :
    St w0 (sortWorldK enc k w g 0 n d os) μ (L.set i (Own.sl (some ⟨g, 0, none⟩) l c E k (d.toList.flatMap enc))) := by
  obtain ⟨bs, ⟨hlen, hb⟩, _, _, hstep⟩ := hS.turn hi
  rcases hb with ⟨hb, _⟩ | ⟨g', cur, hg, rfl, hh, hlc, hcm, hcs, htake⟩
  · cases hb
  cases hg
  have hh' : w.heap[g]? = some (.cells cur E (0, 0)) := hh
  have hglt := (Array.getElem?_eq_some_iff.1 hh').1
  have hF : (flatK enc k d).size ≤ cur.size := by rw [size_flatK, hd, hcs]; exact Nat.mul_le_mul_right _ hlc
  have hblk : ∀ b, b < w.heap.size → (sortWorldK enc k w g 0 n d os).heap[b]? = (w.heap.modify g (onCells (putCells id 0 (flatK enc k d))))[b]? := fun b hb => by
    show ((w.heap.modify g _) ++ os)[b]? = _
    rw [Array.getElem?_append_left (by simpa using hb)]
  refine hstep _ _ [g] rfl rfl rfl ?_ ?_ (fun b hb hne => ?_) ⟨?_, .inr ⟨g, putCells id 0 (flatK enc k d) cur, rfl, rfl, ?_, hlc, hcm, by rw [putCells_size]; exact hcs, ?_⟩⟩ (by simp) (fun x hx => .inl hx)
  · exact Nat.le_add_right _ _
  · show w.heap.size ≤ ((w.heap.modify g _) ++ os).size
    simp
  · rw [hblk b hb, Array.getElem?_modify, if_neg (by simpa using Ne.symm (by simpa using hne))]
  · rw [flatMap_len hk, Array.length_toList, hd]
  · show (sortWorldK enc k w g 0 n d os).heap[g]? = _
    rw [hblk g hglt, Array.getElem?_modify, if_pos rfl, hh']; rfl
  · have := putCells_take (flatK enc k d) cur hF
    rw [size_flatK, hd] at this
    rw [this, flatK_list hk h0]

/-- A comparison that hands back a number, and may draw and lay blocks. -/
theorem cmpLays_of {P : Program} {f : Nat} {cf : α → α → Int} {blk off size : Nat} {w : World} (h : ∀ x y W, Calls P f #[.agg (enc x).toArray, .agg (enc y).toArray] W (RetS W (.int .i64 (cf x y)))) : CmpLays P f #[] enc k cf blk off size w :=
  fun m os dk _ x y => by
    have := (h x y (sortWorldK enc k w blk off m dk os)).mono (R' := fun e w' => e = .returned (.int .i64 (cf x y)) ∧ ∃ q os', w' = grow ((sortWorldK enc k w blk off m dk os).drewN q) os') fun e w' ⟨he, hb⟩ => ⟨he, _, _, hb.split⟩
    simpa using this

/-- The call of slices.SortFunc. -/
theorem Hv.sortBy {P : Program} {m : List (Nat × Value)} {o' : Call} {cc : Operand} {asl : List Operand} {ats : Array TypeId} {f : FuncId} {args : List Value} {lt : α → α → Bool} (i : Nat) (hS : St w0 w μ L) (hi : L[i]? = some (Own.sl (some ⟨g, 0, none⟩) l c E k us))
    (hk : ∀ x, (enc x).length = k) (h0 : 0 < k) (hus : us = xs.flatMap enc) (hl : l = xs.length)
    (ho' : o' = { callee := .value cc, args := asl.toArray, argTypes := ats }) (hc : ev m cc = some (.func (.func f) #[] #[])) (has : evs m asl = some args) (hf : Callable P f)
    (hC : HoldsK enc k w g 0 xs.toArray → g < w.heap.size → Calls P f args.toArray w fun e w' => e = .returned (.tuple #[]) ∧ ∃ d' n os, PermIn 0 xs.toArray.size xs.toArray d' ∧ SortedIn lt 0 xs.toArray.size d' ∧ w' = sortWorldK enc k w g 0 n d' os) :
    Hv P m (.call o') w (fun u w' => u = .tuple #[] ∧ ∃ ys : List α, ys.Perm xs ∧ ys.Pairwise (fun x y => lt y x = false) ∧ St w0 w' μ (L.set i (Own.sl (some ⟨g, 0, none⟩) l c E k (ys.flatMap enc)))) := by
  obtain ⟨hH, hg⟩ := hS.holdsK i hi hk h0 hus
  refine Hv.call ho' hc has hf ?_
  have e1 : (args ++ (#[] : Array Value).toList).toArray = args.toArray := by simp
  rw [e1]
  refine (hC hH hg).mono fun e w' ⟨he, d', n, os, hp, hs, hw⟩ => ⟨_, he, rfl, d'.toList, ?_, ?_, ?_⟩
  · obtain ⟨hsz, _, hperm⟩ := hp
    have e1 : d'.extract 0 xs.toArray.size = d' := by rw [← hsz]; exact Array.extract_size
    have e2 : xs.toArray.extract 0 xs.toArray.size = xs.toArray := Array.extract_size
    rw [e1, e2] at hperm
    simpa using hperm
  · rw [List.pairwise_iff_getElem]
    intro a b ha hb hab
    have h2 := hs a b (Nat.zero_le _) hab (by rw [← hp.1]; simpa using hb)
    rw [getElem!_pos d' b (by simpa using hb), getElem!_pos d' a (by simpa using ha)] at h2
    simpa using h2
  · rw [hw]
    exact hS.sorted i hi hk h0 d' (by rw [hp.1, hl]; simp) n os
end
end Go.Proofs.Ytgbdfgifgngijaa.Sy

/-
  Data: structures, how they lie in memory, and how a statement's reader finds them.
-/
namespace Go.Proofs.Ytgbdfgifgngijaa
open Go.RowKit Sy Go.ChangeShapes Go.WideShapes Go.ChangeAt
set_option maxRecDepth 100000

structure Rule where
  From : Int
  To : Int
  In : ByteArray
  Out : ByteArray
  Cost : Int

instance : El Rule := ⟨5, fun _ f x => f 0 = some (.int .i64 x.From) ∧ f 1 = some (.int .i64 x.To) ∧ f 2 = some (.string x.In) ∧ f 3 = some (.string x.Out) ∧ f 4 = some (.int .i64 x.Cost), fun _ hf h => ⟨hf _ _ h.1, hf _ _ h.2.1, hf _ _ h.2.2.1, hf _ _ h.2.2.2.1, hf _ _ h.2.2.2.2⟩⟩
def ruleL (x : Rule) : List Value := [.int .i64 x.From, .int .i64 x.To, .string x.In, .string x.Out, .int .i64 x.Cost]
abbrev ruleV (x : Rule) : Value := .agg #[.int .i64 x.From, .int .i64 x.To, .string x.In, .string x.Out, .int .i64 x.Cost]
theorem ruleRep (μ : Mem) (x : Rule) : El.rep μ (fun j => (ruleL x)[j]?) x := ⟨rfl, rfl, rfl, rfl, rfl⟩
theorem ruleReps (μ : Mem) (xs : List Rule) : RepL μ (xs.flatMap ruleL) xs := RepL.flat (enc := ruleL) (fun _ => rfl) (by decide) μ (ruleRep μ) xs
structure Sch where
  Modes : Int
  Accept : UInt8
  Rules : (List Rule)

instance : El Sch := ⟨3, fun μ f x => f 0 = some (.int .i64 x.Modes) ∧ f 1 = some (.int .u8 x.Accept.toNat) ∧ (∃ ad c, f 2 = some (.slice ad x.Rules.length c) ∧ Sl μ ad c x.Rules), fun hm hf h => ⟨hf _ _ h.1, hf _ _ h.2.1, (let ⟨ad, c, a, b⟩ := h.2.2; ⟨ad, c, hf _ _ a, b.mono hm⟩)⟩⟩
structure Rsl where
  Text : ByteArray
  Cost : Int

instance : El Rsl := ⟨2, fun _ f x => f 0 = some (.string x.Text) ∧ f 1 = some (.int .i64 x.Cost), fun _ hf h => ⟨hf _ _ h.1, hf _ _ h.2⟩⟩
def rslL (x : Rsl) : List Value := [.string x.Text, .int .i64 x.Cost]
abbrev rslV (x : Rsl) : Value := .agg #[.string x.Text, .int .i64 x.Cost]
theorem rslRep (μ : Mem) (x : Rsl) : El.rep μ (fun j => (rslL x)[j]?) x := ⟨rfl, rfl⟩
theorem rslReps (μ : Mem) (xs : List Rsl) : RepL μ (xs.flatMap rslL) xs := RepL.flat (enc := rslL) (fun _ => rfl) (by decide) μ (rslRep μ) xs
structure Rep where
  Dead : (List Int)
  Stuck : (List Int)
  Endless : (List Int)

instance : El Rep := ⟨3, fun μ f x => (∃ ad c, f 0 = some (.slice ad x.Dead.length c) ∧ Sl μ ad c x.Dead) ∧ (∃ ad c, f 1 = some (.slice ad x.Stuck.length c) ∧ Sl μ ad c x.Stuck) ∧ (∃ ad c, f 2 = some (.slice ad x.Endless.length c) ∧ Sl μ ad c x.Endless), fun hm hf h => ⟨(let ⟨ad, c, a, b⟩ := h.1; ⟨ad, c, hf _ _ a, b.mono hm⟩), (let ⟨ad, c, a, b⟩ := h.2.1; ⟨ad, c, hf _ _ a, b.mono hm⟩), (let ⟨ad, c, a, b⟩ := h.2.2; ⟨ad, c, hf _ _ a, b.mono hm⟩)⟩⟩
theorem r3 : Reads Try.prog 3 Int := Reads.int Try.underlying3 (by kernel_rfl)
structure RawRule where
  In : (List UInt8)
  Out : (List UInt8)
  From : UInt8
  To : UInt8
  Cost : UInt8

instance : El RawRule := ⟨5, fun μ f x => (∃ ad c, f 0 = some (.slice ad x.In.length c) ∧ Sl μ ad c x.In) ∧ (∃ ad c, f 1 = some (.slice ad x.Out.length c) ∧ Sl μ ad c x.Out) ∧ f 2 = some (.int .u8 x.From.toNat) ∧ f 3 = some (.int .u8 x.To.toNat) ∧ f 4 = some (.int .u8 x.Cost.toNat), fun hm hf h => ⟨(let ⟨ad, c, a, b⟩ := h.1; ⟨ad, c, hf _ _ a, b.mono hm⟩), (let ⟨ad, c, a, b⟩ := h.2.1; ⟨ad, c, hf _ _ a, b.mono hm⟩), hf _ _ h.2.2.1, hf _ _ h.2.2.2.1, hf _ _ h.2.2.2.2⟩⟩
structure Raw where
  Base : UInt8
  Drop : UInt8
  More : (List RawRule)

instance : El Raw := ⟨3, fun μ f x => f 0 = some (.int .u8 x.Base.toNat) ∧ f 1 = some (.int .u8 x.Drop.toNat) ∧ (∃ ad c, f 2 = some (.slice ad x.More.length c) ∧ Sl μ ad c x.More), fun hm hf h => ⟨hf _ _ h.1, hf _ _ h.2.1, (let ⟨ad, c, a, b⟩ := h.2.2; ⟨ad, c, hf _ _ a, b.mono hm⟩)⟩⟩
structure Walked where
  In : ByteArray
  Out : ByteArray
  Cost : Int

instance : El Walked := ⟨3, fun _ f x => f 0 = some (.string x.In) ∧ f 1 = some (.string x.Out) ∧ f 2 = some (.int .i64 x.Cost), fun _ hf h => ⟨hf _ _ h.1, hf _ _ h.2.1, hf _ _ h.2.2⟩⟩
structure B2 where
  a : UInt8
  b : UInt8
  deriving DecidableEq, Inhabited
instance : El B2 := ⟨2, fun _ f x => f 0 = some (.int .u8 x.a.toNat) ∧ f 1 = some (.int .u8 x.b.toNat), fun _ hf h => ⟨hf _ _ h.1, hf _ _ h.2⟩⟩
structure I2 where
  a : Int
  b : Int
  deriving DecidableEq, Inhabited
instance : El I2 := ⟨2, fun _ f x => f 0 = some (.int .i64 x.a) ∧ f 1 = some (.int .i64 x.b), fun _ hf h => ⟨hf _ _ h.1, hf _ _ h.2⟩⟩
structure Pai where
  mode : Int
  out : ByteArray

instance : El Pai := ⟨2, fun _ f x => f 0 = some (.int .i64 x.mode) ∧ f 1 = some (.string x.out), fun _ hf h => ⟨hf _ _ h.1, hf _ _ h.2⟩⟩
end Go.Proofs.Ytgbdfgifgngijaa

/-
  For the walker: operations under a guard that says no, in a region that draws its order; returns of several values.
-/
namespace Go.Proofs.Ytgbdfgifgngijaa.Sy
open Go.RowKit

section
variable {P : Program} {ops : Array Oper} {Q : Exit → Act → World → Prop} {S : World → Prop} {n : Nat}
variable {m : List (Nat × Value)} {w : World} {tail : List Nat} {pl pl2 : Plan} {i : Nat} {o : Oper}
theorem wpOp_not {a : Act} {K : Act → World → Prop} (hi : ops[i]? = some o) (hw : Region.wanted o (yielded ops a.tmps) = false) (h : K (a.put o.dst undef) w) : wpOp P ops Q i K a w := by
  unfold wpOp; simp only [hi, hw, Bool.false_eq_true, if_false]; exact h
theorem PW.skip1 {d : Nat} (hi : ops[i]? = some o) (hd : o.dst = some d) (hn : Nat.ble (d + 1) n = true) (hg : guarded ops m o = some false)
    (k : PW P ops Q S tail pl n ((d, undef) :: m) w) : PW P ops Q S tail (.one i pl) n m w := fun a ha hS =>
  wpOp_not hi (wanted_of ha hg) ⟨hS, by rw [hd]; exact k _ (ha.put (Nat.le_of_ble_eq_true hn) undef) hS⟩
end

/-! ### Cells of own objects, found by the object's number -/
class HasO (L : List Own) (b : Nat) (cs : outParam (List Value)) : Prop where
  has : ∃ (k : Nat) (E : TypeId), L[k]? = some (Own.obj b cs E)
instance HasO.head {b : Nat} {cs : List Value} {E : TypeId} {L : List Own} : HasO (Own.obj b cs E :: L) b cs := ⟨0, E, rfl⟩
instance (priority := low) HasO.tail {o : Own} {b : Nat} {cs : List Value} {L : List Own} [h : HasO L b cs] : HasO (o :: L) b cs := ⟨by obtain ⟨k, E, hk⟩ := h.has; exact ⟨k + 1, E, hk⟩⟩
theorem obT {b : Nat} {cs : List Value} {μ : Mem} {L : List Own} [h : HasO L b cs] {off : Nat} {v : Value} (hv : cs[off]? = some v) : ∀ w, Rd μ L w → w.cell? ⟨b, off, none⟩ = some v := by
  obtain ⟨k, E, hk⟩ := h.has
  exact Rd.obj hk hv
class HasS (L : List Own) (g : Nat) (us : outParam (List Value)) : Prop where
  has : ∃ (k l c : Nat) (E : TypeId) (sz : Nat), L[k]? = some (Own.sl (some ⟨g, 0, none⟩) l c E sz us)
instance HasS.head {g l c sz : Nat} {us : List Value} {E : TypeId} {L : List Own} : HasS (Own.sl (some ⟨g, 0, none⟩) l c E sz us :: L) g us := ⟨0, l, c, E, sz, rfl⟩
instance (priority := low) HasS.tail {o : Own} {g : Nat} {us : List Value} {L : List Own} [h : HasS L g us] : HasS (o :: L) g us := ⟨by obtain ⟨k, l, c, E, sz, hk⟩ := h.has; exact ⟨k + 1, l, c, E, sz, hk⟩⟩
theorem slT {g : Nat} {us : List Value} {μ : Mem} {L : List Own} [h : HasS L g us] {off : Nat} {v : Value} (hv : us[off]? = some v) : ∀ w, Rd μ L w → w.cell? ⟨g, off, none⟩ = some v := by
  obtain ⟨k, l, c, E, sz, hk⟩ := h.has
  exact Rd.sl hk hv
/-! ### Returns of several values -/
/-- What stands at a result. -/
def ResAt (P : Program) (m : List (Nat × Value)) (w : World) : ResultVar → Value → Prop
  | .tmp t, v => look m t = some v
  | .cell t E, v => ∃ b vs d z by_, look m t = some (.pointer (some ⟨b, 0, none⟩)) ∧ TI P E d z (vs : List Value).length by_ ∧ aggD d = true ∧ (∀ j u, vs[j]? = some u → w.cell? ⟨b, 0 + j, none⟩ = some u) ∧ v = .agg vs.toArray
def resRun (tmps : Array Value) : ResultVar → Sem Value
  | .tmp t => pure (tmps.getD t undef)
  | .cell t E => do loadVar E (← asAddr (tmps.getD t undef))
section
variable {P : Program} {fn : Func} {R : Ending → World → Prop} {n : Nat} {m : List (Nat × Value)} {w : World} {a : Act} {r1 r2 r3 : ResultVar} {v1 v2 v3 : Value}
theorem ResAt.run (ha : Fr a n m) (h : ResAt P m w r1 v1) : (resRun a.tmps r1).run P w = .ok v1 w := by
  cases r1 with
  | tmp t =>
    have h' : look m t = some v1 := h
    simp only [resRun, Sem.run_pure, Array.getD_eq_getD_getElem?, ha.get t v1 h', Option.getD_some]
  | cell t E =>
    obtain ⟨b, vs, d, z, by_, hv, hE, hd, hc, rfl⟩ := h
    have e1 := hE.isAgg w
    rw [hd] at e1
    have e2 := hE.sizeOf w
    have hadd : ∀ j, (⟨b, 0, none⟩ : Addr).add j = ⟨b, 0 + j, none⟩ := fun j => by unfold Addr.add; split <;> simp_all
    have e3 := run_loadCells (P := P) (a := ⟨b, 0, none⟩) vs 0 #[] w fun j v hv => by rw [hadd, Nat.zero_add]; exact hc j v hv
    have e4 : a.tmps.getD t undef = .pointer (some ⟨b, 0, none⟩) := by simp only [Array.getD_eq_getD_getElem?, ha.get t _ hv, Option.getD_some]
    simp only [resRun, e4, Sem.run_bind, asAddr, Sem.run_pure, Result.andThen_ok, loadVar, e1, loadCells, e2, e3, if_true]
    simp
theorem ret2 (ha : Fr a n m) (hr : fn.results = #[r1, r2]) (h1 : ResAt P m w r1 v1) (h2 : ResAt P m w r2 v2) (h : R (.returned (.tuple #[v1, v2])) w) : bodyPost P fn R .ret a w := by
  refine bodyPost_ret ?_ ha.defers h
  have g1 := h1.run ha
  have g2 := h2.run ha
  cases r1 <;> cases r2 <;> simp only [resRun, Sem.run_bind] at g1 g2 <;> simp only [results, hr, List.mapM_toArray, List.mapM_cons, List.mapM_nil, Sem.run_bind, Sem.run_map] <;> simp only [g1, g2, Result.andThen_ok, Sem.run_pure] <;> simp <;> simp_all
end

section
variable {w w' : World} {μ : Mem} {L : List Own}
theorem St.retB {x y : Bool} (h : St w w' μ L) (e : x = y) : RetS w (.bool y) (.returned (.bool x)) w' := by subst e; exact h.retS
theorem St.retI {k : IntKind} {x y : Int} (h : St w w' μ L) (e : x = y) : RetS w (.int k y) (.returned (.int k x)) w' := by subst e; exact h.retS
theorem St.retE {u v : Value} (h : St w w' μ L) (e : u = v) : RetS w v (.returned u) w' := by subst e; exact h.retS
end
theorem Ex.fieldO {P : Program} {S : World → Prop} {m : List (Nat × Value)} {t : TypeId} {x : Operand} {b off sz by_ : Nat} {d : TypeDesc} {z : Value} (o : Nat) {fs : Array Field} {f : Nat} {fl : Field} (ht : P.underlying t = some (.struct fs)) (hf : fs[f]? = some fl) (ho : fl.offset = o) (he : TI P fl.type d z (sz + 1) by_) (hx : ev m x = some (.pointer (some ⟨b, off, none⟩))) :
    Ex P S m (.fieldAddr t x f) (.pointer (some ⟨b, off + o, none⟩)) := by subst ho; exact Ex.fieldA ht hf he hx
/-- A contract of a function that works on its caller's objects. -/
def RetM (Φ : Value → World → Prop) (e : Ending) (w' : World) : Prop := ∃ v, e = .returned v ∧ Φ v w'
theorem Hv.callM {P : Program} {m : List (Nat × Value)} {w : World} {Φ : Value → World → Prop} {o' : Call} {c : Operand} {as1 : List Operand} {ats : Array TypeId} {f : FuncId} {cap : Array Value} {args : List Value} (ho' : o' = { callee := .value c, args := as1.toArray, argTypes := ats })
    (hc : ev m c = some (.func (.func f) #[] cap)) (has : evs m as1 = some args) (hf : Callable P f) (hC : Calls P f (args ++ cap.toList).toArray w (RetM Φ)) : Hv P m (.call o') w Φ := Hv.call ho' hc has hf hC
/-- A box, its cells laid out. -/
theorem Hv.boxS {P : Program} {m : List (Nat × Value)} {E : TypeId} {x : Operand} {v : Value} {cs : List Value} {w0 w : World} {μ : Mem} {L : List Own} (hS : St w0 w μ L) (hx : ev m x = some v) (hs : spine (cellsL v) = some cs) :
    Hv P m (.box E x) w (fun u w' => ∃ b, u = .pointer (some ⟨b, 0, none⟩) ∧ w.heap.size ≤ b ∧ St w0 w' μ (Own.obj b cs E :: L)) := by
  have e := spine_eq hs
  rw [cellsL_eq] at e
  subst e
  exact Hv.box hS hx
theorem Ex.shr {P : Program} {S : World → Prop} {m : List (Nat × Value)} {t t' : TypeId} {x y : Operand} {k k' : IntKind} {p q r : Int} (hx : ev m x = some (.int k p)) (hy : ev m y = some (.int k' q)) (h0 : 0 ≤ q) (h1 : q.toNat ≤ k.bits) (hr : p.fdiv (2 ^ q.toNat) = r) : Ex P S m (.binOp .shr t x y t') (.int k r) := fun ρ ha w _ o ho => by
  have e : Op.shift .shr k p k' q = pure (.int k (p.fdiv (2 ^ q.toNat))) := by unfold Op.shift; rw [if_neg (by omega)]; simp only [Nat.min_eq_left h1]
  subst hr; simp [execOp, ho, ha _ _ hx, ha _ _ hy, eqGuard, binOp, e, go_sem]
theorem Ex.shl {P : Program} {S : World → Prop} {m : List (Nat × Value)} {t t' : TypeId} {x y : Operand} {k k' : IntKind} {p q r : Int} (hx : ev m x = some (.int k p)) (hy : ev m y = some (.int k' q)) (h0 : 0 ≤ q) (h1 : q.toNat ≤ k.bits) (hr : k.wrap (p * 2 ^ q.toNat) = r) : Ex P S m (.binOp .shl t x y t') (.int k r) := fun ρ ha w _ o ho => by
  have e : Op.shift .shl k p k' q = pure (.int k (k.wrap (p * 2 ^ q.toNat))) := by unfold Op.shift; rw [if_neg (by omega)]; simp only [Nat.min_eq_left h1]
  subst hr; simp [execOp, ho, ha _ _ hx, ha _ _ hy, eqGuard, binOp, e, go_sem]
end Go.Proofs.Ytgbdfgifgngijaa.Sy
