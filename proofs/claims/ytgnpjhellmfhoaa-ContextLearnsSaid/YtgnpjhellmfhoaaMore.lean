/-
  More operations: sums of counters, loads of small structs, equality of structs, reslicing.
-/
import Derived.Test.YtgnpjhellmfhoaaLit
namespace Go.Proofs.Ytgnpjhellmfhoaa.Sy
open Go.RowKit

theorem addN {i j : Nat} (h : i + j ≤ 9223372036854775807) : IntKind.i64.wrap ((i : Int) + (j : Int)) = ((i + j : Nat) : Int) := by
  rw [w64 (by omega) (by omega)]; omega
theorem dec64 {i : Nat} (h : 1 ≤ i) (h2 : i ≤ 9223372036854775807) : IntKind.i64.wrap ((i : Int) - 1) = ((i - 1 : Nat) : Int) := by
  rw [w64 (by omega) (by omega)]; omega
theorem subN {i j : Nat} (h : j ≤ i) (h2 : i ≤ 9223372036854775807) : IntKind.i64.wrap ((i : Int) - (j : Int)) = ((i - j : Nat) : Int) := by
  rw [w64 (by omega) (by omega)]; omega

theorem Rd.objAll {μ : Mem} {L : List Own} {k b : Nat} {cs : List Value} {E : TypeId} {w : World} (hk : L[k]? = some (Own.obj b cs E)) (h : Rd μ L w) : ∀ j u, cs[j]? = some u → w.cell? ⟨b, 0 + j, none⟩ = some u :=
  fun j u hu => by rw [Nat.zero_add]; exact Rd.obj hk hu w h

namespace Ex
variable {P : Program} {S : World → Prop} {m : List (Nat × Value)} {t t' : TypeId} {x y c : Operand} {v v' v0 v1 v2 v3 v4 : Value} {d : TypeDesc} {z : Value} {by_ b off : Nat}

theorem load1c (ht : TI P t d z 1 by_) (hd : aggD d = true) (hx : ev m x = some (.pointer (some ⟨b, off, none⟩)))
    (h0 : ∀ w, S w → w.cell? ⟨b, off, none⟩ = some v0) : Ex P S m (.load t x) (.agg #[v0]) :=
  loadN [v0] ht hd hx fun w hS j v hv => by
    match j, hv with
    | 0, hv => cases hv; exact h0 w hS
theorem load2c (ht : TI P t d z 2 by_) (hd : aggD d = true) (hx : ev m x = some (.pointer (some ⟨b, off, none⟩)))
    (h0 : ∀ w, S w → w.cell? ⟨b, off, none⟩ = some v0) (h1 : ∀ w, S w → w.cell? ⟨b, off + 1, none⟩ = some v1) : Ex P S m (.load t x) (.agg #[v0, v1]) :=
  loadN [v0, v1] ht hd hx fun w hS j v hv => by
    match j, hv with
    | 0, hv => cases hv; exact h0 w hS
    | 1, hv => cases hv; exact h1 w hS
theorem load3c (ht : TI P t d z 3 by_) (hd : aggD d = true) (hx : ev m x = some (.pointer (some ⟨b, off, none⟩)))
    (h0 : ∀ w, S w → w.cell? ⟨b, off, none⟩ = some v0) (h1 : ∀ w, S w → w.cell? ⟨b, off + 1, none⟩ = some v1) (h2 : ∀ w, S w → w.cell? ⟨b, off + 2, none⟩ = some v2) : Ex P S m (.load t x) (.agg #[v0, v1, v2]) :=
  loadN [v0, v1, v2] ht hd hx fun w hS j v hv => by
    match j, hv with
    | 0, hv => cases hv; exact h0 w hS
    | 1, hv => cases hv; exact h1 w hS
    | 2, hv => cases hv; exact h2 w hS
theorem load4c (ht : TI P t d z 4 by_) (hd : aggD d = true) (hx : ev m x = some (.pointer (some ⟨b, off, none⟩)))
    (h0 : ∀ w, S w → w.cell? ⟨b, off, none⟩ = some v0) (h1 : ∀ w, S w → w.cell? ⟨b, off + 1, none⟩ = some v1) (h2 : ∀ w, S w → w.cell? ⟨b, off + 2, none⟩ = some v2)
    (h3 : ∀ w, S w → w.cell? ⟨b, off + 3, none⟩ = some v3) : Ex P S m (.load t x) (.agg #[v0, v1, v2, v3]) :=
  loadN [v0, v1, v2, v3] ht hd hx fun w hS j v hv => by
    match j, hv with
    | 0, hv => cases hv; exact h0 w hS
    | 1, hv => cases hv; exact h1 w hS
    | 2, hv => cases hv; exact h2 w hS
    | 3, hv => cases hv; exact h3 w hS
theorem load5c (ht : TI P t d z 5 by_) (hd : aggD d = true) (hx : ev m x = some (.pointer (some ⟨b, off, none⟩)))
    (h0 : ∀ w, S w → w.cell? ⟨b, off, none⟩ = some v0) (h1 : ∀ w, S w → w.cell? ⟨b, off + 1, none⟩ = some v1) (h2 : ∀ w, S w → w.cell? ⟨b, off + 2, none⟩ = some v2)
    (h3 : ∀ w, S w → w.cell? ⟨b, off + 3, none⟩ = some v3) (h4 : ∀ w, S w → w.cell? ⟨b, off + 4, none⟩ = some v4) : Ex P S m (.load t x) (.agg #[v0, v1, v2, v3, v4]) :=
  loadN [v0, v1, v2, v3, v4] ht hd hx fun w hS j v hv => by
    match j, hv with
    | 0, hv => cases hv; exact h0 w hS
    | 1, hv => cases hv; exact h1 w hS
    | 2, hv => cases hv; exact h2 w hS
    | 3, hv => cases hv; exact h3 w hS
    | 4, hv => cases hv; exact h4 w hS

/-- The field of a struct value; the element of an array value. -/
theorem fieldV {fs : Array Field} {f : Nat} {fl : Field} {cs : Array Value} {d' : TypeDesc} (ht : P.underlying t = some (.struct fs)) (hf : fs[f]? = some fl) (he : TI P fl.type d' z 1 by_) (hd : aggD d' = false) (hx : ev m x = some (.agg cs)) (hv : cs[fl.offset]? = some v) :
    Ex P S m (.field t x f) v := fun ρ ha w _ o ho => by
  have e1 : (Go.underlying t).run P w = .ok (.struct fs) w := by simp [Go.underlying, program, Sem.run, ht, go_sem]
  have e2 := he.isAgg w
  rw [hd] at e2
  simp [execOp, ho, ha _ _ hx, Instr.field, asAgg, part, e1, e2, hf, hv, go_sem]
theorem indexV {len : Nat} {e : TypeId} {cs : Array Value} {d' : TypeDesc} {k : IntKind} {p : Int} {j : Nat} (ht : P.underlying t = some (.array len e)) (he : TI P e d' z 1 by_) (hd : aggD d' = false) (hx : ev m x = some (.agg cs)) (hy : ev m y = some (.int k p)) (hp : p = (j : Int)) (hj : j < len) (hv : cs[j * 1]? = some v) :
    Ex P S m (.index t x y) v := fun ρ ha w _ o ho => by
  subst hp
  have e1 : (Go.underlying t).run P w = .ok (.array len e) w := by simp [Go.underlying, program, Sem.run, ht, go_sem]
  have e2 := he.isAgg w
  have e3 := he.sizeOf w
  rw [hd] at e2
  rw [Nat.mul_one] at hv
  have h1 : (j : Int) < (len : Int) := by omega
  simp [execOp, ho, ha _ _ hx, ha _ _ hy, Instr.index, asIntOf, part, e1, e2, e3, hj, hv, go_sem]
theorem indexS {s : ByteArray} {k : IntKind} {p : Int} {j : Nat} (ht : P.underlying t = some .string) (hx : ev m x = some (.string s)) (hy : ev m y = some (.int k p)) (hp : p = (j : Int)) (hj : j < s.size) :
    Ex P S m (.index t x y) (.int .u8 (s[j]).toNat) := fun ρ ha w _ o ho => by
  subst hp
  have e1 : (Go.underlying t).run P w = .ok .string w := by simp [Go.underlying, program, Sem.run, ht, go_sem]
  have e2 : s[j]? = some s[j] := by simp [hj]
  simp [execOp, ho, ha _ _ hx, ha _ _ hy, Instr.index, asIntOf, e1, e2, go_sem]

/-- '==' and '!=' on structs: what it comes to is told by a closed fact. -/
theorem eqlSt {xs ys : Array Value} {q : Bool} (hg : P.eqGuardType P.depth t = false) (hx : ev m x = some (.agg xs)) (hy : ev m y = some (.agg ys)) (hr : ∀ w, (Op.equal t (.agg xs) (.agg ys)).run P w = .ok q w) : Ex P S m (.binOp .eql t x y t') (.bool q) := fun ρ ha w _ o ho => by
  have e1 := run_eqGuard_agg (P := P) (w := w) .eql t x y xs ys hg
  have e2 : (binOp .eql t (.agg xs) (.agg ys)) = (do pure (.bool (← Op.equal t (.agg xs) (.agg ys)))) := rfl
  simp only [execOp, ho, ha _ _ hx, ha _ _ hy, Sem.run_bind, e1, Result.andThen_ok, e2, hr w, Sem.run_pure]
theorem neqSt {xs ys : Array Value} {q : Bool} (hg : P.eqGuardType P.depth t = false) (hx : ev m x = some (.agg xs)) (hy : ev m y = some (.agg ys)) (hr : ∀ w, (Op.equal t (.agg xs) (.agg ys)).run P w = .ok q w) : Ex P S m (.binOp .neq t x y t') (.bool (!q)) := fun ρ ha w _ o ho => by
  have e1 := run_eqGuard_agg (P := P) (w := w) .neq t x y xs ys hg
  have e2 : (binOp .neq t (.agg xs) (.agg ys)) = (do pure (.bool (!(← Op.equal t (.agg xs) (.agg ys))))) := rfl
  simp only [execOp, ho, ha _ _ hx, ha _ _ hy, Sem.run_bind, e1, Result.andThen_ok, e2, hr w, Sem.run_pure]

/-- s[:k] -/
theorem sliceTo {e : TypeId} {ad : Option Addr} {l c' j : Nat} {k : IntKind} {p : Int} (ht : P.underlying t = some (.slice e)) (he : TI P e d z by_ b) (hx : ev m x = some (.slice ad l c')) (hy : ev m y = some (.int k p)) (hp : p = (j : Int)) (hj : j ≤ c') :
    Ex P S m (.slice t x none (some y) none) (.slice ad j c') := fun ρ ha w _ o ho => by
  subst hp
  have e1 : (Go.underlying t).run P w = .ok (.slice e) w := by simp [Go.underlying, program, Sem.run, ht, go_sem]
  have e2 := he.sizeOf w
  have e3 : (ad.map fun a => a.add (0 * by_)) = ad := by cases ad <;> simp [Addr.add]
  have h1 : (j : Int) ≤ (c' : Int) := by omega
  have e4 : (Instr.sliceBound (.int k (j : Int)) c' .sliceAcap).run P w = .ok j w := by simp [Instr.sliceBound, asIntOf, h1, go_sem]
  simp only [execOp, ho, ha _ _ hx, ha _ _ hy, Option.map_some, Option.map_none, Instr.sliceAt, Instr.slice, Instr.sliceBounds, Sem.run_bind, e1, Result.andThen_ok, Sem.run_pure, if_true, e4, e2, e3, Nat.sub_zero, ite_self]
theorem max3 {at_ : Array TypeId} {o' : Call} {x3 : Operand} {k : IntKind} {p q r : Int} (ho' : o' = { callee := .builtin .max, args := #[x, y, x3], argTypes := at_ }) (hx : ev m x = some (.int k p)) (hy : ev m y = some (.int k q)) (hz : ev m x3 = some (.int k r)) : Ex P S m (.call o') (.int k (max (max p q) r)) := fun ρ ha w _ o ho => by
  subst ho'
  have e : (if p < q then q else p) = max p q := by split <;> omega
  have e2 : (if max p q < r then r else max p q) = max (max p q) r := by split <;> omega
  simp [execOp, ho, resolve, invoke, builtin, Builtin.max_, Builtin.max2, ha _ _ hx, ha _ _ hy, ha _ _ hz, e, e2, go_sem]
/-- x >> 1 -/
theorem shr1 {p r : Int} (hx : ev m x = some (.int .u64 p)) (hy : ev m y = some (.int .u64 1)) (hr : p / 2 = r) : Ex P S m (.binOp .shr t x y t') (.int .u64 r) := fun ρ ha w _ o ho => by
  subst hr
  have e : p.fdiv 2 = p / 2 := by rw [Int.fdiv_eq_ediv_of_nonneg]; omega
  have e2 : (Op.shift .shr .u64 p .u64 1).run P w = .ok (.int .u64 (p / 2)) w := by
    have : min (1 : Int).toNat IntKind.u64.bits = 1 := rfl
    unfold Op.shift
    rw [this]
    simp [e, go_sem]
  have e3 : (eqGuard .shr t x y (.int .u64 p) (.int .u64 1)).run P w = .ok () w := by simp [eqGuard, go_sem]
  have e4 : (binOp .shr t (.int .u64 p) (.int .u64 1)) = Op.shift .shr .u64 p .u64 1 := rfl
  simp only [execOp, ho, ha _ _ hx, ha _ _ hy, Sem.run_bind, e3, Result.andThen_ok, e4, e2, Sem.run_pure, Sem.run_map]
/-- s[j:] -/
theorem sliceFrom {e : TypeId} {b off l c' j sz byt : Nat} {k : IntKind} {p : Int} (ht : P.underlying t = some (.slice e)) (he : TI P e d z sz byt) (hx : ev m x = some (.slice (some ⟨b, off, none⟩) l c')) (hy : ev m y = some (.int k p)) (hp : p = (j : Int)) (hj : j < l) (hlc : l ≤ c') :
    Ex P S m (.slice t x (some y) none none) (.slice (some ⟨b, off + j * sz, none⟩) (l - j) (c' - j)) := fun ρ ha w _ o ho => by
  subst hp
  have e1 : (Go.underlying t).run P w = .ok (.slice e) w := by simp [Go.underlying, program, Sem.run, ht, go_sem]
  have e2 := he.sizeOf w
  have e3 : (⟨b, off, none⟩ : Addr).add (j * sz) = ⟨b, off + j * sz, none⟩ := by unfold Addr.add; split <;> simp_all
  have h1 : (j : Int) ≤ (l : Int) := by omega
  have h2 : ¬ (c' = j) := by omega
  have e4 : (Instr.sliceBound (.int k (j : Int)) l .sliceB).run P w = .ok j w := by simp [Instr.sliceBound, asIntOf, h1, go_sem]
  simp only [execOp, ho, ha _ _ hx, ha _ _ hy, Option.map_some, Option.map_none, Instr.sliceAt, Instr.slice, Instr.sliceBounds, Sem.run_bind, e1, Result.andThen_ok, Sem.run_pure, Option.isSome_none, Bool.false_eq_true, if_false, e4, e2, h2, e3]
end Ex
theorem made_get (z : Value) (n j : Nat) (h : j < n) : (madeCells #[z] n).toList[j]? = some z := by rw [toList_madeCells_one]; simp [h]
theorem made_len (z : Value) (n : Nat) : (madeCells #[z] n).toList.length = n := by rw [toList_madeCells_one]; simp


/-- append of nothing. -/
theorem Hv.append0 {P : Program} {m : List (Nat × Value)} {t E : TypeId} {x y : Operand} {w0 w : World} {μ : Mem} {L : List Own} {o' : Call} {k : Nat} {d : TypeDesc} {z : Value} {sz by_ : Nat} {ad ad2 : Option Addr} {l c c2 : Nat} {us : List Value}
    (ho' : o' = { callee := .builtin .append, args := #[x, y], argTypes := #[t, t] }) (ht : P.underlying t = some (.slice E)) (hE : TI P E d z sz by_)
    (hS : St w0 w μ L) (hk : L[k]? = some (Own.sl ad l c E sz us)) (hx : ev m x = some (.slice ad l c)) (hy : ev m y = some (.slice ad2 0 c2)) :
    Hv P m (.call o') w (fun u w' => u = .slice ad l c ∧ St w0 w' μ L) :=
  .of_run fun ρ ha o ho => by
    subst ho'
    have hcap := (hS.sl_cap k hk).1
    have e2 := hE.sizeOf w
    refine ⟨.slice ad l c, w, ?_, rfl, hS⟩
    simp only [execOp, ho, resolve, invoke, builtin, Sem.run_bind, Sem.run_pure, Result.andThen_ok, List.map_toArray, List.map_cons, List.map_nil, ha _ _ hx, ha _ _ hy]
    cases ad <;> cases ad2 <;> simp [Builtin.append_, run_underlying ht, e2, Builtin.lenOf, Builtin.firstCells, loadCells, loadCellsFrom, storeCells, hcap, go_sem]
/-- What a slice of immutable memory holds, cell by cell, and how it reads. -/
theorem Sl.copy {α : Type} [El α] (hw : ∀ (μ : Mem) (f : Nat → Option Value) (x : α), El.rep μ f x → ∃ vs : List Value, vs.length = El.sz α ∧ (∀ j u, vs[j]? = some u → f j = some u) ∧ El.rep μ (fun j => vs[j]?) x ∧ ∀ u ∈ vs, u.oneCell' = true)
    {μ : Mem} {b off c : Nat} {xs : List α} (h : Sl μ (some ⟨b, off, none⟩) c xs) : ∀ n, n ≤ xs.length → ∃ vs : List Value, vs.length = n * El.sz α ∧ (∀ j u, vs[j]? = some u → μ.cell b (off + j) = some u) ∧ RepL μ vs (xs.take n) ∧ ∀ u ∈ vs, u.oneCell' = true
  | 0, _ => ⟨[], by simp, fun j u hu => by simp at hu, by simpa using RepL.nil μ, fun u hu => by cases hu⟩
  | n + 1, hn => by
    obtain ⟨vs, h1, h2, h3, h4⟩ := Sl.copy hw h n (by omega)
    obtain ⟨b', o', e, hr⟩ := h.2.2 n (by omega)
    cases e
    obtain ⟨us, g1, g2, g3, g4⟩ := hw _ _ _ hr
    refine ⟨vs ++ us, by rw [List.length_append, h1, g1, Nat.add_mul, Nat.one_mul], fun j u hu => ?_, ?_, fun u hu => (List.mem_append.1 hu).elim (h4 u) (g4 u)⟩
    · by_cases hj : j < vs.length
      · rw [List.getElem?_append_left hj] at hu; exact h2 j u hu
      · rw [List.getElem?_append_right (by omega)] at hu
        have := g2 _ u hu
        rw [h1] at this hj
        rw [show off + n * El.sz α + (j - n * El.sz α) = off + j by omega] at this
        exact this
    · rw [List.take_succ_eq_append_getElem (by omega)]
      exact h3.snoc g1 g3
theorem RepL.append {α : Type} [El α] {μ : Mem} {us vs : List Value} {xs ys : List α} (h1 : RepL μ us xs) (h2 : RepL μ vs ys) : RepL μ (us ++ vs) (xs ++ ys) := by
  refine ⟨by rw [List.length_append, List.length_append, h1.1, h2.1, Nat.add_mul], fun i hi => ?_⟩
  by_cases hlt : i < xs.length
  · rw [List.getElem_append_left hlt]
    refine El.mono (Mem.ext.refl 0 μ) (fun j v hv => ?_) (h1.2 i hlt)
    split at hv
    · rename_i hj
      rw [if_pos hj, List.getElem?_append_left]
      · exact hv
      · exact (List.getElem?_eq_some_iff.1 hv).1
    · cases hv
  · have hi' : i - xs.length < ys.length := by simp at hi; omega
    rw [List.getElem_append_right (by omega)]
    refine El.mono (Mem.ext.refl 0 μ) (fun j v hv => ?_) (h2.2 _ hi')
    split at hv
    · rename_i hj
      have e : i * El.sz α = xs.length * El.sz α + (i - xs.length) * El.sz α := by rw [← Nat.add_mul]; congr 1; omega
      rw [if_pos hj, List.getElem?_append_right (by rw [h1.1, e]; omega), h1.1, e]
      rw [show xs.length * El.sz α + (i - xs.length) * El.sz α + j - xs.length * El.sz α = (i - xs.length) * El.sz α + j by omega]
      exact hv
    · cases hv
theorem set_same {β : Type} {L : List β} {k : Nat} {e : β} (h : L[k]? = some e) : L.set k e = L := by
  apply List.ext_getElem?
  intro j
  by_cases hj : k = j
  · subst hj
    obtain ⟨hlt, hx⟩ := List.getElem?_eq_some_iff.1 h
    rw [List.getElem?_set_self hlt, h]
  · rw [List.getElem?_set_ne hj]
/-- append of a slice of immutable memory. -/
theorem Hv.appendSl {α : Type} [El α] {P : Program} {m : List (Nat × Value)} {t E : TypeId} {x y : Operand} {w0 w : World} {μ : Mem} {L : List Own} {o' : Call} {k : Nat} {d : TypeDesc} {z : Value} {by_ : Nat} {ad ad2 : Option Addr} {l c c2 : Nat} {us : List Value} {xs ys : List α}
    (hw : ∀ (μ : Mem) (f : Nat → Option Value) (x : α), El.rep μ f x → ∃ vs : List Value, vs.length = El.sz α ∧ (∀ j u, vs[j]? = some u → f j = some u) ∧ El.rep μ (fun j => vs[j]?) x ∧ ∀ u ∈ vs, u.oneCell' = true)
    (ho' : o' = { callee := .builtin .append, args := #[x, y], argTypes := #[t, t] }) (ht : P.underlying t = some (.slice E)) (hE : TI P E d z (El.sz α) by_) (hz : z.cells.size = El.sz α)
    (hS : St w0 w μ L) (hk : L[k]? = some (Own.sl ad l c E (El.sz α) us)) (hr : RepL μ us ys) (hs : Sl μ ad2 c2 xs) (hx : ev m x = some (.slice ad l c)) (hy : ev m y = some (.slice ad2 xs.length c2))
    (h63 : l + xs.length ≤ maxLen) (hb : (l + xs.length) * by_ ≤ 140737488355328) :
    Hv P m (.call o') w (fun u w' => ∃ ad' c' us', u = .slice ad' (l + xs.length) c' ∧ RepL μ us' (ys ++ xs) ∧ St w0 w' μ (L.set k (Own.sl ad' (l + xs.length) c' E (El.sz α) us'))) := by
  by_cases h0 : xs.length = 0
  · obtain rfl := List.eq_nil_of_length_eq_zero h0
    refine (Hv.append0 ho' ht hE hS hk hx hy).mono fun u w' ⟨hu, hS'⟩ => ⟨ad, c, us, hu, by rw [List.append_nil]; exact hr, ?_⟩
    show St w0 w' μ (L.set k (Own.sl ad l c E (El.sz α) us))
    rw [set_same hk]; exact hS'
  · obtain ⟨b, off, rfl, _⟩ := hs.at (i := 0) (by omega)
    obtain ⟨vs, h1, h2, h3, h4⟩ := Sl.copy hw hs xs.length (Nat.le_refl _)
    rw [List.take_length] at h3
    exact (Hv.append ho' ht hE hz hS hk hx hy h1 (fun j u hu => hS.imm.cell (h2 j u hu)) h4 h63 hb).mono fun u w' ⟨ad', c', hu, hS'⟩ => ⟨ad', c', _, hu, hr.append h3, hS'⟩
theorem Sl.take {α : Type} [El α] {μ : Mem} {ad : Option Addr} {c : Nat} {xs : List α} (h : Sl μ ad c xs) (n : Nat) : Sl μ ad c (xs.take n) :=
  ⟨Nat.le_trans (by simp; omega) h.1, h.2.1, fun i hi => by
    have hi' : i < xs.length := by simp at hi; omega
    rw [List.getElem_take]; exact h.2.2 i hi'⟩
/-- A row that the call has laid, shut: a slice of immutable memory. -/
theorem St.shutRow {α : Type} [El α] {w0 w : World} {μ : Mem} {L : List Own} {b : Nat} {cs : List Value} {E : TypeId} {xs : List α} (h : St w0 w μ L) (k : Nat) (hk : L[k]? = some (Own.obj b cs E)) (hr : RepL μ cs xs) (hm : xs.length ≤ maxLen) :
    ∃ μ', Mem.ext w0.heap.size μ μ' ∧ St w0 w μ' (L.eraseIdx k) ∧ Sl μ' (some ⟨b, 0, none⟩) xs.length xs := by
  obtain ⟨hkl, _⟩ := List.getElem?_eq_some_iff.1 hk
  have h2 := h.row_sl hk xs.length (El.sz α) hr.1 hm
  obtain ⟨bs, μ', hm', hS, hφ⟩ := h2.shut k (List.getElem?_set_self hkl)
  have e : (L.set k (Own.sl (some ⟨b, 0, none⟩) xs.length xs.length E (El.sz α) cs)).eraseIdx k = L.eraseIdx k := by
    apply List.ext_getElem?
    intro i
    simp only [List.getElem?_eraseIdx]
    split
    · rw [List.getElem?_set_ne (by omega)]
    · rw [List.getElem?_set_ne (by omega)]
  rw [e] at hS
  exact ⟨μ', hm', hS, Sl.of_own hφ (hr.mono hm') rfl⟩
theorem end_none {P : Program} {fn : Func} {R : Ending → World → Prop} {n : Nat} {m : List (Nat × Value)} {w : World} {a : Act} (ha : Fr a n m) (hr : fn.results = #[]) (h : R (.returned (.tuple #[])) w) : bodyPost P fn R .normal a w :=
  ⟨ha.defers, _, results_none hr _ _ _, h⟩
/-- A function whose result lies in a variable of a struct's type. -/
theorem ret_cell {P : Program} {fn : Func} {R : Ending → World → Prop} {n : Nat} {m : List (Nat × Value)} {w : World} {a : Act} {t : Tmp} {E : TypeId} {d : TypeDesc} {z : Value} {by_ b : Nat} {vs : List Value} (ha : Fr a n m) (hr : fn.results = #[.cell t E])
    (hv : look m t = some (.pointer (some ⟨b, 0, none⟩))) (hE : TI P E d z vs.length by_) (hd : aggD d = true) (hc : ∀ j v, vs[j]? = some v → w.cell? ⟨b, 0 + j, none⟩ = some v) (h : R (.returned (.agg vs.toArray)) w) : bodyPost P fn R .ret a w := by
  refine bodyPost_ret ?_ ha.defers h
  have e1 := hE.isAgg w
  rw [hd] at e1
  have e2 := hE.sizeOf w
  have hadd : ∀ j, (⟨b, 0, none⟩ : Addr).add j = ⟨b, 0 + j, none⟩ := fun j => by unfold Addr.add; split <;> simp_all
  have e3 := run_loadCells (P := P) (a := ⟨b, 0, none⟩) vs 0 #[] w fun j v hv => by rw [hadd, Nat.zero_add]; exact hc j v hv
  have e4 : a.tmps.getD t undef = .pointer (some ⟨b, 0, none⟩) := by simp only [Array.getD_eq_getD_getElem?, ha.get t _ hv, Option.getD_some]
  simp only [results, hr, List.mapM_toArray, List.mapM_cons, List.mapM_nil, e4, Sem.run_bind, asAddr, Sem.run_pure, Result.andThen_ok, loadVar, e1, loadCells, e2, e3, if_true, Sem.run_map]
  simp

/-! ### Equality of structs, field by field -/
section
variable {P : Program} {d : Nat} {f : Field} {fs : List Field} {xs ys : Array Value} {r : Bool} {z : Value} {by_ : Nat}
theorem TI.und {t : TypeId} {D : TypeDesc} {sz : Nat} (h : TI P t D z sz by_) : P.underlying t = some D := by
  have e := h.underlying (default : World)
  cases hu : P.underlying t with
  | none => simp [Go.underlying, program, Sem.run, hu, go_sem] at e
  | some d => simp [Go.underlying, program, Sem.run, hu, go_sem] at e; rw [e]
theorem eqF_nil (w : World) : (Op.eqFields d xs ys []).run P w = .ok true w := by simp [Op.eqFields, go_sem]
theorem eqF_int {k k' : IntKind} {a b : Int} (hn : (f.name == "_") = false) (hE : TI P f.type (.int k') z 1 by_) (hx : xs[f.offset]? = some (.int k a)) (hy : ys[f.offset]? = some (.int k b))
    (hr : ∀ w, (Op.eqFields (d + 1) xs ys fs).run P w = .ok r w) (w : World) : (Op.eqFields (d + 1) xs ys (f :: fs)).run P w = .ok (decide (a = b) && r) w := by
  have hn' : f.name ≠ "_" := by simpa using hn
  have e1 : ∀ w, (Go.isAgg f.type).run P w = .ok false w := fun w => hE.isAgg w
  have e2 : ∀ w, (Op.equalIn (d + 1) f.type (.int k a) (.int k b)).run P w = .ok (a == b) w := fun w => run_equalIn_int w d f.type k k' a b hE.und
  simp only [Op.eqFields, hn', ne_eq, not_false_eq_true, if_true, part, Sem.run_bind, e1, Result.andThen_ok, Bool.false_eq_true, if_false, hx, hy, Sem.run_pure, e2]
  by_cases h : a = b
  · subst h; simp [hr]
  · simp [h, go_sem]
theorem eqF_string {a b : ByteArray} (hn : (f.name == "_") = false) (hE : TI P f.type .string z 1 by_) (hx : xs[f.offset]? = some (.string a)) (hy : ys[f.offset]? = some (.string b))
    (hr : ∀ w, (Op.eqFields (d + 1) xs ys fs).run P w = .ok r w) (w : World) : (Op.eqFields (d + 1) xs ys (f :: fs)).run P w =   .ok ((a == b) && r) w := by
  have hn' : f.name ≠ "_" := by simpa using hn
  have e1 : ∀ w, (Go.isAgg f.type).run P w = .ok false w := fun w => hE.isAgg w
  have e2 : ∀ w, (Op.equalIn (d + 1) f.type (.string a) (.string b)).run P w = .ok (a == b) w := fun w => by rw [beq_toListBytes]; exact run_equalIn_string w d f.type a b hE.und
  simp only [Op.eqFields, hn', ne_eq, not_false_eq_true, if_true, part, Sem.run_bind, e1, Result.andThen_ok, Bool.false_eq_true, if_false, hx, hy, Sem.run_pure, e2]
  cases h : (a == b)
  · simp [go_sem]
  · simp [hr]
theorem eqStruct {t : TypeId} {fa : Array Field} (ht : P.underlying t = some (.struct fa)) (hp : P.stoodInHeld t = false) (hr : ∀ w, (Op.eqFields 9999 xs ys fa.toList).run P w = .ok r w) (w : World) :
    (Op.equal t (.agg xs) (.agg ys)).run P w = .ok r w := by
  have e : P.fieldsOf t = fa := by simp [Program.fieldsOf, ht]
  have := run_equalIn_struct (P := P) w 9999 t xs ys (by rw [e]; exact ht) hp
  rw [e] at this
  exact this.trans (hr w)
end

end Go.Proofs.Ytgnpjhellmfhoaa.Sy
