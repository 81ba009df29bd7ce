/-
  The call's own objects: variables and rows (Own.obj), slices that may be appended to (Own.sl); what the operations on memory do.
-/
import Derived.Test.YtgnpjhellmfhoaaOp
namespace Go.Proofs.Ytgnpjhellmfhoaa.Sy
open Go.RowKit

/-- A block with these cells. -/
def Own.obj (b : Nat) (cs : List Value) (E : TypeId) : Own :=
  ⟨fun bs h => bs = [b] ∧ h b = some (.cells cs.toArray E (0, 0)), fun bs h h' ⟨e, hb⟩ hh => ⟨e, by rw [hh b (by simp [e])]; exact hb⟩⟩

/-- A slice value '.slice ad l c' with the cells us (sz cells an element); behind them spare places. -/
def Own.sl (ad : Option Addr) (l c : Nat) (E : TypeId) (sz : Nat) (us : List Value) : Own :=
  ⟨fun bs h => us.length = l * sz ∧ ((ad = none ∧ l = 0 ∧ c = 0 ∧ bs = []) ∨
      ∃ g cur, ad = some ⟨g, 0, none⟩ ∧ bs = [g] ∧ h g = some (.cells cur E (0, 0)) ∧ l ≤ c ∧ c ≤ maxLen ∧ cur.size = c * sz ∧ cur.toList.take (l * sz) = us),
    fun bs h h' ⟨e, hb⟩ hh => ⟨e, hb.imp id fun ⟨g, cur, h1, h2, h3, r⟩ => ⟨g, cur, h1, h2, by rw [hh g (by simp [h2])]; exact h3, r⟩⟩⟩

section
variable {w0 w : World} {μ : Mem} {L : List Own} {k : Nat}

theorem Seps.get {bs : List Nat} {h : Mem} {e : Own} (hs : Seps L bs h) (hk : L[k]? = some e) : ∃ b2, e.φ b2 h := let ⟨_, b2, _, _, he, _⟩ := hs.focus hk; ⟨b2, he⟩
theorem Rd.get {e : Own} (h : Rd μ L w) (hk : L[k]? = some e) : ∃ bs, e.φ bs (memOf w) := let ⟨_, hs⟩ := h.2; hs.get hk

theorem Rd.obj {b : Nat} {cs : List Value} {E : TypeId} (hk : L[k]? = some (Own.obj b cs E)) {off : Nat} {v : Value} (hv : cs[off]? = some v) : ∀ w, Rd μ L w → w.cell? ⟨b, off, none⟩ = some v := fun w h => by
  obtain ⟨bs, _, hb⟩ := h.get hk
  rw [cell_of_heap hb]; simpa using hv
theorem Rd.imm {b off : Nat} {v : Value} (hc : μ.cell b off = some v) : ∀ w, Rd μ L w → w.cell? ⟨b, off, none⟩ = some v := fun _ h => h.1.cell hc
theorem Rd.sl {g : Nat} {l c : Nat} {E : TypeId} {sz : Nat} {us : List Value} (hk : L[k]? = some (Own.sl (some ⟨g, 0, none⟩) l c E sz us)) {off : Nat} {v : Value} (hv : us[off]? = some v) :
    ∀ w, Rd μ L w → w.cell? ⟨g, off, none⟩ = some v := fun w h => by
  obtain ⟨bs, hlen, hb⟩ := h.get hk
  rcases hb with ⟨hb, _⟩ | ⟨g', cur, hg, _, hh, hlc, _, hcs, htake⟩
  · cases hb
  · cases hg
    rw [cell_of_heap hh]
    have hlt := (List.getElem?_eq_some_iff.1 hv).1
    rw [← htake, List.getElem?_take] at hv
    split at hv
    · simpa using hv
    · cases hv

theorem St.sl_some {ad : Option Addr} {l c : Nat} {E : TypeId} {sz : Nat} {us : List Value} (h : St w0 w μ L) (k : Nat) (hk : L[k]? = some (Own.sl ad l c E sz us)) (hl : 0 < l) : ∃ g, ad = some ⟨g, 0, none⟩ := by
  obtain ⟨bs, hlen, hb⟩ := h.rd.get hk
  rcases hb with ⟨_, hb, _⟩ | ⟨g', cur, hg, _⟩
  · omega
  · exact ⟨g', hg⟩
theorem St.sl_cap {ad : Option Addr} {l c : Nat} {E : TypeId} {sz : Nat} {us : List Value} (h : St w0 w μ L) (k : Nat) (hk : L[k]? = some (Own.sl ad l c E sz us)) : l ≤ c ∧ c ≤ maxLen := by
  obtain ⟨bs, hlen, hb⟩ := h.rd.get hk
  rcases hb with ⟨_, hb, hc, _⟩ | ⟨g', cur, hg, _, _, h1, h2, _⟩
  · simp only [maxLen]; omega
  · exact ⟨h1, h2⟩
theorem St.sl_len {ad : Option Addr} {l c : Nat} {E : TypeId} {sz : Nat} {us : List Value} (h : St w0 w μ L) (k : Nat) (hk : L[k]? = some (Own.sl ad l c E sz us)) : us.length = l * sz := by
  obtain ⟨bs, hlen, _⟩ := h.rd.get hk
  exact hlen

theorem heap_alloc (w : World) (o : Obj) : (w.alloc o).heap[w.heap.size]? = some o := heap_alloc_new w o
theorem size_alloc (w : World) (o : Obj) : (w.alloc o).heap.size = w.heap.size + 1 := by show (w.heap.push o).size = _; simp

theorem St.alloc (h : St w0 w μ L) (cs : List Value) (E : TypeId) : St w0 (w.alloc (.cells cs.toArray E)) μ (Own.obj w.heap.size cs E :: L) :=
  h.add ((Bel.refl _ _).alloc (Nat.le_refl _) _) (Own.obj w.heap.size cs E) (bs := [w.heap.size]) ⟨rfl, heap_alloc w _⟩ (by simp) (fun b hb => by
    obtain rfl : b = w.heap.size := by simpa using hb
    rw [size_alloc]; omega)

/-- The one cell of an own object turns. -/
theorem St.set_obj {b : Nat} {cs : List Value} {E : TypeId} (h : St w0 w μ L) (hk : L[k]? = some (Own.obj b cs E)) (off : Nat) (v : Value) :
    St w0 (w.setCell ⟨b, off, none⟩ v) μ (L.set k (Own.obj b (cs.set off v) E)) := by
  obtain ⟨bs, ⟨rfl, hb⟩, _, _, hstep⟩ := h.turn hk
  refine hstep _ _ [b] rfl rfl rfl (Nat.le_refl _) (by simp [World.setCell]) (fun b' _ hne => Below.heap_setCell _ _ _ _ (by simpa using hne)) ⟨rfl, ?_⟩ (by simp) (fun x hx => .inl hx)
  have hb' : w.heap[b]? = some (.cells cs.toArray E (0, 0)) := hb
  show (w.setCell ⟨b, off, none⟩ v).heap[b]? = _
  simp [World.setCell, Array.getElem?_modify, hb']

theorem St.set_sl {g l c : Nat} {E : TypeId} {sz : Nat} {us : List Value} (h : St w0 w μ L) (hk : L[k]? = some (Own.sl (some ⟨g, 0, none⟩) l c E sz us)) (off : Nat) (v : Value) :
    St w0 (w.setCell ⟨g, off, none⟩ v) μ (L.set k (Own.sl (some ⟨g, 0, none⟩) l c E sz (us.set off v))) := by
  obtain ⟨bs, ⟨hlen, hb⟩, _, _, hstep⟩ := h.turn hk
  rcases hb with ⟨hb, _⟩ | ⟨g', cur, hg, rfl, hh, hlc, hcm, hcs, htake⟩
  · cases hb
  cases hg
  refine hstep _ _ [g] rfl rfl rfl (Nat.le_refl _) (by simp [World.setCell]) (fun b' _ hne => Below.heap_setCell _ _ _ _ (by simpa using hne)) ⟨by simpa using hlen, .inr ⟨g, cur.setIfInBounds off v, rfl, rfl, ?_, hlc, hcm, by simpa using hcs, ?_⟩⟩ (by simp) (fun x hx => .inl hx)
  · have hb' : w.heap[g]? = some (.cells cur E (0, 0)) := hh
    show (w.setCell ⟨g, off, none⟩ v).heap[g]? = _
    simp [World.setCell, Array.getElem?_modify, hb']
  · rw [Array.toList_setIfInBounds, ← htake, List.take_set]

/-- A shorter slice of the same row. -/
theorem St.take_sl {ad : Option Addr} {l c : Nat} {E : TypeId} {sz : Nat} {us : List Value} (h : St w0 w μ L) (hk : L[k]? = some (Own.sl ad l c E sz us)) (l' : Nat) (hl : l' ≤ l) :
    St w0 w μ (L.set k (Own.sl ad l' c E sz (us.take (l' * sz)))) := by
  obtain ⟨bs, ⟨hlen, hb⟩, hn, _, hstep⟩ := h.turn hk
  refine hstep w _ bs rfl rfl rfl (Nat.le_refl _) (Nat.le_refl _) (fun _ _ _ => rfl) ⟨?_, ?_⟩ hn (fun x hx => .inl hx)
  · rw [List.length_take, hlen, Nat.min_eq_left (Nat.mul_le_mul_right _ hl)]
  · rcases hb with ⟨h1, h2, h3, h4⟩ | ⟨g', cur, hg, hbs, hh, hlc, hcm, hcs, htake⟩
    · exact .inl ⟨h1, by omega, h3, h4⟩
    · refine .inr ⟨g', cur, hg, hbs, hh, by omega, hcm, hcs, ?_⟩
      rw [← htake, List.take_take, Nat.min_eq_left (Nat.mul_le_mul_right _ hl)]

theorem nil_sl (E : TypeId) (sz : Nat) (h : St w0 w μ L) : St w0 w μ (Own.sl none 0 0 E sz [] :: L) :=
  h.add (Bel.refl _ _) (Own.sl none 0 0 E sz []) (bs := []) ⟨by simp, .inl ⟨rfl, rfl, rfl, rfl⟩⟩ (by simp) (fun b hb => by cases hb)

/-- A row that the call has just laid is a slice. -/
theorem St.row_sl {b : Nat} {cs : List Value} {E : TypeId} (h : St w0 w μ L) (hk : L[k]? = some (Own.obj b cs E)) (n sz : Nat) (hn : cs.length = n * sz) (hm : n ≤ maxLen) :
    St w0 w μ (L.set k (Own.sl (some ⟨b, 0, none⟩) n n E sz cs)) := by
  obtain ⟨bs, ⟨rfl, hb⟩, hnd, _, hstep⟩ := h.turn hk
  refine hstep w _ [b] rfl rfl rfl (Nat.le_refl _) (Nat.le_refl _) (fun _ _ _ => rfl) ⟨hn, .inr ⟨b, cs.toArray, rfl, rfl, hb, Nat.le_refl _, hm, by simpa using hn, ?_⟩⟩ hnd (fun x hx => .inl hx)
  rw [← hn]; simp
end

/-- append, over what a slice of the call's own is. -/
theorem run_append_sl {P : Program} {w : World} {t ty E : TypeId} {d : TypeDesc} {z : Value} {sz by_ : Nat} {ad : Option Addr} {l c : Nat} {us : List Value} {bs : List Nat} {g off n2 c2 : Nat} {vs : List Value}
    (ht : P.underlying t = some (.slice E)) (hE : TI P E d z sz by_) (hz : z.cells.size = sz) (hφ : (Own.sl ad l c E sz us).φ bs (memOf w))
    (hl : vs.length = n2 * sz) (hvs : ∀ j u, vs[j]? = some u → w.cell? ⟨g, off + j, none⟩ = some u) (h1 : ∀ u ∈ vs, u.oneCell' = true)
    (h63 : l + n2 ≤ maxLen) (hb : (l + n2) * by_ ≤ 140737488355328) :
    ∃ ad' c' w' bs', (Builtin.append_ #[t, t] ty #[.slice ad l c, .slice (some ⟨g, off, none⟩) n2 c2]).run P w = .ok (.slice ad' (l + n2) c') w' ∧
      w'.os = w.os ∧ w'.tape = w.tape ∧ w'.output = w.output ∧ w.drawn ≤ w'.drawn ∧ w.heap.size ≤ w'.heap.size ∧ (∀ b, b < w.heap.size → b ∉ bs → w'.heap[b]? = w.heap[b]?) ∧
      (Own.sl ad' (l + n2) c' E sz (us ++ vs)).φ bs' (memOf w') ∧ bs'.Nodup ∧ ∀ b ∈ bs', b ∈ bs ∨ (w.heap.size ≤ b ∧ b < w'.heap.size) := by
  obtain ⟨i, hi, z1, z2, z3⟩ := hE.info
  subst z2; subst z3
  obtain ⟨hlen, hφ⟩ := hφ
  have hsmall : l + n2 ≤ 9223372036854775807 := by simp only [maxLen] at h63; omega
  have hlen' : (us ++ vs).length = (l + n2) * i.size := by rw [List.length_append, hlen, hl, Nat.add_mul]
  have hadd : ∀ j, (⟨g, off, none⟩ : Addr).add j = ⟨g, off + j, none⟩ := fun j => by unfold Addr.add; split <;> simp_all
  have hvs' : ∀ j u, vs[j]? = some u → w.cell? ((⟨g, off, none⟩ : Addr).add j) = some u := fun j u e => by rw [hadd]; exact hvs j u e
  have grown : ∀ (old : Nat), old < l + n2 →
      (Own.sl (some ⟨w.heap.size, 0, none⟩) (l + n2) (grownCap w (l + n2) old E) E i.size (us ++ vs)).φ [w.heap.size] (memOf (w.drew.alloc (.cells (us.toArray ++ vs.toArray ++ Builtin.zeroCells z.cells (grownCap w (l + n2) old E - (l + n2))) E))) := by
    intro old _
    have hge := grownCap_ge w (l + n2) old E
    have hcm : grownCap w (l + n2) old E ≤ maxLen := grownCap_le_maxLen w (l + n2) old E h63
    refine ⟨hlen', .inr ⟨w.heap.size, _, rfl, rfl, heap_alloc_new w.drew _, hge, hcm, ?_, ?_⟩⟩
    · simp only [Array.size_append, List.size_toArray, size_zeroCells, hz, hlen, hl, ← Nat.add_mul]
      congr 1
      omega
    · simp only [Array.toList_append, List.append_assoc]
      rw [← List.append_assoc, ← hlen']
      exact List.take_left
  have hnewb : ∀ o b, b ∈ [w.heap.size] → b ∈ bs ∨ (w.heap.size ≤ b ∧ b < (w.drew.alloc o).heap.size) := fun o b hbm => by
    obtain rfl : b = w.heap.size := by simpa using hbm
    refine .inr ⟨Nat.le_refl _, ?_⟩
    rw [size_alloc]; exact Nat.lt_succ_self _
  have hold : ∀ o b, b < w.heap.size → b ∉ bs → (w.drew.alloc o).heap[b]? = w.heap[b]? := fun o b hlt _ => Below.heap_alloc w.drew o b hlt
  have hsz : ∀ o, w.heap.size ≤ (w.drew.alloc o).heap.size := fun o => by rw [size_alloc]; exact Nat.le_succ _
  rcases hφ with ⟨rfl, rfl, rfl, rfl⟩ | ⟨g', cur, rfl, rfl, hh, hlc, hcm, hcs, htake⟩
  · have hx : us = [] := List.eq_nil_of_length_eq_zero (by simpa using hlen)
    subst hx
    by_cases hm : n2 = 0
    · subst hm
      have hn : vs = [] := List.eq_nil_of_length_eq_zero (by simpa using hl)
      subst hn
      refine ⟨none, 0, w, [], ?_, rfl, rfl, rfl, Nat.le_refl _, Nat.le_refl _, fun _ _ _ => rfl, ⟨by simp, .inl ⟨rfl, rfl, rfl, rfl⟩⟩, by simp, fun b hb => by cases hb⟩
      simp [Builtin.append_, run_underlying ht, sizeOf, typeInfo, hi, Builtin.lenOf, Builtin.firstCells, loadCells, loadCellsFrom]
    · have hr := run_append_nil (P := P) w t ty E i z ht hi z1 ⟨g, off, none⟩ n2 c2 vs hl hvs' (by omega) (by omega) (by have hb := hb; simp only [Nat.zero_add] at hb; omega)
      have hgr := grown 0 (by omega)
      simp only [Nat.zero_add, List.nil_append, Array.empty_append] at hgr ⊢
      exact ⟨_, _, _, [w.heap.size], hr, rfl, rfl, rfl, Nat.le_succ _, hsz _, hold _, hgr, by simp, hnewb _⟩
  · have hh' : w.heap[g']? = some (.cells cur E (0, 0)) := hh
    by_cases hroom : l + n2 ≤ c
    · have hfit : l * i.size + vs.length ≤ cur.size := by rw [hl, hcs, ← Nat.add_mul]; exact Nat.mul_le_mul_right _ hroom
      have hr := run_append_room (P := P) w t ty E i ht hi g' l c cur hh' ⟨g, off, none⟩ n2 c2 vs hl hvs' h1 hroom hfit
      refine ⟨_, _, _, [g'], hr, rfl, rfl, rfl, Nat.le_refl _, by simp [World.setRow], fun b _ hne => setRow_other w g' b _ (by simpa using hne), ⟨hlen', .inr ⟨g', _, rfl, rfl, setRow_heap w g' cur _ E _ hh', hroom, hcm, ?_, ?_⟩⟩, by simp, fun b hb => .inl hb⟩
      · simp only [List.size_toArray, List.length_append, List.length_take, List.length_drop, Array.length_toList]
        omega
      · rw [htake, ← hlen']
        exact List.take_left
    · have holds : ∀ j u, us[j]? = some u → w.cell? ((⟨g', 0, none⟩ : Addr).add j) = some u := fun j u hu => by
        have hadd' : (⟨g', 0, none⟩ : Addr).add j = ⟨g', j, none⟩ := by unfold Addr.add; split <;> simp_all
        rw [hadd', cell_of_heap hh']
        rw [← htake, List.getElem?_take] at hu
        split at hu
        · simpa using hu
        · cases hu
      have hr := run_append_grow (P := P) w t ty E i z ht hi z1 ⟨g', 0, none⟩ l c us hlen holds ⟨g, off, none⟩ n2 c2 vs hl hvs' (by omega) (by omega) (growslice_fits (by omega) hb)
      have hgr := grown c (by omega)
      exact ⟨_, _, _, [w.heap.size], hr, rfl, rfl, rfl, Nat.le_succ _, hsz _, hold _, hgr, by simp, hnewb _⟩

theorem Sem.run_store1 {P : Program} {α : Type} {a : Addr} {u v : Value} {w : World} {md : Mode} {k : Go.Sem α} (hv : v.oneCell' = true) (hc : w.cell? a = some u) (hf : w.frozen? a = false) : (Go.Sem.store md a v k).run P w = k.run P (w.setCell a v) := by
  cases v <;> simp_all [Go.Sem.run, Value.oneCell']

theorem run_storeVar1 {P : Program} {t : TypeId} {d : TypeDesc} {z : Value} {by_ : Nat} {a : Addr} {u v : Value} {w : World} (ht : TI P t d z 1 by_) (hv : v.oneCell' = true) (hc : w.cell? a = some u) (hf : w.frozen? a = false) :
    (storeVar t a v).run P w = .ok () (w.setCell a v) := by
  have e2 := ht.sizeOf w
  have ea : a.add 0 = a := by simp [Addr.add]
  cases v <;> simp_all [storeVar, Value.cells, Value.oneCell', storeCells, store, Go.Sem.run, go_sem]

namespace Hv
variable {P : Program} {m : List (Nat × Value)} {t E : TypeId} {x y : Operand} {v : Value} {w0 w : World} {μ : Mem} {L : List Own}

theorem box (hS : St w0 w μ L) (hx : ev m x = some v) : Hv P m (.box E x) w (fun u w' => ∃ b, u = .pointer (some ⟨b, 0, none⟩) ∧ w.heap.size ≤ b ∧ St w0 w' μ (Own.obj b v.cells.toList E :: L)) :=
  .of_run fun ρ ha o ho => ⟨.pointer (some ⟨w.heap.size, 0, none⟩), w.alloc (.cells v.cells E), by
    simp [execOp, ho, ha _ _ hx, Instr.box, newVar, newRow, newObj, go_sem, Sem.run], w.heap.size, rfl, Nat.le_refl _, by have := hS.alloc v.cells.toList E; simpa using this⟩

theorem alloc {d : TypeDesc} {z : Value} {sz by_ : Nat} (hE : TI P E d z sz by_) (hS : St w0 w μ L) : Hv P m (.alloc E) w (fun u w' => ∃ b, u = .pointer (some ⟨b, 0, none⟩) ∧ w.heap.size ≤ b ∧ St w0 w' μ (Own.obj b z.cells.toList E :: L)) :=
  .of_run fun ρ ha o ho => ⟨.pointer (some ⟨w.heap.size, 0, none⟩), w.alloc (.cells z.cells E), by
    simp [execOp, ho, Instr.alloc, newVar, newRow, newObj, hE.zeroValue w, go_sem, Sem.run], w.heap.size, rfl, Nat.le_refl _, by have := hS.alloc z.cells.toList E; simpa using this⟩

/-- A literal: what the run lays is told by a closed fact. -/
theorem buildSlice {len : Nat} {parts : Array (Nat × Operand)} {ps : List (Nat × Value)} {cs : List Value} (hS : St w0 w μ L) (hps : ∀ ρ, Ev m ρ → (parts.map fun p => (p.1, ρ p.2)) = ps.toArray)
    (hrun : ∀ w, (Instr.buildSlice t len ps.toArray).run P w = .ok (.slice (some ⟨w.heap.size, 0, none⟩) len len) (w.alloc (.cells cs.toArray E))) :
    Hv P m (.buildSlice t len parts) w (fun u w' => ∃ b, u = .slice (some ⟨b, 0, none⟩) len len ∧ w.heap.size ≤ b ∧ St w0 w' μ (Own.obj b cs E :: L)) :=
  .of_run fun ρ ha o ho => ⟨_, _, by
    have e := hps ρ ha
    have h := hrun w
    have h2 : (execOp ρ o) = (Instr.buildSlice t len (parts.map fun p => (p.1, ρ p.2)) >>= fun v => pure (Next.value v)) := by simp only [execOp, ho]
    rw [h2, e, Sem.run_bind, h]; rfl, w.heap.size, rfl, Nat.le_refl _, hS.alloc cs E⟩

theorem makeSlice {d : TypeDesc} {z : Value} {sz by_ : Nat} {kl : IntKind} {n : Nat} {p q : Int} (ht : P.underlying t = some (.slice E)) (hE : TI P E d z sz by_) (hS : St w0 w μ L)
    (hx : ev m x = some (.int kl p)) (hy : ev m y = some (.int kl q)) (hp : p = (n : Int)) (hq : q = (n : Int)) (hb : by_ * n ≤ 281474976710656) (hm : n ≤ maxLen) :
    Hv P m (.makeSlice t x y) w (fun u w' => ∃ b, u = .slice (some ⟨b, 0, none⟩) n n ∧ w.heap.size ≤ b ∧ St w0 w' μ (Own.sl (some ⟨b, 0, none⟩) n n E sz (madeCells z.cells (n * sz)).toList :: L)) :=
  .of_run fun ρ ha o ho => by
    subst hp; subst hq
    obtain ⟨i, hi, h1, h2, h3⟩ := hE.info
    obtain rfl := h3
    obtain ⟨w', hr, hown, hg⟩ := run_make_full (P := P) w w.heap.size t E i z sz ht hi h1 h2 kl kl n hb hm (Nat.le_refl _)
    refine ⟨_, w', by simp [execOp, ho, ha _ _ hx, ha _ _ hy, hr, go_sem], w.heap.size, rfl, Nat.le_refl _, ?_⟩
    have hr2 := run_make (P := P) w t E i z ht hi h1 kl kl (n : Int) (n : Int) (by omega) (Int.le_refl _) (by have e : ((i.bytes * n : Nat) : Int) = (i.bytes : Int) * (n : Int) := Int.natCast_mul _ _; omega) (by have hm := hm; simp only [maxLen] at hm; omega)
    have hdr : w.drawn ≤ w'.drawn := by rw [hr] at hr2; have := (Result.ok.inj hr2).2; rw [this]; exact Nat.le_refl _
    have hbel : Bel w.heap.size w w' := ⟨⟨hg.os, hg.tape, hg.output, hg.size, fun k hk => hg.block k hk (by simp)⟩, hdr⟩
    obtain ⟨e1, e2⟩ := hown
    rcases e2 with ⟨e2, _⟩ | ⟨g, cap, cur, hv, hb', hh, a1, a2, a3, a4⟩
    · cases e2
    · simp only [Value.slice.injEq, Option.some.injEq, Addr.mk.injEq, and_true, true_and] at hv
      obtain ⟨rfl, rfl⟩ := hv
      refine hS.add hbel _ (bs := [w.heap.size]) ⟨e1, .inr ⟨_, cur, rfl, rfl, hh, a1, a2, a3, a4⟩⟩ (by simp) (fun b hb => ?_)
      obtain rfl : b = w.heap.size := by simpa using hb
      exact ⟨Nat.le_refl _, (Array.getElem?_eq_some_iff.1 hh).1⟩

/-- append to a slice of the call's own. -/
theorem append {o' : Call} {k : Nat} {d : TypeDesc} {z : Value} {sz by_ : Nat} {ad : Option Addr} {l c : Nat} {us : List Value} {g off n2 c2 : Nat} {vs : List Value}
    (ho' : o' = { callee := .builtin .append, args := #[x, y], argTypes := #[t, t] }) (ht : P.underlying t = some (.slice E)) (hE : TI P E d z sz by_) (hz : z.cells.size = sz)
    (hS : St w0 w μ L) (hk : L[k]? = some (Own.sl ad l c E sz us)) (hx : ev m x = some (.slice ad l c)) (hy : ev m y = some (.slice (some ⟨g, off, none⟩) n2 c2))
    (hl : vs.length = n2 * sz) (hvs : ∀ j u, vs[j]? = some u → w.cell? ⟨g, off + j, none⟩ = some u) (h1 : ∀ u ∈ vs, u.oneCell' = true)
    (h63 : l + n2 ≤ maxLen) (hb : (l + n2) * by_ ≤ 140737488355328) :
    Hv P m (.call o') w (fun u w' => ∃ ad' c', u = .slice ad' (l + n2) c' ∧ St w0 w' μ (L.set k (Own.sl ad' (l + n2) c' E sz (us ++ vs)))) :=
  .of_run fun ρ ha o ho => by
    subst ho'
    obtain ⟨bs, hφ, hnd, hin, hstep⟩ := hS.turn hk
    obtain ⟨ad', c', w', bs', hr, e1, e2, e3, e9, e4, e5, e6, e7, e8⟩ := run_append_sl (ty := o.type) (c2 := c2) ht hE hz hφ hl hvs h1 h63 hb
    refine ⟨_, w', by simp only [execOp, ho, resolve, invoke, builtin, Sem.run_bind, Sem.run_pure, Result.andThen_ok, List.map_toArray, List.map_cons, List.map_nil, ha _ _ hx, ha _ _ hy, hr], ad', c', rfl, ?_⟩
    exact hstep w' _ bs' e1 e2 e3 e9 e4 e5 e6 e7 e8

theorem storeObj {k b off : Nat} {d : TypeDesc} {z : Value} {by_ : Nat} {cs : List Value} (ht : TI P t d z 1 by_) (hS : St w0 w μ L) (hk : L[k]? = some (Own.obj b cs E)) (hx : ev m x = some (.pointer (some ⟨b, off, none⟩)))
    (hy : ev m y = some v) (hv : v.oneCell' = true) (ho : off < cs.length) :
    Hv P m (.store t x y) w (fun _ w' => St w0 w' μ (L.set k (Own.obj b (cs.set off v) E))) :=
  .of_skip fun ρ ha o hop => by
    obtain ⟨bs, _, hb⟩ := hS.rd.get hk
    have hc : w.cell? ⟨b, off, none⟩ = some (cs[off]) := by rw [cell_of_heap hb]; simp [ho]
    have hf : w.frozen? ⟨b, off, none⟩ = false := by have hb' : w.heap[b]? = some (.cells cs.toArray E (0, 0)) := hb; simp [World.frozen?, hb']
    refine ⟨w.setCell ⟨b, off, none⟩ v, ?_, hS.set_obj hk off v⟩
    simp only [execOp, hop, ha _ _ hx, ha _ _ hy, Instr.storeAt, Instr.sureAddr, Sem.run_bind, Sem.run_pure, Result.andThen_ok, run_storeVar1 ht hv hc hf]

theorem storeSl {k off g l c : Nat} {d : TypeDesc} {z : Value} {sz by_ : Nat} {us : List Value} (ht : TI P t d z 1 by_) (hS : St w0 w μ L) (hk : L[k]? = some (Own.sl (some ⟨g, 0, none⟩) l c E sz us)) (hx : ev m x = some (.pointer (some ⟨g, off, none⟩)))
    (hy : ev m y = some v) (hv : v.oneCell' = true) (ho : off < us.length) :
    Hv P m (.store t x y) w (fun _ w' => St w0 w' μ (L.set k (Own.sl (some ⟨g, 0, none⟩) l c E sz (us.set off v)))) :=
  .of_skip fun ρ ha o hop => by
    have hc : w.cell? ⟨g, off, none⟩ = some (us[off]) := Rd.sl hk (List.getElem?_eq_getElem ho) w hS.rd
    have hf : w.frozen? ⟨g, off, none⟩ = false := by
      obtain ⟨bs, _, hb⟩ := hS.rd.get hk
      rcases hb with ⟨hb, _⟩ | ⟨g', cur, hg, _, hh, _⟩
      · cases hb
      · cases hg
        have hb' : w.heap[g]? = some (.cells cur E (0, 0)) := hh
        simp [World.frozen?, hb']
    refine ⟨w.setCell ⟨g, off, none⟩ v, ?_, hS.set_sl hk off v⟩
    simp only [execOp, hop, ha _ _ hx, ha _ _ hy, Instr.storeAt, Instr.sureAddr, Sem.run_bind, Sem.run_pure, Result.andThen_ok, run_storeVar1 ht hv hc hf]
end Hv
end Go.Proofs.Ytgnpjhellmfhoaa.Sy
