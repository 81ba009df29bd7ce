import Derived.Test.YtgbdfgifgngijaaL4
import Derived.Maps.Range

/-
  Maps of the call's own: made, looked up, written, ranged over.
-/
namespace Go.Proofs.Ytgbdfgifgngijaa.Sy
open Go.RowKit Go.Maps Go.MapKept Go.ChangeMaps

section
variable {α β : Type} [DecidableEq α]
/-- A map as a list of its entries, in the order in which they came. -/
def aget : List (α × β) → α → Option β
  | [], _ => none
  | (k, v) :: r, a => if k = a then some v else aget r a
def aset : List (α × β) → α → β → List (α × β)
  | [], a, b => [(a, b)]
  | (k, v) :: r, a, b => if k = a then (a, b) :: r else (k, v) :: aset r a b

theorem aget_none : ∀ {kv : List (α × β)} {a : α}, (∀ p ∈ kv, p.1 ≠ a) → aget kv a = none
  | [], _, _ => rfl
  | (k, v) :: r, a, h => by
    simp only [aget, if_neg (h (k, v) (List.mem_cons_self ..))]
    exact aget_none fun p hp => h p (List.mem_cons_of_mem _ hp)
theorem aget_at : ∀ {kv : List (α × β)} {a : α} {b : β} {j : Nat}, (kv.map Prod.fst).Nodup → kv[j]? = some (a, b) → aget kv a = some b
  | [], _, _, _, _, h => by simp at h
  | (k, v) :: r, a, b, 0, _, h => by
    simp only [List.getElem?_cons_zero, Option.some.injEq, Prod.mk.injEq] at h
    simp [aget, h.1, h.2]
  | (k, v) :: r, a, b, j + 1, hn, h => by
    simp only [List.map_cons, List.nodup_cons] at hn
    simp only [List.getElem?_cons_succ] at h
    have hne : k ≠ a := fun e => hn.1 (List.mem_map.2 ⟨(a, b), List.mem_of_getElem? h, e.symm⟩)
    simp only [aget, if_neg hne]
    exact aget_at hn.2 h
theorem aset_new : ∀ {kv : List (α × β)} {a : α} {b : β}, (∀ p ∈ kv, p.1 ≠ a) → aset kv a b = kv ++ [(a, b)]
  | [], _, _, _ => rfl
  | (k, v) :: r, a, b, h => by
    simp only [aset, if_neg (h (k, v) (List.mem_cons_self ..)), List.cons_append]
    rw [aset_new fun p hp => h p (List.mem_cons_of_mem _ hp)]
theorem aset_at : ∀ {kv : List (α × β)} {a : α} {b c : β} {j : Nat}, (kv.map Prod.fst).Nodup → kv[j]? = some (a, c) → aset kv a b = kv.set j (a, b)
  | [], _, _, _, _, _, h => by simp at h
  | (k, v) :: r, a, b, c, 0, _, h => by
    simp only [List.getElem?_cons_zero, Option.some.injEq, Prod.mk.injEq] at h
    simp [aset, h.1]
  | (k, v) :: r, a, b, c, j + 1, hn, h => by
    simp only [List.map_cons, List.nodup_cons] at hn
    simp only [List.getElem?_cons_succ] at h
    have hne : k ≠ a := fun e => hn.1 (List.mem_map.2 ⟨(a, c), List.mem_of_getElem? h, e.symm⟩)
    simp only [aset, if_neg hne, List.set_cons_succ]
    rw [aset_at hn.2 h]
end

theorem erase_perm {γ : Type} : ∀ {l : List γ} {j : Nat} {x : γ}, l[j]? = some x → (x :: l.eraseIdx j).Perm l
  | [], _, _, h => by simp at h
  | y :: r, 0, x, h => by
    obtain rfl : y = x := by simpa using h
    exact List.Perm.refl _
  | y :: r, j + 1, x, h => by
    rw [List.eraseIdx_cons_succ]
    exact (List.Perm.swap y x _).trans ((erase_perm (by simpa using h)).cons y)

/-- How keys are written. -/
structure EncK {α : Type} (P : Program) (k : TypeId) (ek : α → Value) : Prop where
  keyed : Keyed P k
  key : ∀ a, ∃ l, keyOf P k (ek a) = some l
  inj : ∀ a b, ek a = ek b → a = b

section
variable {α β : Type}
def pairV (ek : α → Value) (ev : β → Value) (p : α × β) : Value × Value := (ek p.1, ev p.2)
def entV (e : MapEntry) : Value × Value := (e.key, e.val)
structure MapAt (ek : α → Value) (ev : β → Value) (kv : List (α × β)) (es : Array MapEntry) (clock : Nat) : Prop where
  eq : es.toList.map entV = kv.map (pairV ek ev)
  stamped : Stamped es clock

theorem MapAt.nodup {ek : α → Value} {ev : β → Value} {kv : List (α × β)} {es : Array MapEntry} {clock : Nat} (h : MapAt ek ev kv es clock) : (kv.map Prod.fst).Nodup := by
  have h3 := h.stamped.2.2
  have e1 : es.toList.map (·.key) = (kv.map Prod.fst).map ek := by
    have := congrArg (List.map Prod.fst) h.eq
    simpa [List.map_map, Function.comp_def, entV, pairV] using this
  rw [e1] at h3
  exact (List.pairwise_map.1 h3).imp fun hne e => hne (by rw [e])
theorem MapAt.len {ek : α → Value} {ev : β → Value} {kv : List (α × β)} {es : Array MapEntry} {clock : Nat} (h : MapAt ek ev kv es clock) : es.size = kv.length := by
  have := congrArg List.length h.eq
  simpa using this
theorem MapAt.get {ek : α → Value} {ev : β → Value} {kv : List (α × β)} {es : Array MapEntry} {clock : Nat} (h : MapAt ek ev kv es clock) {j : Nat} {e : MapEntry} (hj : es.toList[j]? = some e) : ∃ p, kv[j]? = some p ∧ e.key = ek p.1 ∧ e.val = ev p.2 := by
  have := congrArg (fun l => l[j]?) h.eq
  simp only [List.getElem?_map, hj, Option.map_some] at this
  cases hk : kv[j]? with
  | none => rw [hk] at this; cases this
  | some p =>
    rw [hk] at this
    simp only [Option.map_some, Option.some.injEq, entV, pairV, Prod.mk.injEq] at this
    exact ⟨p, rfl, this.1, this.2⟩
theorem MapAt.keys {P : Program} {k : TypeId} {ek : α → Value} {ev : β → Value} {kv : List (α × β)} {es : Array MapEntry} {clock : Nat} (h : MapAt ek ev kv es clock) (hK : EncK P k ek) : ∀ e ∈ es.toList, ∃ l, keyOf P k e.key = some l := fun e he => by
  obtain ⟨j, hj, rfl⟩ := List.getElem_of_mem he
  obtain ⟨p, _, h1, _⟩ := h.get (List.getElem?_eq_getElem hj)
  rw [h1]; exact hK.key _
theorem MapAt.absent {ek : α → Value} {ev : β → Value} {kv : List (α × β)} {es : Array MapEntry} {clock : Nat} (h : MapAt ek ev kv es clock) {a : α} (hno : ∀ e ∈ es.toList, e.key ≠ ek a) : ∀ p ∈ kv, p.1 ≠ a := fun p hp e => by
  have : pairV ek ev p ∈ kv.map (pairV ek ev) := List.mem_map.2 ⟨p, hp, rfl⟩
  rw [← h.eq] at this
  obtain ⟨x, hx, hxe⟩ := List.mem_map.1 this
  simp only [entV, pairV, Prod.mk.injEq] at hxe
  exact hno x hx (by rw [hxe.1, e])

def Own.mp (ek : α → Value) (ev : β → Value) (b : Nat) (kv : List (α × β)) : Own :=
  ⟨fun bs h => bs = [b] ∧ ∃ es clock, h b = some (.map es clock) ∧ MapAt ek ev kv es clock,
    fun bs h h' ⟨e, es, clock, hb, r⟩ hh => ⟨e, es, clock, by rw [hh b (by simp [e])]; exact hb, r⟩⟩

variable {P : Program} {m : List (Nat × Value)} {t k e : TypeId} {x y z : Operand} {w0 w : World} {μ : Mem} {L : List Own} {ek : α → Value} {ev : β → Value} {b i : Nat} {kv : List (α × β)}

theorem setBlock_same {w : World} {b : Nat} {o o' : Obj} (hb : w.heap[b]? = some o) : (setBlock w b o').heap[b]? = some o' := by
  have := (Array.getElem?_eq_some_iff.1 hb).1
  simp [setBlock, this]
theorem setBlock_other {w : World} {b c : Nat} {o' : Obj} (hc : c ≠ b) : (setBlock w b o').heap[c]? = w.heap[c]? := by
  simp [setBlock, Ne.symm hc]

theorem Hv.makeMap (ek : α → Value) (ev : β → Value) (hS : St w0 w μ L) : Hv P m (.makeMap t none) w (fun u w' => ∃ b, u = .map (some b) ∧ w.heap.size ≤ b ∧ St w0 w' μ (Own.mp ek ev b [] :: L)) :=
  .of_run fun ρ ha o ho => ⟨.map (some w.heap.size), w.alloc (.map #[] 0), by
    have := run_makeMap (P := P) t w
    simp [execOp, ho, this, go_sem], w.heap.size, rfl, Nat.le_refl _, hS.add ((Bel.refl _ _).alloc (Nat.le_refl _) _) (Own.mp ek ev w.heap.size []) (bs := [w.heap.size])
      ⟨rfl, #[], 0, heap_alloc w _, rfl, stamped_empty 0⟩ (by simp) (fun b hb => by
      obtain rfl : b = w.heap.size := by simpa using hb
      rw [size_alloc]; omega)⟩

/-- m[k] = v -/
theorem Hv.mapUpdate [DecidableEq α] {a : α} {c : β} (ht : P.underlying t = some (.map k e)) (hK : EncK P k ek) (i : Nat) (hS : St w0 w μ L) (hi : L[i]? = some (Own.mp ek ev b kv)) (hx : Sy.ev m x = some (.map (some b))) (hy : Sy.ev m y = some (ek a)) (hz : Sy.ev m z = some (ev c)) :
    Hv P m (.mapUpdate t x y z) w (fun _ w' => St w0 w' μ (L.set i (Own.mp ek ev b (aset kv a c)))) :=
  .of_skip fun ρ ha o ho => by
    obtain ⟨bs, ⟨rfl, es, clock, hb, hM⟩, _, _, hstep⟩ := hS.turn hi
    have hb' : w.heap[b]? = some (.map es clock) := hb
    obtain ⟨l, hl⟩ := hK.key a
    have fin : ∀ es' clock', MapAt ek ev (aset kv a c) es' clock' → St w0 (setBlock w b (.map es' clock')) μ (L.set i (Own.mp ek ev b (aset kv a c))) := fun es' clock' h' =>
      hstep _ _ [b] rfl rfl rfl (Nat.le_refl _) (by simp [setBlock]) (fun c hc hne => setBlock_other (by simpa using hne)) ⟨rfl, es', clock', setBlock_same hb', h'⟩ (by simp) (fun x hx => .inl hx)
    rcases hK.keyed.find w hl es.toList (hM.keys hK) with ⟨h1, h2⟩ | ⟨j, e0, h1, h2, h3⟩
    · refine ⟨_, ?_, fin (es.push ⟨ek a, ev c, clock⟩) (clock + 1) ⟨?_, stamped_push hM.stamped h2⟩⟩
      · simp only [execOp, ho, ha _ _ hx, ha _ _ hy, ha _ _ hz]
        simp [Instr.mapUpdate, run_underlying ht, MapKept.run_getObj_map hb', hK.keyed.check w false hl, h1, MapKept.run_setObj_map _ hb', Result.andThen, setBlock, go_sem]
      · rw [aset_new (hM.absent h2), Array.toList_push, List.map_append, List.map_append, hM.eq]; rfl
    · obtain ⟨p, hp, p1, p2⟩ := hM.get h2
      have hpa : p.1 = a := hK.inj _ _ (by rw [← p1, h3])
      have hj : es[j]? = some e0 := by simpa using h2
      have hjl : j < es.toList.length := (List.getElem?_eq_some_iff.1 h2).1
      have hlist : (es.modify j (fun e' => { e' with key := ek a, val := ev c })).toList = es.toList.set j { e0 with key := ek a, val := ev c } := by rw [Array.toList_modify, modify_eq_set _ _ _ _ h2]
      refine ⟨_, ?_, fin (es.modify j (fun e' => { e' with key := ek a, val := ev c })) clock ⟨?_, stamped_modify hM.stamped _ _ (fun _ _ => rfl) (fun e' _ he' => ?_)⟩⟩
      · simp only [execOp, ho, ha _ _ hx, ha _ _ hy, ha _ _ hz]
        simp [Instr.mapUpdate, run_underlying ht, MapKept.run_getObj_map hb', hK.keyed.check w false hl, h1, hj, h3, hK.keyed.stays w hl, MapKept.run_setObj_map _ hb', Result.andThen, setBlock, go_sem]
      · have hp' : kv[j]? = some (a, p.2) := by rw [hp, ← hpa]
        rw [hlist, aset_at hM.nodup hp', List.map_set, List.map_set, hM.eq]; rfl
      · rw [hj] at he'; cases he'; exact h3.symm

/-- m[k] -/
theorem Ex.lookup1 [DecidableEq α] {a : α} {zv : Value} {d : TypeDesc} {sz by_ : Nat} (ht : P.underlying t = some (.map k e)) (he : TI P e d zv sz by_) (hK : EncK P k ek) (i : Nat) (hi : L[i]? = some (Own.mp ek ev b kv)) (hx : Sy.ev m x = some (.map (some b))) (hy : Sy.ev m y = some (ek a)) :
    Ex P (Rd μ L) m (.lookup t x y false) (match aget kv a with | some v => ev v | none => zv) := fun ρ ha w hR o ho => by
  obtain ⟨bs, rfl, es, clock, hb, hM⟩ := hR.get hi
  have hb' : w.heap[b]? = some (.map es clock) := hb
  obtain ⟨l, hl⟩ := hK.key a
  rcases hK.keyed.find w hl es.toList (hM.keys hK) with ⟨h1, h2⟩ | ⟨j, e0, h1, h2, h3⟩
  · rw [aget_none (hM.absent h2)]
    simp [execOp, ho, ha _ _ hx, ha _ _ hy, Instr.lookup, run_underlying ht, MapKept.run_getObj_map hb', hK.keyed.check w _ hl, h1, he.zeroValue, Result.andThen, go_sem]
  · obtain ⟨p, hp, p1, p2⟩ := hM.get h2
    have hpa : p.1 = a := hK.inj _ _ (by rw [← p1, h3])
    rw [aget_at (j := j) (b := p.2) hM.nodup (by rw [hp, ← hpa])]
    simp [execOp, ho, ha _ _ hx, ha _ _ hy, Instr.lookup, run_underlying ht, MapKept.run_getObj_map hb', hK.keyed.check w _ hl, h1, p2, Result.andThen, go_sem]
theorem Ex.lookup1_some [DecidableEq α] {a : α} {v : β} {d : TypeDesc} {zv : Value} {sz by_ : Nat} (ht : P.underlying t = some (.map k e)) (he : TI P e d zv sz by_) (hK : EncK P k ek) (i : Nat) (hi : L[i]? = some (Own.mp ek ev b kv)) (hx : Sy.ev m x = some (.map (some b))) (hy : Sy.ev m y = some (ek a)) (hg : aget kv a = some v) :
    Ex P (Rd μ L) m (.lookup t x y false) (ev v) := by
  have := Ex.lookup1 (P := P) (m := m) (μ := μ) (a := a) ht he hK i hi hx hy
  rw [hg] at this; exact this

/-- v, ok := m[k] -/
theorem Ex.lookupOk [DecidableEq α] {a : α} {zv : Value} {d : TypeDesc} {sz by_ : Nat} (ht : P.underlying t = some (.map k e)) (he : TI P e d zv sz by_) (hK : EncK P k ek) (i : Nat) (hi : L[i]? = some (Own.mp ek ev b kv)) (hx : Sy.ev m x = some (.map (some b))) (hy : Sy.ev m y = some (ek a)) :
    Ex P (Rd μ L) m (.lookup t x y true) (match aget kv a with | some v => .tuple #[ev v, .bool true] | none => .tuple #[zv, .bool false]) := fun ρ ha w hR o ho => by
  obtain ⟨bs, rfl, es, clock, hb, hM⟩ := hR.get hi
  have hb' : w.heap[b]? = some (.map es clock) := hb
  obtain ⟨l, hl⟩ := hK.key a
  rcases hK.keyed.find w hl es.toList (hM.keys hK) with ⟨h1, h2⟩ | ⟨j, e0, h1, h2, h3⟩
  · rw [aget_none (hM.absent h2)]
    simp [execOp, ho, ha _ _ hx, ha _ _ hy, Instr.lookup, run_underlying ht, MapKept.run_getObj_map hb', hK.keyed.check w _ hl, h1, he.zeroValue, Result.andThen, go_sem]
  · obtain ⟨p, hp, p1, p2⟩ := hM.get h2
    have hpa : p.1 = a := hK.inj _ _ (by rw [← p1, h3])
    rw [aget_at (j := j) (b := p.2) hM.nodup (by rw [hp, ← hpa])]
    simp [execOp, ho, ha _ _ hx, ha _ _ hy, Instr.lookup, run_underlying ht, MapKept.run_getObj_map hb', hK.keyed.check w _ hl, h1, p2, Result.andThen, go_sem]

theorem Ex.lookup_some [DecidableEq α] {a : α} {v : β} {d : TypeDesc} {zv : Value} {sz by_ : Nat} (ht : P.underlying t = some (.map k e)) (he : TI P e d zv sz by_) (hK : EncK P k ek) (i : Nat) (hi : L[i]? = some (Own.mp ek ev b kv)) (hx : Sy.ev m x = some (.map (some b))) (hy : Sy.ev m y = some (ek a)) (hg : aget kv a = some v) :
    Ex P (Rd μ L) m (.lookup t x y true) (.tuple #[ev v, .bool true]) := by
  have := Ex.lookupOk (P := P) (m := m) (μ := μ) (a := a) ht he hK i hi hx hy
  rw [hg] at this; exact this
theorem Ex.lookup_none [DecidableEq α] {a : α} {d : TypeDesc} {zv : Value} {sz by_ : Nat} (ht : P.underlying t = some (.map k e)) (he : TI P e d zv sz by_) (hK : EncK P k ek) (i : Nat) (hi : L[i]? = some (Own.mp ek ev b kv)) (hx : Sy.ev m x = some (.map (some b))) (hy : Sy.ev m y = some (ek a)) (hg : aget kv a = none) :
    Ex P (Rd μ L) m (.lookup t x y true) (.tuple #[zv, .bool false]) := by
  have := Ex.lookupOk (P := P) (m := m) (μ := μ) (a := a) ht he hK i hi hx hy
  rw [hg] at this; exact this
theorem aset_len [DecidableEq α] : ∀ (kv : List (α × β)) (a : α) (c : β), (aset kv a c).length ≤ kv.length + 1
  | [], _, _ => by simp [aset]
  | (k, v) :: r, a, c => by
    have := aset_len r a c
    simp only [aset]
    split <;> simp <;> omega
theorem aget_aset [DecidableEq α] : ∀ (kv : List (α × β)) (a x : α) (c : β), aget (aset kv a c) x = if a = x then some c else aget kv x
  | [], a, x, c => by simp [aset, aget]
  | (k, v) :: r, a, x, c => by
    by_cases h : k = a
    · subst h; simp only [aset, if_true, aget]; split <;> rfl
    · simp only [aset, if_neg h, aget, aget_aset r]
      by_cases h2 : k = x
      · subst h2; simp [Ne.symm h]
      · simp [h2]

/-- The map, and an iterator over it: what is still to come; the entry that came last. -/
def Own.rng (ek : α → Value) (ev : β → Value) (b r : Nat) (kv left : List (α × β)) (cur : Option (α × β)) : Own :=
  ⟨fun bs h => bs = [b, r] ∧ b ≠ r ∧ ∃ es clock since seen c0, h b = some (.map es clock) ∧ h r = some (.mapIter (some b) since seen c0) ∧ MapAt ek ev kv es clock ∧ (∀ x ∈ es.toList, x.born < since) ∧ since ≤ c0 ∧ since ≤ clock ∧
      (leftOf es seen).toList.map entV = left.map (pairV ek ev) ∧ ∀ p, cur = some p → ∃ en ∈ es.toList, entV en = pairV ek ev p ∧ c0 = clock ∧ ∃ seen0 : Array Nat, seen = seen0.push en.born,
    fun bs h h' ⟨e, hne, es, clock, since, seen, c0, hb, hr, rest⟩ hh => ⟨e, hne, es, clock, since, seen, c0, by rw [hh b (by simp [e])]; exact hb, by rw [hh r (by simp [e])]; exact hr, rest⟩⟩

theorem Hv.range (ht : P.underlying t = some (.map k e)) (i : Nat) (hS : St w0 w μ L) (hi : L[i]? = some (Own.mp ek ev b kv)) (hx : Sy.ev m x = some (.map (some b))) :
    Hv P m (.range t x) w (fun u w' => ∃ r, u = .pointer (some ⟨r, 0, none⟩) ∧ w.heap.size ≤ r ∧ St w0 w' μ (L.set i (Own.rng ek ev b r kv kv none))) :=
  .of_run fun ρ ha o ho => by
    obtain ⟨bs, ⟨rfl, es, clock, hb, hM⟩, _, hin, hstep⟩ := hS.turn hi
    have hb' : w.heap[b]? = some (.map es clock) := hb
    have hlt := (Array.getElem?_eq_some_iff.1 hb').1
    have hr := run_range_map (P := P) w t k e b es clock ht hb'
    refine ⟨.pointer (some ⟨w.heap.size, 0, none⟩), w.alloc (.mapIter (some b) clock #[] clock), by simp [execOp, ho, ha _ _ hx, hr, go_sem], w.heap.size, rfl, Nat.le_refl _, ?_⟩
    refine hstep _ _ [b, w.heap.size] rfl rfl rfl (Nat.le_refl _) (by rw [size_alloc]; omega) (fun c hc _ => Below.heap_alloc w _ c hc) ⟨rfl, by omega, es, clock, clock, #[], clock, (Below.heap_alloc w _ b hlt).trans hb', heap_alloc w _, hM, hM.stamped.1, Nat.le_refl _, Nat.le_refl _, ?_, fun p hp => by cases hp⟩ (by simp; omega) (fun c hc => ?_)
    · have : leftOf es #[] = es := by simp [leftOf]
      rw [this]; exact hM.eq
    · simp only [List.mem_cons, List.not_mem_nil, or_false] at hc ⊢
      rcases hc with hc | hc
      · exact .inl hc
      · rw [size_alloc]; omega

theorem leftOf_push (es : Array MapEntry) (seen : Array Nat) (n : Nat) : (leftOf es (seen.push n)).toList = (leftOf es seen).toList.filter fun e => e.born != n := by
  unfold leftOf
  simp only [Array.toList_filter, List.filter_filter]
  congr 1
  funext e
  simp only [Array.contains_push, Bool.not_or, bne]
  cases hs : seen.contains e.born <;> cases hn : (e.born == n) <;> simp_all
theorem filter_ne_erase : ∀ {l : List MapEntry} {j : Nat} {e : MapEntry}, (l.map (·.born)).Nodup → l[j]? = some e → (l.filter fun x => x.born != e.born) = l.eraseIdx j
  | [], _, _, _, h => by simp at h
  | y :: r, 0, e, hn, h => by
    obtain rfl : y = e := by simpa using h
    simp only [List.map_cons, List.nodup_cons] at hn
    rw [List.filter_cons_of_neg (by simp), List.eraseIdx_cons_zero, List.filter_eq_self]
    intro x hx
    have : x.born ≠ y.born := fun e => hn.1 (List.mem_map.2 ⟨x, hx, e⟩)
    simpa using this
  | y :: r, j + 1, e, hn, h => by
    simp only [List.map_cons, List.nodup_cons] at hn
    simp only [List.getElem?_cons_succ] at h
    have hne : y.born ≠ e.born := fun e1 => hn.1 (List.mem_map.2 ⟨e, List.mem_of_getElem? h, e1.symm⟩)
    rw [List.filter_cons_of_pos (by simpa using hne), filter_ne_erase hn.2 h, List.eraseIdx_cons_succ]
theorem map_eraseIdx' {γ δ : Type} (f : γ → δ) (l : List γ) (j : Nat) : (l.eraseIdx j).map f = (l.map f).eraseIdx j := map_eraseIdx f l j

theorem Hv.next_more {r : Nat} {left : List (α × β)} {cur : Option (α × β)} (i : Nat) (hS : St w0 w μ L) (hi : L[i]? = some (Own.rng ek ev b r kv left cur)) (hx : Sy.ev m x = some (.pointer (some ⟨r, 0, none⟩))) (hl : left ≠ []) :
    Hv P m (.next x false) w (fun u w' => ∃ j p, left[j]? = some p ∧ u = .tuple #[.bool true, ek p.1, ev p.2] ∧ St w0 w' μ (L.set i (Own.rng ek ev b r kv (left.eraseIdx j) (some p)))) :=
  .of_run fun ρ ha o ho => by
    obtain ⟨bs, ⟨rfl, hne, es, clock, since, seen, c0, hb, hr, hM, hold, hsc, hsk, hleft, _⟩, hnd, hin, hstep⟩ := hS.turn hi
    have hb' : w.heap[b]? = some (.map es clock) := hb
    have hr' : w.heap[r]? = some (.mapIter (some b) since seen c0) := hr
    have hlen : (leftOf es seen).size = left.length := by have := congrArg List.length hleft; simpa using this
    rcases run_next_at (P := P) w o.type r b since c0 seen es clock hr' hb' hold hsc with ⟨h0, _⟩ | ⟨en, he, w1, hal, hrun⟩
    · exact absurd (List.eq_nil_of_length_eq_zero (by omega)) hl
    · obtain ⟨j, hj, hje⟩ := List.getElem_of_mem he
      have hj' : (leftOf es seen).toList[j]? = some en := by rw [List.getElem?_eq_getElem hj, hje]
      have hp : ∃ p, left[j]? = some p ∧ entV en = pairV ek ev p := by
        have := congrArg (fun l => l[j]?) hleft
        simp only [List.getElem?_map, hj', Option.map_some] at this
        cases hk : left[j]? with
        | none => rw [hk] at this; cases this
        | some p => rw [hk] at this; exact ⟨p, rfl, Option.some.inj this⟩
      obtain ⟨p, hp, hpe⟩ := hp
      have hpe' := hpe
      simp only [entV, pairV, Prod.mk.injEq] at hpe'
      have hem : en ∈ es.toList := by
        have : (leftOf es seen).toList = es.toList.filter fun e => !seen.contains e.born := by unfold leftOf; simp
        rw [this] at he; exact (List.mem_filter.1 he).1
      have hrun' : (Instr.next (.pointer (some ⟨r, 0, none⟩)) false o.type).run P w = .ok (.tuple #[.bool true, ek p.1, ev p.2]) (setBlock w1 r (.mapIter (some b) since (seen.push en.born) clock)) := by rw [hrun, hpe'.1, hpe'.2]
      have hw1 : w1.heap = w.heap := by rcases hal with rfl | rfl <;> rfl
      have hr1 : w1.heap[r]? = some (.mapIter (some b) since seen c0) := by rw [hw1]; exact hr'
      refine ⟨.tuple #[.bool true, ek p.1, ev p.2], setBlock w1 r (.mapIter (some b) since (seen.push en.born) clock), by simp [execOp, ho, ha _ _ hx, hrun', go_sem], j, p, hp, rfl, ?_⟩
      refine hstep _ _ [b, r] (by rcases hal with rfl | rfl <;> rfl) (by rcases hal with rfl | rfl <;> rfl) (by rcases hal with rfl | rfl <;> rfl) (by rcases hal with rfl | rfl <;> first | exact Nat.le_refl _ | exact Nat.le_succ _) (by simp [setBlock, hw1]) (fun c hc hcn => ?_)
        ⟨rfl, hne, es, clock, since, seen.push en.born, clock, ?_, setBlock_same hr1, hM, hold, hsk, hsk, ?_, fun q hq => ?_⟩ (by simpa using hne) (fun c hc => .inl hc)
      · simp only [List.mem_cons, List.not_mem_nil, or_false, not_or] at hcn
        rw [setBlock_other hcn.2, hw1]
      · show (setBlock w1 r _).heap[b]? = _
        rw [setBlock_other hne, hw1]; exact hb'
      · have hborn : ((leftOf es seen).toList.map (·.born)).Nodup := by
          have : (leftOf es seen).toList = es.toList.filter fun e => !seen.contains e.born := by unfold leftOf; simp
          rw [this]
          exact (List.Sublist.map _ List.filter_sublist).nodup hM.stamped.2.1
        rw [leftOf_push, filter_ne_erase hborn hj', map_eraseIdx', map_eraseIdx', hleft]
      · cases hq
        exact ⟨en, hem, hpe, rfl, seen, rfl⟩

theorem Hv.next_done {r : Nat} {cur : Option (α × β)} (i : Nat) (hS : St w0 w μ L) (hi : L[i]? = some (Own.rng ek ev b r kv [] cur)) (hx : Sy.ev m x = some (.pointer (some ⟨r, 0, none⟩))) :
    Hv P m (.next x false) w (fun u w' => u = .tuple #[.bool false] ∧ St w0 w' μ L) :=
  .of_run fun ρ ha o ho => by
    obtain ⟨bs, rfl, hne, es, clock, since, seen, c0, hb, hr, hM, hold, hsc, hsk, hleft, _⟩ := hS.rd.get hi
    have hb' : w.heap[b]? = some (.map es clock) := hb
    have hr' : w.heap[r]? = some (.mapIter (some b) since seen c0) := hr
    have hlen : (leftOf es seen).size = 0 := by have := congrArg List.length hleft; simpa using this
    rcases run_next_at (P := P) w o.type r b since c0 seen es clock hr' hb' hold hsc with ⟨h0, hrun⟩ | ⟨en, he, w1, hal, hrun⟩
    · exact ⟨.tuple #[.bool false], w, by simp [execOp, ho, ha _ _ hx, hrun, go_sem], rfl, hS⟩
    · exact absurd (List.length_pos_of_mem he) (by simp [hlen])

theorem Ex.entry {r : Nat} {left : List (α × β)} {p : α × β} (i : Nat) (hi : L[i]? = some (Own.rng ek ev b r kv left (some p))) (hx : Sy.ev m x = some (.pointer (some ⟨r, 0, none⟩))) :
    Ex P (Rd μ L) m (.entry x) (.tuple #[ek p.1, ev p.2]) := fun ρ ha w hR o ho => by
  obtain ⟨bs, rfl, hne, es, clock, since, seen, c0, hb, hr, hM, hold, hsc, hsk, hleft, hcur⟩ := hR.get hi
  obtain ⟨en, hem, hpe, rfl, seen0, rfl⟩ := hcur p rfl
  simp only [entV, pairV, Prod.mk.injEq] at hpe
  have := run_entry_at (P := P) w r b since seen0 es c0 en hr hb hem hM.stamped.2.1
  rw [hpe.1, hpe.2] at this
  simp [execOp, ho, ha _ _ hx, this, go_sem]
end
end Go.Proofs.Ytgbdfgifgngijaa.Sy
