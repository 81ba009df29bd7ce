/-
  Literals of structs, arrays and slices; splitting at a test.
-/
import Derived.Test.YtgnpjhellmfhoaaRep
namespace Go.Proofs.Ytgnpjhellmfhoaa.Sy
open Go.RowKit

def cellsL : Value → List Value
  | .agg cs => cs.toList
  | v => [v]
theorem cellsL_eq (v : Value) : cellsL v = v.cells.toList := by cases v <;> rfl

/-- vs over cs, from place off on. -/
def setAll (cs : List Value) (off : Nat) : List Value → List Value
  | [] => cs
  | v :: r => setAll (cs.set off v) (off + 1) r
/-- The parts of a literal over the zero cells. -/
def overlay (place : Nat → Option (Nat × Nat)) (cs : List Value) : List (Nat × Value) → Option (List Value)
  | [] => some cs
  | (i, v) :: r =>
    match place i with
    | none => none
    | some (off, size) => bif Nat.beq (cellsL v).length size && Nat.ble (off + size) cs.length then overlay place (setAll cs off (cellsL v)) r else none
/-- The list, laid out. -/
def spine : List Value → Option (List Value)
  | [] => some []
  | v :: r => match spine r with
    | some l => some (v :: l)
    | none => none
theorem spine_eq : ∀ {l l' : List Value}, spine l = some l' → l' = l
  | [], _, e => (Option.some.inj e).symm
  | v :: r, l', e => by
    simp only [spine] at e
    cases h : spine r with
    | none => rw [h] at e; cases e
    | some l => rw [h] at e; obtain rfl := Option.some.inj e; rw [spine_eq h]

theorem setAll_length : ∀ (vs cs : List Value) (off : Nat), (setAll cs off vs).length = cs.length
  | [], _, _ => rfl
  | v :: r, cs, off => by rw [setAll, setAll_length r]; simp
theorem fold_setAll : ∀ (vs : List Value) (cs : Array Value) (off k : Nat),
    ((vs.zipIdx k).foldl (fun (cs : Array Value) (p : Value × Nat) => cs.setIfInBounds (off + p.2) p.1) cs).toList = setAll cs.toList (off + k) vs
  | [], _, _, _ => rfl
  | v :: r, cs, off, k => by
    simp only [List.zipIdx_cons, List.foldl_cons, setAll]
    rw [fold_setAll r _ off (k + 1)]
    simp only [Array.toList_setIfInBounds, Nat.add_assoc]
theorem fill_overlay {place : Nat → Option (Nat × Nat)} : ∀ {ps : List (Nat × Value)} {cs : Array Value} {l : List Value}, overlay place cs.toList ps = some l → Instr.fill place cs ps = some l.toArray
  | [], cs, l, e => by
    simp only [overlay, Option.some.injEq] at e
    subst e
    simp [Instr.fill]
  | (i, v) :: r, cs, l, e => by
    simp only [overlay] at e
    simp only [Instr.fill]
    cases hp : place i with
    | none => rw [hp] at e; cases e
    | some q =>
      obtain ⟨off, size⟩ := q
      rw [hp] at e
      simp only at e ⊢
      cases hb : (Nat.beq (cellsL v).length size && Nat.ble (off + size) cs.toList.length) with
      | false => rw [hb] at e; cases e
      | true =>
        rw [hb] at e
        simp only [cond_true] at e
        simp only [Bool.and_eq_true] at hb
        have h1 : v.cells.size = size := by have := Nat.eq_of_beq_eq_true hb.1; rw [cellsL_eq] at this; simpa using this
        have h2 : off + size ≤ cs.size := by simpa using Nat.le_of_ble_eq_true hb.2
        rw [if_neg (by rw [h1]; simp; omega)]
        have h3 := fold_setAll v.cells.toList cs off 0
        have h4 : (v.cells.zipIdx.foldl (fun (cs : Array Value) (p : Value × Nat) => cs.setIfInBounds (off + p.2) p.1) cs).toList = setAll cs.toList off (cellsL v) := by
          rw [cellsL_eq, ← Array.foldl_toList, Array.toList_zipIdx]
          simpa using h3
        refine fill_overlay ?_
        rw [h4]; exact e

/-- A struct type: where its fields lie, and its zero cells. -/
def StI (P : Program) (t : TypeId) (places : List (Nat × Nat)) (zs : List Value) : Prop :=
  ((P.underlying t).bind fun d => match d with | .struct fs => some (fs.toList.map fun f => (f.offset, (P.info? f.type).map (·.size))) | _ => none) = some (places.map fun p => (p.1, some p.2)) ∧
  (P.info? t).map (·.zero) = some (some (.agg zs.toArray))

theorem run_sizeOf' {P : Program} {t : TypeId} {s : Nat} (h : (P.info? t).map (·.size) = some s) (w : World) : (sizeOf t).run P w = .ok s w := by
  cases hi : P.info? t with
  | none => rw [hi] at h; cases h
  | some i => rw [hi] at h; simp only [Option.map_some, Option.some.injEq] at h; simp [sizeOf, typeInfo, program, Sem.run, hi, h, go_sem]
theorem run_zero' {P : Program} {t : TypeId} {z : Value} (h : (P.info? t).map (·.zero) = some (some z)) (w : World) : (zeroValue t).run P w = .ok z w := by
  cases hi : P.info? t with
  | none => rw [hi] at h; cases h
  | some i => rw [hi] at h; simp only [Option.map_some, Option.some.injEq] at h; simp [zeroValue, typeInfo, program, Sem.run, hi, h, go_sem]

theorem run_places {P : Program} (w : World) : ∀ (fs : List Field) (places : List (Nat × Nat)), (fs.map fun f => (f.offset, (P.info? f.type).map (·.size))) = (places.map fun p => (p.1, some p.2)) →
    (fs.mapM (m := Sem) fun f => do pure (f.offset, ← sizeOf f.type)).run P w = .ok places w
  | [], places, h => by
    cases places with
    | nil => simp [go_sem]
    | cons p r => cases h
  | f :: r, places, h => by
    cases places with
    | nil => cases h
    | cons p ps =>
      simp only [List.map_cons, List.cons.injEq, Prod.mk.injEq] at h
      obtain ⟨⟨h1, h2⟩, h3⟩ := h
      have ih := run_places w r ps h3
      simp only [List.mapM_cons, Sem.run_bind, run_sizeOf' h2, Result.andThen_ok, Sem.run_pure, ih, h1]

theorem run_build {P : Program} {t : TypeId} {places : List (Nat × Nat)} {zs vs : List Value} {ps : List (Nat × Value)} {l : List Value} (hT : StI P t places zs) (ho : overlay (fun i : Nat => places[i]?) zs ps = some l) (hs : spine l = some vs) (w : World) :
    (Instr.build t ps.toArray).run P w = .ok (.agg vs.toArray) w := by
  obtain rfl := spine_eq hs
  obtain ⟨h1, h2⟩ := hT
  cases hu : P.underlying t with
  | none => rw [hu] at h1; cases h1
  | some d =>
    rw [hu] at h1
    simp only [Option.bind_some] at h1
    cases d <;> simp only [reduceCtorEq, Option.some.injEq] at h1
    rename_i fs
    have e1 : (Go.underlying t).run P w = .ok (.struct fs) w := by simp [Go.underlying, program, Sem.run, hu, go_sem]
    have e2 := run_places (P := P) w fs.toList places h1
    have e3 : (fs.mapM (m := Sem) fun f => do pure (f.offset, ← sizeOf f.type)).run P w = .ok places.toArray w := by
      rw [Array.mapM_eq_mapM_toList]
      simp only [Sem.run_map, e2, Result.andThen_ok]
    have e4 : Instr.fill (fun i : Nat => places.toArray[i]?) zs.toArray ps = some vs.toArray := by
      have : (fun i : Nat => places.toArray[i]?) = fun i : Nat => places[i]? := by funext i; simp
      rw [this]
      exact fill_overlay (by simpa using ho)
    simp only [Instr.build, Sem.run_bind, run_zero' h2, Result.andThen_ok, e1, e3, Value.cells, e4, Sem.run_pure]

theorem Ex.buildS {P : Program} {S : World → Prop} {m : List (Nat × Value)} {t : TypeId} {parts : List (Nat × Operand)} {ps : List (Nat × Value)} {places : List (Nat × Nat)} {zs l vs : List Value} (hT : StI P t places zs) (hps : evp m parts = some ps)
    (ho : overlay (fun i : Nat => places[i]?) zs ps = some l) (hs : spine l = some vs) : Ex P S m (.build t parts.toArray) (.agg vs.toArray) := Ex.build hps (run_build hT ho hs)

/-- The zero cells of n elements. -/
def zerosL (z : List Value) : Nat → List Value
  | 0 => []
  | n + 1 => z ++ zerosL z n
theorem zerosL_length (z : List Value) : ∀ n, (zerosL z n).length = n * z.length
  | 0 => by simp [zerosL]
  | n + 1 => by simp [zerosL, zerosL_length z n, Nat.add_mul, Nat.add_comm]
theorem zerosL_get (z : List Value) (hz : 0 < z.length) : ∀ n i, i < n * z.length → (zerosL z n)[i]? = z[i % z.length]?
  | 0, i, h => by omega
  | n + 1, i, h => by
    simp only [zerosL]
    by_cases hi : i < z.length
    · rw [List.getElem?_append_left hi, Nat.mod_eq_of_lt hi]
    · have h' : i - z.length < n * z.length := by rw [Nat.add_mul, Nat.one_mul] at h; omega
      rw [List.getElem?_append_right (by omega), zerosL_get z hz n _ h']
      congr 1
      exact (Nat.mod_eq_sub_mod (by omega)).symm
theorem range_zeros (z : Array Value) (hz : 0 < z.size) (n : Nat) : ((Array.range (n * z.size)).map (fun i => z[i % z.size]!)).toList = zerosL z.toList n := by
  apply List.ext_getElem?
  intro i
  by_cases hi : i < n * z.size
  · rw [zerosL_get z.toList (by simpa using hz) n i (by simpa using hi)]
    have : i % z.size < z.size := Nat.mod_lt _ hz
    simp [hi, this]
  · have h1 : (zerosL z.toList n)[i]? = none := by rw [List.getElem?_eq_none]; rw [zerosL_length]; simpa using hi
    rw [h1]; simp; omega

theorem run_buildSlice {P : Program} {t E : TypeId} {d : TypeDesc} {z : Value} {sz by_ len : Nat} {ps : List (Nat × Value)} {l vs : List Value} (ht : P.underlying t = some (.slice E)) (hE : TI P E d z sz by_) (hz : (cellsL z).length = sz) (h0 : Nat.blt 0 sz = true)
    (hl : Nat.ble (len * sz) 16777216 = true) (ho : overlay (fun i => some (i * sz, sz)) (zerosL (cellsL z) len) ps = some l) (hs : spine l = some vs) (w : World) :
    (Instr.buildSlice t len ps.toArray).run P w = .ok (.slice (some ⟨w.heap.size, 0, none⟩) len len) (w.alloc (.cells vs.toArray E)) := by
  obtain rfl := spine_eq hs
  have e1 := run_underlying (w := w) ht
  have e2 := hE.sizeOf w
  have e3 := hE.zeroValue w
  have hl' : len * sz ≤ 16777216 := Nat.le_of_ble_eq_true hl
  have h0' : 0 < sz := Nat.le_of_ble_eq_true h0
  have hzs : z.cells.size = sz := by rw [cellsL_eq] at hz; simpa using hz
  have e4 : Instr.fill (fun i : Nat => some (i * sz, sz)) ((Array.range (len * sz)).map (fun i => z.cells[i % z.cells.size]!)) ps = some vs.toArray := by
    refine fill_overlay ?_
    have := range_zeros z.cells (by omega) len
    rw [hzs] at this
    rw [hzs, this, ← cellsL_eq]
    exact ho
  by_cases hlen : len * sz = 0
  · have hl0 : len = 0 := by rcases Nat.mul_eq_zero.1 hlen with h | h <;> omega
    subst hl0
    have e5 : Instr.fill (fun i : Nat => some (i * sz, sz)) #[] ps = some vs.toArray := by have e6 := e4; rw [Nat.zero_mul, show Array.range 0 = #[] from rfl, Array.map_empty] at e6; exact e6
    simp [Instr.buildSlice, e1, e2, e5, newRow, newObj, go_sem, Sem.run]
  · have hn : ¬ (len * sz > 16777216) := by omega
    simp only [Instr.buildSlice, Sem.run_bind, e1, Result.andThen_ok, e2, Nat.reducePow, hn, if_false, hlen, e3, Sem.run_pure, e4]
    simp [newRow, newObj, Sem.run, go_sem]

theorem Hv.buildSl {P : Program} {m : List (Nat × Value)} {t E : TypeId} {d : TypeDesc} {z : Value} {sz by_ len : Nat} {parts : List (Nat × Operand)} {ps : List (Nat × Value)} {l vs : List Value} {w0 w : World} {μ : Mem} {L : List Own}
    (hS : St w0 w μ L) (ht : P.underlying t = some (.slice E)) (hE : TI P E d z sz by_) (hz : (cellsL z).length = sz) (h0 : Nat.blt 0 sz = true) (hl : Nat.ble (len * sz) 16777216 = true)
    (hps : evp m parts = some ps) (ho : overlay (fun i => some (i * sz, sz)) (zerosL (cellsL z) len) ps = some l) (hs : spine l = some vs) :
    Hv P m (.buildSlice t len parts.toArray) w (fun u w' => ∃ b, u = .slice (some ⟨b, 0, none⟩) len len ∧ w.heap.size ≤ b ∧ St w0 w' μ (Own.obj b vs E :: L)) :=
  Hv.buildSlice hS (fun ρ ha => by rw [List.map_toArray, evp_map ha hps]) (run_buildSlice ht hE hz h0 hl ho hs)

/-! ### Splitting at a test -/
section
variable {P : Program} {ops : Array Oper} {Q : Exit → Act → World → Prop} {n : Nat} {m : List (Nat × Value)} {w : World} {rest : List Nat} {d : Nat} {b : Bool} {S : World → Prop} {tail : List Nat} {pl : Plan}
theorem LW.splitB (ht : b = true → LW P ops Q rest n ((d, .bool true) :: m) w) (hf : b = false → LW P ops Q rest n ((d, .bool false) :: m) w) : LW P ops Q rest n ((d, .bool b) :: m) w := by
  cases b with
  | true => exact ht rfl
  | false => exact hf rfl
theorem PW.splitB (ht : b = true → PW P ops Q S tail pl n ((d, .bool true) :: m) w) (hf : b = false → PW P ops Q S tail pl n ((d, .bool false) :: m) w) : PW P ops Q S tail pl n ((d, .bool b) :: m) w := by
  cases b with
  | true => exact ht rfl
  | false => exact hf rfl
end

end Go.Proofs.Ytgnpjhellmfhoaa.Sy
