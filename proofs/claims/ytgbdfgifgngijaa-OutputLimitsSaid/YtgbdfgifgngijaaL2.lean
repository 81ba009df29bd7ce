import Derived.Test.YtgbdfgifgngijaaL1
import Derived.StillTail

/-
  Frames as lists of live slots; operations whose value is known (Ex); regions as index lists (LW) and by a plan (PW); code (CW).
-/
namespace Go.Proofs.Ytgbdfgifgngijaa.Sy
open Go.RowKit

def look : List (Nat × Value) → Nat → Option Value
  | [], _ => none
  | (j, v) :: m, k => bif Nat.beq j k then some v else look m k

structure Fr (a : Act) (n : Nat) (m : List (Nat × Value)) : Prop where
  defers : a.defers = []
  size : a.tmps.size = n
  get : ∀ k v, look m k = some v → a.tmps[k]? = some v

def ev (m : List (Nat × Value)) : Operand → Option Value
  | .tmp t => look m t
  | .const v => some v
  | .global g => some (.pointer (some ⟨g, 0, none⟩))
  | .func f => some (.func (.func f) #[] #[])

theorem Fr.eval {a : Act} {n : Nat} {m : List (Nat × Value)} (h : Fr a n m) {x : Operand} {v : Value} (e : ev m x = some v) : a.eval x = v := by
  cases x with
  | tmp t => simp only [Act.eval, Array.getD_eq_getD_getElem?, h.get t v e, Option.getD_some]
  | const c => exact Option.some.inj e
  | global g => exact Option.some.inj e
  | func f => exact Option.some.inj e

theorem Fr.put {a : Act} {n : Nat} {m : List (Nat × Value)} (h : Fr a n m) {d : Nat} (hd : d < n) (v : Value) : Fr (a.put (some d) v) n ((d, v) :: m) := by
  refine ⟨h.defers, by simp [Act.put, h.size], fun k u e => ?_⟩
  simp only [look] at e
  by_cases hk : d = k
  · subst hk
    simp only [Nat.beq_refl, cond_true] at e
    obtain rfl := Option.some.inj e
    simp [Act.put, h.size, hd]
  · have : Nat.beq d k = false := by
      cases hb : Nat.beq d k with
      | false => rfl
      | true => exact absurd (Nat.eq_of_beq_eq_true hb) hk
    rw [this] at e
    simp only [cond_false] at e
    simp only [Act.put, Array.getElem?_setIfInBounds_ne hk]
    exact h.get k u e
theorem Fr.put_none {a : Act} {n : Nat} {m : List (Nat × Value)} (h : Fr a n m) (v : Value) : Fr (a.put none v) n m := h

/-- m' says no more than m. -/
def Sub (m : List (Nat × Value)) : List (Nat × Value) → Prop
  | [] => True
  | (k, v) :: r => look m k = some v ∧ Sub m r
theorem Sub.get {m : List (Nat × Value)} : ∀ {m' : List (Nat × Value)}, Sub m m' → ∀ k v, look m' k = some v → look m k = some v
  | [], _, _, _, e => by cases e
  | (j, u) :: r, ⟨h1, h2⟩, k, v, e => by
    simp only [look] at e
    cases hb : Nat.beq j k with
    | true =>
      rw [hb] at e
      simp only [cond_true, Option.some.injEq] at e
      have : j = k := by simpa using hb
      subst this; subst e; exact h1
    | false => rw [hb] at e; exact Sub.get h2 k v e
theorem Fr.sub {a : Act} {n : Nat} {m m' : List (Nat × Value)} (h : Fr a n m) (hs : Sub m m') : Fr a n m' := ⟨h.defers, h.size, fun k v e => h.get k v (hs.get k v e)⟩

/-- At the start: the arguments in the first slots. -/
def slots : Nat → List Value → List (Nat × Value)
  | _, [] => []
  | i, v :: r => (i, v) :: slots (i + 1) r
theorem slots_get : ∀ (l : List Value) (i k : Nat) (v : Value), look (slots i l) k = some v → i ≤ k ∧ l[k - i]? = some v
  | [], _, _, _, e => by cases e
  | u :: r, i, k, v, e => by
    simp only [slots, look] at e
    cases hb : Nat.beq i k with
    | true =>
      rw [hb] at e
      have : i = k := by simpa using hb
      subst this
      simpa using e
    | false =>
      rw [hb] at e
      have hne : i ≠ k := fun e => by subst e; simp at hb
      obtain ⟨h1, h2⟩ := slots_get r (i + 1) k v (by simpa using e)
      refine ⟨by omega, ?_⟩
      rw [show k - i = (k - (i + 1)) + 1 by omega]
      simpa using h2
theorem Fr.start (args : List Value) (n : Nat) (hn : args.length ≤ n) :
    Fr { tmps := args.toArray ++ Array.replicate (n - args.toArray.size) undef, defers := [] } n (slots 0 args) := by
  refine ⟨rfl, by simp; omega, fun k v e => ?_⟩
  obtain ⟨_, h2⟩ := slots_get args 0 k v e
  have hlt : k < args.length := (List.getElem?_eq_some_iff.1 h2).1
  simp only [Nat.sub_zero] at h2
  rw [Array.getElem?_append_left (by simpa using hlt)]
  simpa using h2

/-! ### Operations whose value is known -/
def Ev (m : List (Nat × Value)) (ρ : Operand → Value) : Prop := ∀ x v, ev m x = some v → ρ x = v
theorem Fr.ev {a : Act} {n : Nat} {m : List (Nat × Value)} (h : Fr a n m) : Ev m a.eval := fun _ _ e => h.eval e
def Ex (P : Program) (S : World → Prop) (m : List (Nat × Value)) (op : Op) (v : Value) : Prop :=
  ∀ ρ, Ev m ρ → ∀ w, S w → ∀ o : Oper, o.op = op → (execOp ρ o).run P w = .ok (.value v) w

/-- The guard of an operation, decided by the frame: 'some true': it runs; 'some false': it does not. -/
def guarded (ops : Array Oper) (m : List (Nat × Value)) (o : Oper) : Option Bool :=
  match o.guard with
  | none => some true
  | some (j, want) =>
    match (ops[j]?).bind (·.dst) with
    | none => none
    | some t =>
      match look m t with
      | some (.bool b) => some (b == want)
      | some (.tuple _) => some false
      | _ => none

theorem wanted_of {ops : Array Oper} {m : List (Nat × Value)} {o : Oper} {a : Act} {n : Nat} {b : Bool} (h : Fr a n m) (hg : guarded ops m o = some b) : Region.wanted o (yielded ops a.tmps) = b := by
  unfold guarded at hg
  unfold Region.wanted
  cases ho : o.guard with
  | none => rw [ho] at hg; simpa using hg
  | some p =>
    obtain ⟨j, want⟩ := p
    rw [ho] at hg
    simp only at hg ⊢
    unfold yielded
    cases ht : (ops[j]?).bind (·.dst) with
    | none => rw [ht] at hg; cases hg
    | some t =>
      rw [ht] at hg
      simp only at hg ⊢
      cases hl : look m t with
      | none => rw [hl] at hg; cases hg
      | some v =>
        rw [hl] at hg
        have := h.get t v hl
        cases v <;> simp_all

/-! ### Regions, in the order of a list of indices -/
def LW (P : Program) (ops : Array Oper) (Q : Exit → Act → World → Prop) (l : List Nat) (n : Nat) (m : List (Nat × Value)) (w : World) : Prop :=
  ∀ a, Fr a n m → wpOps P ops Q l a w

section
variable {P : Program} {ops : Array Oper} {Q : Exit → Act → World → Prop} {n : Nat} {m : List (Nat × Value)} {w : World} {rest : List Nat} {i : Nat} {o : Oper}

theorem LW.nil (h : ∀ a, Fr a n m → Q .normal a w) : LW P ops Q [] n m w := fun a ha => h a ha

theorem wpOps_at {a : Act} (hi : ops[i]? = some o) (h : if Region.wanted o (yielded ops a.tmps) then o.wp P a w (wpOps P ops Q rest) Q else wpOps P ops Q rest (a.put o.dst undef) w) :
    wpOps P ops Q (i :: rest) a w := by
  simp only [wpOps, hi]
  split
  · rename_i hw; rw [if_pos hw] at h; exact .inl h
  · rename_i hw; rw [if_neg hw] at h; exact h

/-- An operation whose value is known. -/
theorem LW.ex {d : Nat} {v : Value} {S : World → Prop} (hi : ops[i]? = some o) (hd : o.dst = some d) (hn : Nat.ble (d + 1) n = true) (hg : guarded ops m o = some true) (h : Ex P S m o.op v) (hS : S w)
    (k : LW P ops Q rest n ((d, v) :: m) w) : LW P ops Q (i :: rest) n m w := fun a ha => by
  refine wpOps_at hi ?_
  rw [if_pos (wanted_of ha hg)]
  unfold Oper.wp
  rw [h a.eval ha.ev w hS o rfl, Oper.upon_value, hd]
  exact k _ (ha.put (Nat.le_of_ble_eq_true hn) v)

/-- An operation whose guard says no. -/
theorem LW.skip {d : Nat} (hi : ops[i]? = some o) (hd : o.dst = some d) (hn : Nat.ble (d + 1) n = true) (hg : guarded ops m o = some false)
    (k : LW P ops Q rest n ((d, undef) :: m) w) : LW P ops Q (i :: rest) n m w := fun a ha => by
  refine wpOps_at hi ?_
  rw [if_neg (by rw [wanted_of ha hg]; decide), hd]
  exact k _ (ha.put (Nat.le_of_ble_eq_true hn) undef)

/-- What an operation does, as a law: it comes to a value and a world of which Φ holds. -/
def Hv (P : Program) (m : List (Nat × Value)) (op : Op) (w : World) (Φ : Value → World → Prop) : Prop :=
  ∀ a, Ev m a.eval → ∀ (o : Oper), o.op = op → ∀ (K : Act → World → Prop) (Q : Exit → Act → World → Prop), (∀ v w', Φ v w' → K (a.put o.dst v) w') → o.wp P a w K Q

theorem Hv.of_run {Φ : Value → World → Prop} {op : Op} (h : ∀ ρ, Ev m ρ → ∀ o : Oper, o.op = op → ∃ v w', (execOp ρ o).run P w = .ok (.value v) w' ∧ Φ v w') : Hv P m op w Φ := fun a ha o ho K Q hK => by
  obtain ⟨v, w', hr, hv⟩ := h a.eval ha o ho
  unfold Oper.wp
  rw [hr, Oper.upon_value]
  exact hK v w' hv
theorem Hv.of_skip {Φ : Value → World → Prop} {op : Op} (h : ∀ ρ, Ev m ρ → ∀ o : Oper, o.op = op → ∃ w', (execOp ρ o).run P w = .ok .skip w' ∧ Φ undef w') : Hv P m op w Φ := fun a ha o ho K Q hK => by
  obtain ⟨w', hr, hv⟩ := h a.eval ha o ho
  unfold Oper.wp
  rw [hr, Oper.upon_skip]
  exact hK _ w' hv
/-- A call, by the callee's contract. -/
theorem Hv.of_call {Φ : Value → World → Prop} {op : Op} {f : FuncId} {args : Array Value} (h : ∀ ρ, Ev m ρ → ∀ o : Oper, o.op = op → (execOp ρ o).run P w = .ok (.enter f args) w)
    (hc : Calls P f args w fun e w' => ∃ v, e = .returned v ∧ Φ v w') : Hv P m op w Φ := fun a ha o ho K Q hK => by
  unfold Oper.wp
  rw [h a.eval ha o ho, Oper.upon_enter]
  refine hc.mono fun e w' he => ?_
  obtain ⟨v, rfl, hv⟩ := he
  exact hK v w' hv
theorem Hv.mono {Φ Ψ : Value → World → Prop} {op : Op} (h : Hv P m op w Φ) (hp : ∀ v w', Φ v w' → Ψ v w') : Hv P m op w Ψ := fun a ha o ho K Q hK => h a ha o ho K Q fun v w' hv => hK v w' (hp v w' hv)

theorem LW.hv {d : Nat} {Φ : Value → World → Prop} (hi : ops[i]? = some o) (hd : o.dst = some d) (hn : Nat.ble (d + 1) n = true) (hg : guarded ops m o = some true) (h : Hv P m o.op w Φ)
    (k : ∀ v w', Φ v w' → LW P ops Q rest n ((d, v) :: m) w') : LW P ops Q (i :: rest) n m w := fun a ha => by
  refine wpOps_at hi ?_
  rw [if_pos (wanted_of ha hg)]
  refine h a ha.ev o rfl _ _ fun v w' hv => ?_
  rw [hd]
  exact k v w' hv _ (ha.put (Nat.le_of_ble_eq_true hn) v)

/-- The same for an operation that yields nothing (a store). -/
theorem LW.hu {Φ : Value → World → Prop} (hi : ops[i]? = some o) (hd : o.dst = none) (hg : guarded ops m o = some true) (h : Hv P m o.op w Φ)
    (k : ∀ v w', Φ v w' → LW P ops Q rest n m w') : LW P ops Q (i :: rest) n m w := fun a ha => by
  refine wpOps_at hi ?_
  rw [if_pos (wanted_of ha hg)]
  refine h a ha.ev o rfl _ _ fun v w' hv => ?_
  rw [hd]
  exact k v w' hv _ (ha.put_none v)

theorem LW.sub (m' : List (Nat × Value)) (hs : Sub m m') (k : LW P ops Q rest n m' w) : LW P ops Q rest n m w := fun a ha => k a (ha.sub hs)
end

/-! ### A region that draws its order: a plan -/
/-- A plan. 'ex': its value is known, it may be taken first; 'one': it is the only one that may come up; 'two': these two may come up. -/
inductive Plan where
  | done
  | ex (i : Nat) (p : Plan)
  | one (i : Nat) (p : Plan)
  | two (i : Nat) (p : Plan) (j : Nat) (q : Plan)
  | three (i : Nat) (p : Plan) (j : Nat) (q : Plan) (k : Nat) (r : Plan)
def planLen : Plan → Nat → Bool
  | .done, k => Nat.beq k 0
  | .ex _ p, k + 1 => planLen p k
  | .one _ p, k + 1 => planLen p k
  | .two _ p _ q, k + 1 => planLen p k && planLen q k
  | .three _ p _ q _ r, k + 1 => planLen p k && planLen q k && planLen r k
  | _, 0 => false
/-- The plan's first part; then the tail: the operations from number n on, one by one. -/
def planOk (ops : Array Oper) (n : Nat) : Plan → Array Bool → Bool
  | .done, listed => Region.seqB .any ops (ops.size - n) n listed
  | .ex i p, listed => Nat.blt i n && (Region.ready .any ops listed).contains i && Region.free .any ops listed i && planOk ops n p (listed.setIfInBounds i true)
  | .one i p, listed => Nat.blt i n && decide (Region.ready .any ops listed = [i]) && planOk ops n p (listed.setIfInBounds i true)
  | .two i p j q, listed => Nat.blt i n && Nat.blt j n && decide (Region.ready .any ops listed = [i, j]) && planOk ops n p (listed.setIfInBounds i true) && planOk ops n q (listed.setIfInBounds j true)
  | .three i p j q k r, listed => Nat.blt i n && Nat.blt j n && Nat.blt k n && decide (Region.ready .any ops listed = [i, j, k]) && planOk ops n p (listed.setIfInBounds i true) && planOk ops n q (listed.setIfInBounds j true) && planOk ops n r (listed.setIfInBounds k true)
def planB (ops : Array Oper) (n : Nat) (pl : Plan) : Bool :=
  Region.noSelect ops && (Nat.beq n ops.size || (Nat.blt n ops.size && Region.sinkB .any ops n && Region.chainB .any ops n)) && planOk ops n pl (Array.replicate ops.size false)

section
variable {P : Program} {ops : Array Oper} {Q : Exit → Act → World → Prop} {S : World → Prop} {n : Nat}

def wpPlan (P : Program) (ops : Array Oper) (Q : Exit → Act → World → Prop) (S : World → Prop) (tail : List Nat) : Plan → Act → World → Prop
  | .done, a, w => wpOps P ops Q tail a w
  | .ex i p, a, w => ∃ o v, ops[i]? = some o ∧ YieldsIf P ops S o v a ∧ wpPlan P ops Q S tail p (a.put o.dst v) w
  | .one i p, a, w => wpOp P ops Q i (fun a' w' => S w' ∧ wpPlan P ops Q S tail p a' w') a w
  | .two i p j q, a, w => wpOp P ops Q i (fun a' w' => S w' ∧ wpPlan P ops Q S tail p a' w') a w ∧ wpOp P ops Q j (fun a' w' => S w' ∧ wpPlan P ops Q S tail q a' w') a w
  | .three i p j q k r, a, w => wpOp P ops Q i (fun a' w' => S w' ∧ wpPlan P ops Q S tail p a' w') a w ∧ wpOp P ops Q j (fun a' w' => S w' ∧ wpPlan P ops Q S tail q a' w') a w ∧ wpOp P ops Q k (fun a' w' => S w' ∧ wpPlan P ops Q S tail r a' w') a w

theorem seq_sound : ∀ (g k : Nat) (listed : Array Bool) (a : Act) (w : World), Region.seqB .any ops g k listed = true → wpOps P ops Q (List.range' k g) a w → wpAny P .any ops Q g listed a w
  | 0, _, _, _, _, hB, h => ⟨by simpa [Region.seqB] using hB, h⟩
  | g + 1, k, listed, a, w, hB, h => by
    simp only [Region.seqB, Bool.and_eq_true, decide_eq_true_eq] at hB
    refine ⟨fun h1 => (by rw [hB.1] at h1; cases h1), fun j hj => ?_⟩
    rw [hB.1] at hj
    obtain rfl : j = k := by simpa using hj
    rw [List.range'_succ, wpOps_cons] at h
    exact wpOp_mono (fun a' w' h' => seq_sound g (j + 1) _ a' w' hB.2 h') h

/-- Up to the tail. -/
def wpAnyT (P : Program) (ops : Array Oper) (Q : Exit → Act → World → Prop) (S : World → Prop) (n : Nat) : Nat → Array Bool → Act → World → Prop
  | 0, listed, a, w => Region.seqB .any ops (ops.size - n) n listed = true ∧ wpOps P ops Q (List.range' n (ops.size - n)) a w
  | fuel + 1, listed, a, w =>
    Region.ready .any ops listed ≠ [] ∧
    ∀ i ∈ Region.ready .any ops listed, i < n ∧ wpOp P ops Q i (fun a' w' => S w' ∧ wpAnyT P ops Q S n fuel (listed.setIfInBounds i true) a' w') a w

theorem wpAny_of_T : ∀ (fuel : Nat) (listed : Array Bool) (a : Act) (w : World), wpAnyT P ops Q S n fuel listed a w → wpAny P .any ops Q (fuel + (ops.size - n)) listed a w
  | 0, listed, a, w, h => by rw [Nat.zero_add]; exact seq_sound _ n listed a w h.1 h.2
  | fuel + 1, listed, a, w, h => by
    rw [show fuel + 1 + (ops.size - n) = (fuel + (ops.size - n)) + 1 by omega]
    exact ⟨fun h0 => absurd h0 h.1, fun i hi => wpOp_mono (fun a' w' h' => wpAny_of_T fuel _ a' w' h'.2) (h.2 i hi).2⟩

theorem lt_of_blt {a b : Nat} (h : Nat.blt a b = true) : a < b := Nat.lt_of_succ_le (Nat.le_of_ble_eq_true h)

/-- While one of the first n is open none of the tail comes up. -/
def Waits (ops : Array Oper) (n : Nat) : Prop := ∀ listed : Array Bool, HeadInv .any ops n listed → ∀ i, i < n → listed.getD i true = false → ∀ t ∈ Region.ready .any ops listed, t < n

theorem waits_of (h : (Nat.beq n ops.size || (Nat.blt n ops.size && Region.sinkB .any ops n && Region.chainB .any ops n)) = true) : Waits ops n := by
  intro listed inv i hi hun t ht
  simp only [Bool.or_eq_true, Bool.and_eq_true] at h
  rcases h with h | h
  · obtain ⟨_, o, ho, _⟩ := mem_ready.1 ht
    have := (Array.getElem?_eq_some_iff.1 ho).1
    have := Nat.eq_of_beq_eq_true h
    omega
  · refine Nat.lt_of_not_le fun hle => ?_
    exact tail_waits h.1.2 h.2 (lt_of_blt h.1.1) inv _ i rfl hi hun t hle ht

theorem wpAnyT_first {i : Nat} {oi : Oper} {v : Value} (hi : ops[i]? = some oi) (hsel : ∀ (j : Nat) (o : Oper) cs b, ops[j]? = some o → o.op ≠ .select cs b)
    (hQ : ∀ c a w, Q (.panic c) (a.put oi.dst v) w → Q (.panic c) a w) (hw : Waits ops n) (hin : i < n) :
    ∀ (fuel : Nat) (listed : Array Bool) (a : Act) (w : World), HeadInv .any ops n listed →
      (∀ j oj, ops[j]? = some oj → j ≠ i → listed.getD j true = false → (∀ e ∈ oj.after, Region.binds .any e = true → e.on ≠ i) → oi.apart ops oj = true) →
      i ∈ Region.ready .any ops listed → YieldsIf P ops S oi v a → S w →
      wpAnyT P ops Q S n fuel (listed.setIfInBounds i true) (a.put oi.dst v) w → wpAnyT P ops Q S n (fuel + 1) listed a w := by
  intro fuel
  induction fuel with
  | zero =>
    intro listed a w inv _ hr hy hS H
    have hun := (mem_ready.1 hr).1
    refine ⟨fun h => (by rw [h] at hr; cases hr), fun j hj => ?_⟩
    have hjn := hw listed inv i hin hun j hj
    refine ⟨hjn, ?_⟩
    by_cases hji : j = i
    · subst hji; exact hy.wpOp hi hS ⟨hS, H⟩
    · have := seqB_ready H.1 j (ready_mono hj hji)
      omega
  | succ fuel ih =>
    intro listed a w inv hfree hr hy hS H
    have hun := (mem_ready.1 hr).1
    refine ⟨fun h => (by rw [h] at hr; cases hr), fun j hj => ?_⟩
    have hjn := hw listed inv i hin hun j hj
    refine ⟨hjn, ?_⟩
    by_cases hji : j = i
    · subst hji; exact hy.wpOp hi hS ⟨hS, H⟩
    · have h1 := (H.2 j (ready_mono hj hji)).2
      obtain ⟨hjun, oj, hoj, hall⟩ := mem_ready.1 hj
      have hnot : ∀ e ∈ oj.after, Region.binds .any e = true → e.on ≠ i := fun e he hb heq => by
        have h1 := hall e he hb
        rw [heq, getD_both hun] at h1
        cases h1
      have h2 := wpOp_putIf hoj (hfree j oj hoj hji hjun hnot) (fun cs b => hsel i oi cs b hi) (fun cs b => hsel j oj cs b hoj) hQ hy h1
      have hfree' : ∀ k ok, ops[k]? = some ok → k ≠ i → (listed.setIfInBounds j true).getD k true = false →
          (∀ e ∈ ok.after, Region.binds .any e = true → e.on ≠ i) → oi.apart ops ok = true := fun k ok hk hki hun hno => by
        refine hfree k ok hk hki ?_ hno
        by_cases hjk : j = k
        · subst hjk; exact hjun
        · rw [getD_set_ne true hjk] at hun; exact hun
      refine wpOp_mono (fun a' w' h3 => ⟨h3.2.1, ih (listed.setIfInBounds j true) a' w' (inv.set hj hjn) hfree' (ready_mono hr (Ne.symm hji)) h3.1 h3.2.1 ?_⟩) h2
      rw [Array.setIfInBounds_comm _ _ hji]
      exact h3.2.2

theorem plan_sound (hsel : Region.noSelect ops = true) (hw : Waits ops n) (hQ : ∀ c a d v w, Q (.panic c) (Act.put a d v) w → Q (.panic c) a w) :
    ∀ (pl : Plan) (k : Nat) (listed : Array Bool) (a : Act) (w : World), planLen pl k = true → HeadInv .any ops n listed → planOk ops n pl listed = true → S w →
      wpPlan P ops Q S (List.range' n (ops.size - n)) pl a w → wpAnyT P ops Q S n k listed a w
  | .done, k, listed, a, w, hk, _, hB, _, h => by
    simp only [planLen] at hk
    obtain rfl : k = 0 := Nat.eq_of_beq_eq_true hk
    exact ⟨by simpa [planOk] using hB, h⟩
  | .ex i r, 0, listed, a, w, hk, _, _, _, _ => by simp [planLen] at hk
  | .ex i r, k + 1, listed, a, w, hk, inv, hB, hS, h => by
    simp only [planOk, Bool.and_eq_true] at hB
    obtain ⟨⟨⟨hlt, hr⟩, hf⟩, hrest⟩ := hB
    have hin : i < n := lt_of_blt hlt
    have hr' : i ∈ Region.ready .any ops listed := by simpa using hr
    obtain ⟨o, v, ho, hy, hk'⟩ := h
    exact wpAnyT_first ho (Region.noSelect_spec hsel) (fun c a w => hQ c a _ _ w) hw hin _ listed a w inv (Region.free_spec ho hf) hr' hy hS
      (plan_sound hsel hw hQ r k _ _ w hk (inv.set hr' hin) hrest hS hk')
  | .one i r, 0, listed, a, w, hk, _, _, _, _ => by simp [planLen] at hk
  | .one i r, k + 1, listed, a, w, hk, inv, hB, _, h => by
    simp only [planOk, Bool.and_eq_true, decide_eq_true_eq] at hB
    obtain ⟨⟨hlt, hr⟩, hrest⟩ := hB
    have hin : i < n := lt_of_blt hlt
    refine ⟨fun h0 => (by rw [hr] at h0; cases h0), fun j hj => ?_⟩
    have hji : j = i := by rw [hr] at hj; simpa using hj
    subst hji
    refine ⟨hin, ?_⟩
    exact wpOp_mono (fun a' w' h' => ⟨h'.1, plan_sound hsel hw hQ r k _ a' w' hk (inv.set hj hin) hrest h'.1 h'.2⟩) h
  | .two i p j q, 0, listed, a, w, hk, _, _, _, _ => by simp [planLen] at hk
  | .two i p j q, k + 1, listed, a, w, hk, inv, hB, _, h => by
    simp only [planOk, Bool.and_eq_true, decide_eq_true_eq] at hB
    simp only [planLen, Bool.and_eq_true] at hk
    obtain ⟨⟨⟨⟨hlt, hlt2⟩, hr⟩, hrest⟩, hrest2⟩ := hB
    have hin : i < n := lt_of_blt hlt
    have hjn : j < n := lt_of_blt hlt2
    have mi : i ∈ Region.ready .any ops listed := by rw [hr]; simp
    have mj : j ∈ Region.ready .any ops listed := by rw [hr]; simp
    refine ⟨fun h0 => (by rw [hr] at h0; cases h0), fun l hl => ?_⟩
    have hl' : l = i ∨ l = j := by rw [hr] at hl; simpa using hl
    rcases hl' with rfl | rfl
    · exact ⟨hin, wpOp_mono (fun a' w' h' => ⟨h'.1, plan_sound hsel hw hQ p k _ a' w' hk.1 (inv.set mi hin) hrest h'.1 h'.2⟩) h.1⟩
    · exact ⟨hjn, wpOp_mono (fun a' w' h' => ⟨h'.1, plan_sound hsel hw hQ q k _ a' w' hk.2 (inv.set mj hjn) hrest2 h'.1 h'.2⟩) h.2⟩

  | .three i p j q l r, 0, listed, a, w, hk, _, _, _, _ => by simp [planLen] at hk
  | .three i p j q l r, k + 1, listed, a, w, hk, inv, hB, _, h => by
    simp only [planOk, Bool.and_eq_true, decide_eq_true_eq] at hB
    simp only [planLen, Bool.and_eq_true] at hk
    obtain ⟨⟨⟨⟨⟨⟨hlt, hlt2⟩, hlt3⟩, hr⟩, hrest⟩, hrest2⟩, hrest3⟩ := hB
    have hin : i < n := lt_of_blt hlt
    have hjn : j < n := lt_of_blt hlt2
    have hln : l < n := lt_of_blt hlt3
    have mi : i ∈ Region.ready .any ops listed := by rw [hr]; simp
    have mj : j ∈ Region.ready .any ops listed := by rw [hr]; simp
    have ml : l ∈ Region.ready .any ops listed := by rw [hr]; simp
    refine ⟨fun h0 => (by rw [hr] at h0; cases h0), fun x hx => ?_⟩
    have hx' : x = i ∨ x = j ∨ x = l := by rw [hr] at hx; simpa using hx
    rcases hx' with rfl | rfl | rfl
    · exact ⟨hin, wpOp_mono (fun a' w' h' => ⟨h'.1, plan_sound hsel hw hQ p k _ a' w' hk.1.1 (inv.set mi hin) hrest h'.1 h'.2⟩) h.1⟩
    · exact ⟨hjn, wpOp_mono (fun a' w' h' => ⟨h'.1, plan_sound hsel hw hQ q k _ a' w' hk.1.2 (inv.set mj hjn) hrest2 h'.1 h'.2⟩) h.2.1⟩
    · exact ⟨hln, wpOp_mono (fun a' w' h' => ⟨h'.1, plan_sound hsel hw hQ r k _ a' w' hk.2 (inv.set ml hln) hrest3 h'.1 h'.2⟩) h.2.2⟩

/-- A region that draws its order, by a plan. -/
theorem wp_plan {id : Nat} {a : Act} {w : World} (n : Nat) (pl : Plan) (S : World → Prop) (hm : P.follows .mixedOrders = true) (hB : planB ops n pl = true) (hl : planLen pl n = true)
    (hS : S w.drew) (h : wpPlan P ops (NoPanic Q) S (List.range' n (ops.size - n)) pl a w.drew) : (Code.region id ops true).wp P Q a w := by
  refine wp_region_noPanic (wp_region_any hm ?_)
  simp only [planB, Bool.and_eq_true] at hB
  obtain ⟨⟨hsel, hw⟩, hp⟩ := hB
  have inv0 : HeadInv .any ops n (Array.replicate ops.size false) :=
    ⟨by simp, fun j oj _ hl => (by rw [getD_replicate_false] at hl; cases hl), fun t _ ht => getD_in (by simpa using ht) (getD_replicate_false _ _)⟩
  have hn : n ≤ ops.size := by
    simp only [Bool.or_eq_true, Bool.and_eq_true] at hw
    rcases hw with hw | hw
    · exact Nat.le_of_eq (Nat.eq_of_beq_eq_true hw)
    · have : n < ops.size := lt_of_blt hw.1.1
      omega
  have := wpAny_of_T _ _ _ _ (plan_sound hsel (waits_of hw) (fun c a d v w h => (h : False).elim) pl n _ a w.drew hl inv0 hp hS h)
  rw [show n + (ops.size - n) = ops.size by omega] at this
  exact this

/-! The plan over frames. -/
def PW (P : Program) (ops : Array Oper) (Q : Exit → Act → World → Prop) (S : World → Prop) (tail : List Nat) (pl : Plan) (n : Nat) (m : List (Nat × Value)) (w : World) : Prop :=
  ∀ a, Fr a n m → S w → wpPlan P ops Q S tail pl a w

variable {m : List (Nat × Value)} {w : World} {tail : List Nat} {pl pl2 : Plan} {i : Nat} {o : Oper}

theorem PW.nil (h : LW P ops Q tail n m w) : PW P ops Q S tail .done n m w := fun a ha _ => h a ha

theorem PW.ex {d : Nat} {v : Value} (hi : ops[i]? = some o) (hd : o.dst = some d) (hn : Nat.ble (d + 1) n = true) (hg : guarded ops m o = some true) (h : Ex P S m o.op v)
    (k : PW P ops Q S tail pl n ((d, v) :: m) w) : PW P ops Q S tail (.ex i pl) n m w := fun a ha hS =>
  ⟨o, v, hi, .inl ⟨wanted_of ha hg, fun w hw => h a.eval ha.ev w hw o rfl⟩, by rw [hd]; exact k _ (ha.put (Nat.le_of_ble_eq_true hn) v) hS⟩

theorem PW.skip {d : Nat} (hi : ops[i]? = some o) (hd : o.dst = some d) (hn : Nat.ble (d + 1) n = true) (hg : guarded ops m o = some false)
    (k : PW P ops Q S tail pl n ((d, undef) :: m) w) : PW P ops Q S tail (.ex i pl) n m w := fun a ha hS =>
  ⟨o, undef, hi, .inr ⟨wanted_of ha hg, rfl⟩, by rw [hd]; exact k _ (ha.put (Nat.le_of_ble_eq_true hn) undef) hS⟩

theorem wpOp_at {a : Act} {K : Act → World → Prop} (hi : ops[i]? = some o) (hw : Region.wanted o (yielded ops a.tmps) = true) (h : o.wp P a w K Q) : wpOp P ops Q i K a w := by
  unfold wpOp; simp only [hi, hw, if_true]; exact .inl h

theorem PW.hv {d : Nat} {Φ : Value → World → Prop} (hi : ops[i]? = some o) (hd : o.dst = some d) (hn : Nat.ble (d + 1) n = true) (hg : guarded ops m o = some true) (h : Hv P m o.op w Φ)
    (hS' : ∀ v w', Φ v w' → S w') (k : ∀ v w', Φ v w' → PW P ops Q S tail pl n ((d, v) :: m) w') : PW P ops Q S tail (.one i pl) n m w := fun a ha _ => by
  refine wpOp_at hi (wanted_of ha hg) ?_
  refine h a ha.ev o rfl _ _ fun v w' hv => ⟨hS' v w' hv, ?_⟩
  rw [hd]
  exact k v w' hv _ (ha.put (Nat.le_of_ble_eq_true hn) v) (hS' v w' hv)

/-- Two operations either of which may come up. -/
theorem PW.two {j : Nat} {o2 : Oper} {d e : Nat} {Φ Ψ : Value → World → Prop} (hi : ops[i]? = some o) (hj : ops[j]? = some o2) (hd : o.dst = some d) (he : o2.dst = some e) (hn : Nat.ble (d + 1) n = true) (hn2 : Nat.ble (e + 1) n = true)
    (hg : guarded ops m o = some true) (hg2 : guarded ops m o2 = some true)
    (hA : Hv P m o.op w Φ) (hSA : ∀ v w', Φ v w' → S w') (hB : Hv P m o2.op w Ψ) (hSB : ∀ v w', Ψ v w' → S w')
    (kA : ∀ v w', Φ v w' → PW P ops Q S tail pl n ((d, v) :: m) w') (kB : ∀ v w', Ψ v w' → PW P ops Q S tail pl2 n ((e, v) :: m) w') : PW P ops Q S tail (.two i pl j pl2) n m w := fun a ha _ => by
  refine ⟨wpOp_at hi (wanted_of ha hg) (hA a ha.ev o rfl _ _ fun v w' hv => ⟨hSA v w' hv, ?_⟩), wpOp_at hj (wanted_of ha hg2) (hB a ha.ev o2 rfl _ _ fun u w' hu => ⟨hSB u w' hu, ?_⟩)⟩
  · rw [hd]; exact kA v w' hv _ (ha.put (Nat.le_of_ble_eq_true hn) v) (hSA v w' hv)
  · rw [he]; exact kB u w' hu _ (ha.put (Nat.le_of_ble_eq_true hn2) u) (hSB u w' hu)

/-- Three operations any of which may come up. -/
theorem PW.three {pl3 : Plan} {j l : Nat} {o2 o3 : Oper} {d e f : Nat} {Φ Ψ Χ : Value → World → Prop} (hi : ops[i]? = some o) (hj : ops[j]? = some o2) (hl : ops[l]? = some o3) (hd : o.dst = some d) (he : o2.dst = some e) (hf : o3.dst = some f) (hn : Nat.ble (d + 1) n = true) (hn2 : Nat.ble (e + 1) n = true) (hn3 : Nat.ble (f + 1) n = true)
    (hg : guarded ops m o = some true) (hg2 : guarded ops m o2 = some true) (hg3 : guarded ops m o3 = some true)
    (hA : Hv P m o.op w Φ) (hSA : ∀ v w', Φ v w' → S w') (hB : Hv P m o2.op w Ψ) (hSB : ∀ v w', Ψ v w' → S w') (hC : Hv P m o3.op w Χ) (hSC : ∀ v w', Χ v w' → S w')
    (kA : ∀ v w', Φ v w' → PW P ops Q S tail pl n ((d, v) :: m) w') (kB : ∀ v w', Ψ v w' → PW P ops Q S tail pl2 n ((e, v) :: m) w') (kC : ∀ v w', Χ v w' → PW P ops Q S tail pl3 n ((f, v) :: m) w') : PW P ops Q S tail (.three i pl j pl2 l pl3) n m w := fun a ha _ => by
  refine ⟨wpOp_at hi (wanted_of ha hg) (hA a ha.ev o rfl _ _ fun v w' hv => ⟨hSA v w' hv, ?_⟩), wpOp_at hj (wanted_of ha hg2) (hB a ha.ev o2 rfl _ _ fun u w' hu => ⟨hSB u w' hu, ?_⟩), wpOp_at hl (wanted_of ha hg3) (hC a ha.ev o3 rfl _ _ fun u w' hu => ⟨hSC u w' hu, ?_⟩)⟩
  · rw [hd]; exact kA v w' hv _ (ha.put (Nat.le_of_ble_eq_true hn) v) (hSA v w' hv)
  · rw [he]; exact kB u w' hu _ (ha.put (Nat.le_of_ble_eq_true hn2) u) (hSB u w' hu)
  · rw [hf]; exact kC u w' hu _ (ha.put (Nat.le_of_ble_eq_true hn3) u) (hSC u w' hu)

theorem PW.sub (m' : List (Nat × Value)) (hs : Sub m m') (k : PW P ops Q S tail pl n m' w) : PW P ops Q S tail pl n m w := fun a ha => k a (ha.sub hs)
end

/-! ### Code -/
def CW (P : Program) (c : Code) (Q : Exit → Act → World → Prop) (n : Nat) (m : List (Nat × Value)) (w : World) : Prop := ∀ a, Fr a n m → c.wp P Q a w

section
variable {P : Program} {Q : Exit → Act → World → Prop} {n : Nat} {m : List (Nat × Value)} {w : World} {c x y : Code}

theorem CW.sub (m' : List (Nat × Value)) (hs : Sub m m') (k : CW P c Q n m' w) : CW P c Q n m w := fun a ha => k a (ha.sub hs)

/-- A goal behind a statement: what follows. -/
def KW (K : Act → World → Prop) (n : Nat) (m : List (Nat × Value)) (w : World) : Prop := ∀ a, Fr a n m → K a w
theorem KW.sub {K : Act → World → Prop} (m' : List (Nat × Value)) (hs : Sub m m') (k : KW K n m' w) : KW K n m w := fun a ha => k a (ha.sub hs)

theorem CW.seq (h : ∀ K : Act → World → Prop, (∀ n' m' w', CW P y Q n' m' w' → KW K n' m' w') → CW P x (Exit.then K Q) n m w) : CW P (x.seq y) Q n m w := fun a ha =>
  wp_seq_k fun K hK => h K (fun _ _ w hc a' ha' => hK a' w (hc a' ha')) a ha

theorem CW.region {id : Nat} {ops : Array Oper} (l : List Nat) (hl : List.range ops.size = l) (h : LW P ops Q l n m w) : CW P (.region id ops false) Q n m w := fun a ha =>
  wp_region (by rw [hl]; exact h a ha)

theorem CW.draw {id : Nat} {ops : Array Oper} (k : Nat) (pl : Plan) (tail : List Nat) (S : World → Prop) (hm : P.follows .mixedOrders = true) (hB : planB ops k pl = true) (hk : planLen pl k = true)
    (ht : List.range' k (ops.size - k) = tail) (hS : S w.drew) (h : PW P ops (NoPanic Q) S tail pl n m w.drew) : CW P (.region id ops true) Q n m w := fun a ha =>
  wp_plan k pl S hm hB hk hS (by rw [ht]; exact h a ha hS)

theorem CW.ret (h : ∀ a, Fr a n m → Q .ret a w) : CW P .ret Q n m w := fun a ha => wp_ret (h a ha)
theorem CW.skip (h : ∀ a, Fr a n m → Q .normal a w) : CW P .skip Q n m w := fun a ha => wp_skip (h a ha)
theorem CW.exit {id : Nat} (h : ∀ a, Fr a n m → Q (.exit id) a w) : CW P (.exit id) Q n m w := fun a ha => wp_exit (h a ha)
theorem CW.block {id : Nat} (h : CW P c (Exit.inBlock id Q) n m w) : CW P (.block id c) Q n m w := fun a ha => wp_block (h a ha)
theorem CW.yes {x0 : Operand} (hc : ev m x0 = some (.bool true)) (h : CW P x Q n m w) : CW P (.cond x0 x y) Q n m w := fun a ha => wp_cond_true (ha.eval hc) (h a ha)
theorem CW.no {x0 : Operand} (hc : ev m x0 = some (.bool false)) (h : CW P y Q n m w) : CW P (.cond x0 x y) Q n m w := fun a ha => wp_cond_false (ha.eval hc) (h a ha)
theorem CW.cond {x0 : Operand} {b : Bool} (hc : ev m x0 = some (.bool b)) (ht : b = true → CW P x Q n m w) (hf : b = false → CW P y Q n m w) : CW P (.cond x0 x y) Q n m w := fun a ha =>
  wp_cond_split (ha.eval hc) (fun e => ht e a ha) (fun e => hf e a ha)

/-- A loop. 'I k': what holds at the head of a round, k bounding the rounds to come. -/
theorem CW.loop (I : Nat → List (Nat × Value) → World → Prop) (k0 : Nat) {m0 : List (Nat × Value)} (h0 : I k0 m0 w) (hs : Sub m m0)
    (round : ∀ k m w, I k m w → CW P c (Exit.then (fun a w' => ∃ k' m', k' < k ∧ I k' m' w' ∧ Fr a n m') Q) n m w) : CW P (.loop c) Q n m w := fun a ha => by
  -- the measure: the least bound
  have key : ∀ k m w a, I k m w → Fr a n m → ∀ b kk cs, ∃ e a' w', Q e a' w' ∧ Arrives P (lone (b.at a (.code c :: .inLoop c :: kk)) cs w) b kk cs e a' w' := by
    intro k
    induction k using Nat.strongRecOn with
    | _ k ih =>
      intro m w a hI ha b kk cs
      obtain ⟨e, a₁, w₁, hq, harr⟩ := round k m w hI a ha b (.inLoop c :: kk) cs
      cases e with
      | normal =>
        obtain ⟨k', m', hlt, hI', ha'⟩ := hq
        obtain ⟨e₂, a₂, w₂, hq₂, harr₂⟩ := ih k' hlt m' w₁ a₁ hI' ha' b kk cs
        exact ⟨e₂, a₂, w₂, hq₂, .of_steps (Steps.trans harr (.one step_inLoop)) harr₂⟩
      | exit id => exact ⟨_, a₁, w₁, hq, .pass (x := .inLoop c) rfl (fun _ _ => .inl (by simp)) harr⟩
      | goto l => exact ⟨_, a₁, w₁, hq, .pass (x := .inLoop c) rfl (fun _ _ => .inl (by simp)) harr⟩
      | ret => exact ⟨_, a₁, w₁, hq, .pass (x := .inLoop c) rfl (fun _ _ => .inl (by simp)) harr⟩
      | panic ch => exact ⟨_, a₁, w₁, hq, .pass (x := .inLoop c) rfl (fun _ _ => .inl (by simp)) harr⟩
      | outgrown => exact ⟨_, a₁, w₁, hq, .pass (x := .inLoop c) rfl (fun _ _ => .inl (by simp)) harr⟩
  intro b kk cs
  obtain ⟨e, a', w', hq, harr⟩ := key k0 m0 w a h0 (ha.sub hs) b kk cs
  exact ⟨e, a', w', hq, .of_steps (.one step_loop) harr⟩

/-- Weakening: the ways of a piece of code meet in one statement. -/
theorem CW.mono {Q' : Exit → Act → World → Prop} (h : CW P c Q' n m w) (hq : ∀ e a w, Q' e a w → Q e a w) : CW P c Q n m w := fun a ha => wp_mono (h a ha) hq
end

/-! ### Functions -/
theorem calls_start {P : Program} {f : FuncId} {fn : Func} {c : Code} {args : Array Value} {w : World} {R : Ending → World → Prop} (n : Nat) (l : List Value)
    (hf : P.funcs[f]? = some fn) (hb : fn.body = some c) (hn : fn.ntmps = n) (ha : args = l.toArray) (hl : Nat.ble l.length n = true) (h : CW P c (bodyPost P fn R) n (slots 0 l) w) : Calls P f args w R := by
  subst ha
  refine calls_of_wp hf hb ?_
  rw [hn]
  exact h _ (Fr.start l n (Nat.le_of_ble_eq_true hl))

theorem ret_one {P : Program} {fn : Func} {R : Ending → World → Prop} {n : Nat} {m : List (Nat × Value)} {w : World} {a : Act} {t : Tmp} {v : Value} (ha : Fr a n m) (hr : fn.results = #[.tmp t]) (hv : look m t = some v)
    (h : R (.returned v) w) : bodyPost P fn R .ret a w := by
  refine bodyPost_ret (results_tmp hr _ _ _) ha.defers ?_
  simp only [Array.getD_eq_getD_getElem?, ha.get t v hv, Option.getD_some]; exact h
theorem ret_two {P : Program} {fn : Func} {R : Ending → World → Prop} {n : Nat} {m : List (Nat × Value)} {w : World} {a : Act} {t u : Tmp} {v v' : Value} (ha : Fr a n m) (hr : fn.results = #[.tmp t, .tmp u]) (hv : look m t = some v)
    (hv' : look m u = some v') (h : R (.returned (.tuple #[v, v'])) w) : bodyPost P fn R .ret a w := by
  refine bodyPost_ret (results_tmp2 hr _ _ _) ha.defers ?_
  simp only [Array.getD_eq_getD_getElem?, ha.get t v hv, ha.get u v' hv', Option.getD_some]; exact h

end Go.Proofs.Ytgbdfgifgngijaa.Sy

/-
  Operations: their values (Ex), what they do (Hv).
-/
namespace Go.Proofs.Ytgbdfgifgngijaa.Sy
open Go.RowKit

/-- A type's row: what it is, its zero, its cells, its bytes. -/
def TI (P : Program) (t : TypeId) (d : TypeDesc) (z : Value) (sz by_ : Nat) : Prop :=
  P.underlying t = some d ∧ (P.info? t).map (fun i => (i.zero, i.size, i.bytes)) = some (some z, sz, by_)

section
variable {P : Program} {t : TypeId} {d : TypeDesc} {z : Value} {sz by_ : Nat}

theorem TI.info (h : TI P t d z sz by_) : ∃ i, P.info? t = some i ∧ i.zero = some z ∧ i.size = sz ∧ i.bytes = by_ := by
  obtain ⟨_, h2⟩ := h
  cases hi : P.info? t with
  | none => rw [hi] at h2; cases h2
  | some i =>
    rw [hi] at h2
    simp only [Option.map_some, Option.some.injEq, Prod.mk.injEq] at h2
    exact ⟨i, rfl, h2.1, h2.2.1, h2.2.2⟩
theorem TI.typeInfo (h : TI P t d z sz by_) (w : World) : ∃ i, (typeInfo t).run P w = .ok i w ∧ i.zero = some z ∧ i.size = sz ∧ i.bytes = by_ := by
  obtain ⟨i, hi, h1, h2, h3⟩ := h.info
  exact ⟨i, by simp [Go.typeInfo, program, Sem.run, hi, go_sem], h1, h2, h3⟩
theorem TI.sizeOf (h : TI P t d z sz by_) (w : World) : (sizeOf t).run P w = .ok sz w := by
  obtain ⟨i, hi, h1, h2, h3⟩ := h.info
  simp [Go.sizeOf, Go.typeInfo, program, Sem.run, hi, h2, go_sem]
theorem TI.zeroValue (h : TI P t d z sz by_) (w : World) : (zeroValue t).run P w = .ok z w := by
  obtain ⟨i, hi, h1, h2, h3⟩ := h.info
  simp [Go.zeroValue, Go.typeInfo, program, Sem.run, hi, h1, go_sem]
theorem TI.underlying (h : TI P t d z sz by_) (w : World) : (underlying t).run P w = .ok d w := by
  simp [Go.underlying, program, Sem.run, h.1, go_sem]
def aggD : TypeDesc → Bool
  | .struct _ | .array _ _ => true
  | _ => false
theorem TI.isAgg (h : TI P t d z sz by_) (w : World) : (isAgg t).run P w = .ok (aggD d) w := by
  have := h.underlying w
  unfold Go.isAgg
  cases d <;> simp [this, aggD, go_sem]
end

theorem w64 {x : Int} (h1 : -9223372036854775808 ≤ x) (h2 : x ≤ 9223372036854775807) : IntKind.i64.wrap x = x := by
  exact IntWalk.i64_in x ⟨h1, h2⟩
theorem wu8 {x : Int} (h1 : 0 ≤ x) (h2 : x < 256) : IntKind.u8.wrap x = x := by
  rw [IntKind.wrap_u8]; omega
theorem inc64 {i : Nat} (h : i < 9223372036854775807) : IntKind.i64.wrap ((i : Int) + 1) = ((i + 1 : Nat) : Int) := by
  rw [w64 (by omega) (by omega)]; omega

namespace Ex
variable {P : Program} {S : World → Prop} {m : List (Nat × Value)} {t t' : TypeId} {x y c : Operand} {v v' : Value}

theorem move (h : ev m x = some v) : Ex P S m (.move x) v := fun ρ ha w _ o ho => by simp [execOp, ho, ha _ _ h, go_sem]
theorem assign (h : ev m x = some v) : Ex P S m (.assign x) v := fun ρ ha w _ o ho => by simp [execOp, ho, ha _ _ h, go_sem]
theorem pick_yes (hc : ev m c = some (.bool true)) (h : ev m x = some v) : Ex P S m (.pick c x y) v := fun ρ ha w _ o ho => by simp [execOp, ho, ha _ _ h, ha _ _ hc, asBool, go_sem]
theorem pick_no (hc : ev m c = some (.bool false)) (h : ev m y = some v) : Ex P S m (.pick c x y) v := fun ρ ha w _ o ho => by simp [execOp, ho, ha _ _ h, ha _ _ hc, asBool, go_sem]

section ints
variable {k k' : IntKind} {p q r : Int} {b : Bool}
theorem add (hx : ev m x = some (.int k p)) (hy : ev m y = some (.int k q)) (hr : k.wrap (p + q) = r) : Ex P S m (.binOp .add t x y t') (.int k r) := fun ρ ha w _ o ho => by
  simp [execOp, ho, ha _ _ hx, ha _ _ hy, eqGuard, binOp, Op.intArith, hr, go_sem]
theorem sub (hx : ev m x = some (.int k p)) (hy : ev m y = some (.int k q)) (hr : k.wrap (p - q) = r) : Ex P S m (.binOp .sub t x y t') (.int k r) := fun ρ ha w _ o ho => by
  simp [execOp, ho, ha _ _ hx, ha _ _ hy, eqGuard, binOp, Op.intArith, hr, go_sem]
theorem mul (hx : ev m x = some (.int k p)) (hy : ev m y = some (.int k q)) (hr : k.wrap (p * q) = r) : Ex P S m (.binOp .mul t x y t') (.int k r) := fun ρ ha w _ o ho => by
  simp [execOp, ho, ha _ _ hx, ha _ _ hy, eqGuard, binOp, Op.intArith, hr, go_sem]
theorem rem (hx : ev m x = some (.int k p)) (hy : ev m y = some (.int k q)) (hq : q ≠ 0) (hr : p.tmod q = r) : Ex P S m (.binOp .rem t x y t') (.int k r) := fun ρ ha w _ o ho => by
  simp [execOp, ho, ha _ _ hx, ha _ _ hy, eqGuard, binOp, Op.intDiv, hq, hr, go_sem]
theorem lss (hx : ev m x = some (.int k p)) (hy : ev m y = some (.int k q)) (hr : decide (p < q) = b) : Ex P S m (.binOp .lss t x y t') (.bool b) := fun ρ ha w _ o ho => by
  subst hr; simp [execOp, ho, ha _ _ hx, ha _ _ hy, eqGuard, binOp, Op.intCmp, go_sem]
theorem leq (hx : ev m x = some (.int k p)) (hy : ev m y = some (.int k q)) (hr : decide (p ≤ q) = b) : Ex P S m (.binOp .leq t x y t') (.bool b) := fun ρ ha w _ o ho => by
  subst hr; simp [execOp, ho, ha _ _ hx, ha _ _ hy, eqGuard, binOp, Op.intCmp, go_sem]
theorem gtr (hx : ev m x = some (.int k p)) (hy : ev m y = some (.int k q)) (hr : decide (q < p) = b) : Ex P S m (.binOp .gtr t x y t') (.bool b) := fun ρ ha w _ o ho => by
  subst hr; simp [execOp, ho, ha _ _ hx, ha _ _ hy, eqGuard, binOp, Op.intCmp, go_sem]
theorem geq (hx : ev m x = some (.int k p)) (hy : ev m y = some (.int k q)) (hr : decide (q ≤ p) = b) : Ex P S m (.binOp .geq t x y t') (.bool b) := fun ρ ha w _ o ho => by
  subst hr; simp [execOp, ho, ha _ _ hx, ha _ _ hy, eqGuard, binOp, Op.intCmp, go_sem]
theorem eql (hx : ev m x = some (.int k p)) (hy : ev m y = some (.int k q)) (hr : decide (p = q) = b) : Ex P S m (.binOp .eql t x y t') (.bool b) := fun ρ ha w _ o ho => by
  have e : (p == q) = b := by rw [← hr]; by_cases h : p = q <;> simp [h]
  simp [execOp, ho, ha _ _ hx, ha _ _ hy, eqGuard, binOp, Op.intCmp, e, go_sem]
theorem neq (hx : ev m x = some (.int k p)) (hy : ev m y = some (.int k q)) (hr : decide (p ≠ q) = b) : Ex P S m (.binOp .neq t x y t') (.bool b) := fun ρ ha w _ o ho => by
  have e : (p != q) = b := by rw [← hr]; by_cases h : p = q <;> simp [h, bne]
  simp [execOp, ho, ha _ _ hx, ha _ _ hy, eqGuard, binOp, Op.intCmp, e, go_sem]
theorem min2 {at_ : Array TypeId} {o' : Call} (ho' : o' = { callee := .builtin .min, args := #[x, y], argTypes := at_ }) (hx : ev m x = some (.int k p)) (hy : ev m y = some (.int k q)) : Ex P S m (.call o') (.int k (min p q)) := fun ρ ha w _ o ho => by
  subst ho'
  have e : (if q < p then q else p) = min p q := by split <;> omega
  simp [execOp, ho, resolve, invoke, builtin, Builtin.min_, Builtin.min2, ha _ _ hx, ha _ _ hy, e, go_sem]
theorem conv {d : TypeDesc} (hs : P.underlying t = some d) (hd : P.underlying t' = some (.int k)) (hx : ev m x = some (.int k' p)) (hr : k.wrap p = r) : Ex P S m (.convert t t' x) (.int k r) := fun ρ ha w _ o ho => by
  have e1 : (Go.underlying t).run P w = .ok d w := by simp [Go.underlying, program, Sem.run, hs, go_sem]
  have e2 : (Go.underlying t').run P w = .ok (.int k) w := by simp [Go.underlying, program, Sem.run, hd, go_sem]
  cases d <;> simp [execOp, ho, ha _ _ hx, convert, e1, e2, Conv.intToInt, hr, go_sem]
end ints

section bools
variable {p q b : Bool}
theorem not (hx : ev m x = some (.bool p)) (hr : (!p) = b) : Ex P S m (.unOp .not t x) (.bool b) := fun ρ ha w _ o ho => by
  simp [execOp, ho, ha _ _ hx, Op.unary, hr, go_sem]
end bools

section strings
variable {s u : ByteArray} {b : Bool}
theorem eqlS (hx : ev m x = some (.string s)) (hy : ev m y = some (.string u)) (hr : (s == u) = b) : Ex P S m (.binOp .eql t x y t') (.bool b) := fun ρ ha w _ o ho => by
  subst hr; simp [execOp, ho, ha _ _ hx, ha _ _ hy, eqGuard, beq_toListBytes, go_sem]
theorem neqS (hx : ev m x = some (.string s)) (hy : ev m y = some (.string u)) (hr : (s != u) = b) : Ex P S m (.binOp .neq t x y t') (.bool b) := fun ρ ha w _ o ho => by
  subst hr; simp [execOp, ho, ha _ _ hx, ha _ _ hy, eqGuard, bne, beq_toListBytes, go_sem]
theorem lenS {o' : Call} (ho' : o' = { callee := .builtin .len, args := #[x], argTypes := #[t] }) (ht : P.underlying t = some .string) (hx : ev m x = some (.string s)) : Ex P S m (.call o') (.int .i64 s.size) := fun ρ ha w _ o ho => by
  subst ho'
  have e1 : (Go.underlying t).run P w = .ok .string w := by simp [Go.underlying, program, Sem.run, ht, go_sem]
  simp [execOp, ho, resolve, invoke, builtin, Builtin.len_, ha _ _ hx, e1, goInt, go_sem]
end strings

section slices
variable {e : TypeId} {ad : Option Addr} {l c : Nat}
theorem lenSl {o' : Call} (ho' : o' = { callee := .builtin .len, args := #[x], argTypes := #[t] }) (ht : P.underlying t = some (.slice e)) (hx : ev m x = some (.slice ad l c)) : Ex P S m (.call o') (.int .i64 l) := fun ρ ha w _ o ho => by
  subst ho'
  have e1 : (Go.underlying t).run P w = .ok (.slice e) w := by simp [Go.underlying, program, Sem.run, ht, go_sem]
  simp [execOp, ho, resolve, invoke, builtin, Builtin.len_, ha _ _ hx, e1, goInt, go_sem]
variable {d : TypeDesc} {z : Value} {sz by_ : Nat} {k : IntKind} {p : Int} {j b off : Nat}
theorem indexSl (ht : P.underlying t = some (.slice e)) (he : TI P e d z sz by_) (hx : ev m x = some (.slice (some ⟨b, off, none⟩) l c)) (hy : ev m y = some (.int k p)) (hp : p = (j : Int)) (hj : j < l) :
    Ex P S m (.indexAddr t x y) (.pointer (some ⟨b, off + j * sz, none⟩)) := fun ρ ha w _ o ho => by
  have e1 : (Go.underlying t).run P w = .ok (.slice e) w := by simp [Go.underlying, program, Sem.run, ht, go_sem]
  have e2 := he.sizeOf w
  subst hp
  have h0 : (0 : Int) ≤ j := by omega
  have h1 : (j : Int) < (l : Int) := by omega
  have e3 : (⟨b, off, none⟩ : Addr).add (j * sz) = ⟨b, off + j * sz, none⟩ := by
    unfold Addr.add; split
    · rename_i h; rw [h]; rfl
    · rfl
  simp [execOp, ho, ha _ _ hx, ha _ _ hy, Instr.indexAt, asIntOf, e1, e2, go_sem]
  omega
theorem fieldA {fs : Array Field} {f : Nat} {fl : Field} (ht : P.underlying t = some (.struct fs)) (hf : fs[f]? = some fl) (he : TI P fl.type d z (sz + 1) by_) (hx : ev m x = some (.pointer (some ⟨b, off, none⟩))) :
    Ex P S m (.fieldAddr t x f) (.pointer (some ⟨b, off + fl.offset, none⟩)) := fun ρ ha w _ o ho => by
  have e1 : (Go.underlying t).run P w = .ok (.struct fs) w := by simp [Go.underlying, program, Sem.run, ht, go_sem]
  have e2 := he.sizeOf w
  have e3 : (⟨b, off, none⟩ : Addr).add fl.offset = ⟨b, off + fl.offset, none⟩ := by
    unfold Addr.add; split
    · rename_i h; rw [h]; rfl
    · rfl
  simp [execOp, ho, ha _ _ hx, Instr.fieldAt, Instr.sureAddr, fieldPlace, e1, e2, hf, go_sem]
theorem load1 (ht : TI P t d z sz by_) (hd : aggD d = false) (hx : ev m x = some (.pointer (some ⟨b, off, none⟩))) (hc : ∀ w, S w → w.cell? ⟨b, off, none⟩ = some v) : Ex P S m (.load t x) v := fun ρ ha w hS o ho => by
  have e1 := ht.isAgg w
  rw [hd] at e1
  simp [execOp, ho, ha _ _ hx, Instr.loadAt, Instr.sureAddr, loadVar, e1, hc w hS, go_sem]
theorem extract {vs : Array Value} {i : Nat} (hx : ev m x = some (.tuple vs)) (hi : vs[i]? = some v) : Ex P S m (.extract x i) v := fun ρ ha w _ o ho => by
  simp [execOp, ho, ha _ _ hx, Instr.extract, hi, go_sem]
end slices
end Ex

end Go.Proofs.Ytgbdfgifgngijaa.Sy

/-
  The call's own objects: variables and rows (Own.obj), slices that may be appended to (Own.sl); what the operations on memory do.
-/
namespace Go.Proofs.Ytgbdfgifgngijaa.Sy
open Go.RowKit

/-- A block with these cells. -/
def Own.obj (b : Nat) (cs : List Value) (E : TypeId) : Own :=
  ⟨fun bs h => bs = [b] ∧ h b = some (.cells cs.toArray E (0, 0)), fun bs h h' ⟨e, hb⟩ hh => ⟨e, by rw [hh b (by simp [e])]; exact hb⟩⟩

/-- A slice value '.slice ad l c' with the cells us (sz cells an element); behind them spare places. -/
def Own.sl (ad : Option Addr) (l c : Nat) (E : TypeId) (sz : Nat) (us : List Value) : Own :=
  ⟨fun bs h => us.length = l * sz ∧ ((ad = none ∧ l = 0 ∧ c = 0 ∧ bs = []) ∨
      ∃ g cur, ad = some ⟨g, 0, none⟩ ∧ bs = [g] ∧ h g = some (.cells cur E (0, 0)) ∧ l ≤ c ∧ c ≤ maxLen ∧ cur.size = c * sz ∧ cur.toList.take (l * sz) = us),
    fun bs h h' ⟨e, hb⟩ hh => ⟨e, hb.imp id fun ⟨g, cur, h1, h2, h3, r⟩ => ⟨g, cur, h1, h2, by rw [hh g (by simp [h2])]; exact h3, r⟩⟩⟩

section
variable {w0 w : World} {μ : Mem} {L : List Own} {k : Nat}

theorem Seps.get {bs : List Nat} {h : Mem} {e : Own} (hs : Seps L bs h) (hk : L[k]? = some e) : ∃ b2, e.φ b2 h := let ⟨_, b2, _, _, he, _⟩ := hs.focus hk; ⟨b2, he⟩
theorem Rd.get {e : Own} (h : Rd μ L w) (hk : L[k]? = some e) : ∃ bs, e.φ bs (memOf w) := let ⟨_, hs⟩ := h.2; hs.get hk

theorem Rd.obj {b : Nat} {cs : List Value} {E : TypeId} (hk : L[k]? = some (Own.obj b cs E)) {off : Nat} {v : Value} (hv : cs[off]? = some v) : ∀ w, Rd μ L w → w.cell? ⟨b, off, none⟩ = some v := fun w h => by
  obtain ⟨bs, _, hb⟩ := h.get hk
  rw [cell_of_heap hb]; simpa using hv
theorem Rd.imm {b off : Nat} {v : Value} (hc : μ.cell b off = some v) : ∀ w, Rd μ L w → w.cell? ⟨b, off, none⟩ = some v := fun _ h => h.1.cell hc
theorem Rd.sl {g : Nat} {l c : Nat} {E : TypeId} {sz : Nat} {us : List Value} (hk : L[k]? = some (Own.sl (some ⟨g, 0, none⟩) l c E sz us)) {off : Nat} {v : Value} (hv : us[off]? = some v) :
    ∀ w, Rd μ L w → w.cell? ⟨g, off, none⟩ = some v := fun w h => by
  obtain ⟨bs, hlen, hb⟩ := h.get hk
  rcases hb with ⟨hb, _⟩ | ⟨g', cur, hg, _, hh, hlc, _, hcs, htake⟩
  · cases hb
  · cases hg
    rw [cell_of_heap hh]
    have hlt := (List.getElem?_eq_some_iff.1 hv).1
    rw [← htake, List.getElem?_take] at hv
    split at hv
    · simpa using hv
    · cases hv

theorem St.sl_some {ad : Option Addr} {l c : Nat} {E : TypeId} {sz : Nat} {us : List Value} (h : St w0 w μ L) (k : Nat) (hk : L[k]? = some (Own.sl ad l c E sz us)) (hl : 0 < l) : ∃ g, ad = some ⟨g, 0, none⟩ := by
  obtain ⟨bs, hlen, hb⟩ := h.rd.get hk
  rcases hb with ⟨_, hb, _⟩ | ⟨g', cur, hg, _⟩
  · omega
  · exact ⟨g', hg⟩
theorem St.sl_cap {ad : Option Addr} {l c : Nat} {E : TypeId} {sz : Nat} {us : List Value} (h : St w0 w μ L) (k : Nat) (hk : L[k]? = some (Own.sl ad l c E sz us)) : l ≤ c ∧ c ≤ maxLen := by
  obtain ⟨bs, hlen, hb⟩ := h.rd.get hk
  rcases hb with ⟨_, hb, hc, _⟩ | ⟨g', cur, hg, _, _, h1, h2, _⟩
  · simp only [maxLen]; omega
  · exact ⟨h1, h2⟩
theorem heap_alloc (w : World) (o : Obj) : (w.alloc o).heap[w.heap.size]? = some o := heap_alloc_new w o
theorem size_alloc (w : World) (o : Obj) : (w.alloc o).heap.size = w.heap.size + 1 := by show (w.heap.push o).size = _; simp

theorem St.alloc (h : St w0 w μ L) (cs : List Value) (E : TypeId) : St w0 (w.alloc (.cells cs.toArray E)) μ (Own.obj w.heap.size cs E :: L) :=
  h.add ((Bel.refl _ _).alloc (Nat.le_refl _) _) (Own.obj w.heap.size cs E) (bs := [w.heap.size]) ⟨rfl, heap_alloc w _⟩ (by simp) (fun b hb => by
    obtain rfl : b = w.heap.size := by simpa using hb
    rw [size_alloc]; omega)

/-- The one cell of an own object turns. -/
theorem St.set_obj {b : Nat} {cs : List Value} {E : TypeId} (h : St w0 w μ L) (hk : L[k]? = some (Own.obj b cs E)) (off : Nat) (v : Value) :
    St w0 (w.setCell ⟨b, off, none⟩ v) μ (L.set k (Own.obj b (cs.set off v) E)) := by
  obtain ⟨bs, ⟨rfl, hb⟩, _, _, hstep⟩ := h.turn hk
  refine hstep _ _ [b] rfl rfl rfl (Nat.le_refl _) (by simp [World.setCell]) (fun b' _ hne => Below.heap_setCell _ _ _ _ (by simpa using hne)) ⟨rfl, ?_⟩ (by simp) (fun x hx => .inl hx)
  have hb' : w.heap[b]? = some (.cells cs.toArray E (0, 0)) := hb
  show (w.setCell ⟨b, off, none⟩ v).heap[b]? = _
  simp [World.setCell, Array.getElem?_modify, hb']

theorem St.set_sl {g l c : Nat} {E : TypeId} {sz : Nat} {us : List Value} (h : St w0 w μ L) (hk : L[k]? = some (Own.sl (some ⟨g, 0, none⟩) l c E sz us)) (off : Nat) (v : Value) :
    St w0 (w.setCell ⟨g, off, none⟩ v) μ (L.set k (Own.sl (some ⟨g, 0, none⟩) l c E sz (us.set off v))) := by
  obtain ⟨bs, ⟨hlen, hb⟩, _, _, hstep⟩ := h.turn hk
  rcases hb with ⟨hb, _⟩ | ⟨g', cur, hg, rfl, hh, hlc, hcm, hcs, htake⟩
  · cases hb
  cases hg
  refine hstep _ _ [g] rfl rfl rfl (Nat.le_refl _) (by simp [World.setCell]) (fun b' _ hne => Below.heap_setCell _ _ _ _ (by simpa using hne)) ⟨by simpa using hlen, .inr ⟨g, cur.setIfInBounds off v, rfl, rfl, ?_, hlc, hcm, by simpa using hcs, ?_⟩⟩ (by simp) (fun x hx => .inl hx)
  · have hb' : w.heap[g]? = some (.cells cur E (0, 0)) := hh
    show (w.setCell ⟨g, off, none⟩ v).heap[g]? = _
    simp [World.setCell, Array.getElem?_modify, hb']
  · rw [Array.toList_setIfInBounds, ← htake, List.take_set]

theorem nil_sl (E : TypeId) (sz : Nat) (h : St w0 w μ L) : St w0 w μ (Own.sl none 0 0 E sz [] :: L) :=
  h.add (Bel.refl _ _) (Own.sl none 0 0 E sz []) (bs := []) ⟨by simp, .inl ⟨rfl, rfl, rfl, rfl⟩⟩ (by simp) (fun b hb => by cases hb)

/-- A row that the call has just laid is a slice. -/
theorem St.row_sl {b : Nat} {cs : List Value} {E : TypeId} (h : St w0 w μ L) (hk : L[k]? = some (Own.obj b cs E)) (n sz : Nat) (hn : cs.length = n * sz) (hm : n ≤ maxLen) :
    St w0 w μ (L.set k (Own.sl (some ⟨b, 0, none⟩) n n E sz cs)) := by
  obtain ⟨bs, ⟨rfl, hb⟩, hnd, _, hstep⟩ := h.turn hk
  refine hstep w _ [b] rfl rfl rfl (Nat.le_refl _) (Nat.le_refl _) (fun _ _ _ => rfl) ⟨hn, .inr ⟨b, cs.toArray, rfl, rfl, hb, Nat.le_refl _, hm, by simpa using hn, ?_⟩⟩ hnd (fun x hx => .inl hx)
  rw [← hn]; simp
end

/-- append, over what a slice of the call's own is. -/
theorem run_append_sl {P : Program} {w : World} {t ty E : TypeId} {d : TypeDesc} {z : Value} {sz by_ : Nat} {ad : Option Addr} {l c : Nat} {us : List Value} {bs : List Nat} {g off n2 c2 : Nat} {vs : List Value}
    (ht : P.underlying t = some (.slice E)) (hE : TI P E d z sz by_) (hz : z.cells.size = sz) (hφ : (Own.sl ad l c E sz us).φ bs (memOf w))
    (hl : vs.length = n2 * sz) (hvs : ∀ j u, vs[j]? = some u → w.cell? ⟨g, off + j, none⟩ = some u) (h1 : ∀ u ∈ vs, u.oneCell' = true)
    (h63 : l + n2 ≤ maxLen) (hb : (l + n2) * by_ ≤ 140737488355328) :
    ∃ ad' c' w' bs', (Builtin.append_ #[t, t] ty #[.slice ad l c, .slice (some ⟨g, off, none⟩) n2 c2]).run P w = .ok (.slice ad' (l + n2) c') w' ∧
      w'.os = w.os ∧ w'.tape = w.tape ∧ w'.output = w.output ∧ w.drawn ≤ w'.drawn ∧ w.heap.size ≤ w'.heap.size ∧ (∀ b, b < w.heap.size → b ∉ bs → w'.heap[b]? = w.heap[b]?) ∧
      (Own.sl ad' (l + n2) c' E sz (us ++ vs)).φ bs' (memOf w') ∧ bs'.Nodup ∧ ∀ b ∈ bs', b ∈ bs ∨ (w.heap.size ≤ b ∧ b < w'.heap.size) := by
  obtain ⟨i, hi, z1, z2, z3⟩ := hE.info
  subst z2; subst z3
  obtain ⟨hlen, hφ⟩ := hφ
  have hsmall : l + n2 ≤ 9223372036854775807 := by simp only [maxLen] at h63; omega
  have hlen' : (us ++ vs).length = (l + n2) * i.size := by rw [List.length_append, hlen, hl, Nat.add_mul]
  have hadd : ∀ j, (⟨g, off, none⟩ : Addr).add j = ⟨g, off + j, none⟩ := fun j => by unfold Addr.add; split <;> simp_all
  have hvs' : ∀ j u, vs[j]? = some u → w.cell? ((⟨g, off, none⟩ : Addr).add j) = some u := fun j u e => by rw [hadd]; exact hvs j u e
  have grown : ∀ (old : Nat), old < l + n2 →
      (Own.sl (some ⟨w.heap.size, 0, none⟩) (l + n2) (grownCap w (l + n2) old E) E i.size (us ++ vs)).φ [w.heap.size] (memOf (w.drew.alloc (.cells (us.toArray ++ vs.toArray ++ Builtin.zeroCells z.cells (grownCap w (l + n2) old E - (l + n2))) E))) := by
    intro old _
    have hge := grownCap_ge w (l + n2) old E
    have hcm : grownCap w (l + n2) old E ≤ maxLen := grownCap_le_maxLen w (l + n2) old E h63
    refine ⟨hlen', .inr ⟨w.heap.size, _, rfl, rfl, heap_alloc_new w.drew _, hge, hcm, ?_, ?_⟩⟩
    · simp only [Array.size_append, List.size_toArray, size_zeroCells, hz, hlen, hl, ← Nat.add_mul]
      congr 1
      omega
    · simp only [Array.toList_append, List.append_assoc]
      rw [← List.append_assoc, ← hlen']
      exact List.take_left
  have hnewb : ∀ o b, b ∈ [w.heap.size] → b ∈ bs ∨ (w.heap.size ≤ b ∧ b < (w.drew.alloc o).heap.size) := fun o b hbm => by
    obtain rfl : b = w.heap.size := by simpa using hbm
    refine .inr ⟨Nat.le_refl _, ?_⟩
    rw [size_alloc]; exact Nat.lt_succ_self _
  have hold : ∀ o b, b < w.heap.size → b ∉ bs → (w.drew.alloc o).heap[b]? = w.heap[b]? := fun o b hlt _ => Below.heap_alloc w.drew o b hlt
  have hsz : ∀ o, w.heap.size ≤ (w.drew.alloc o).heap.size := fun o => by rw [size_alloc]; exact Nat.le_succ _
  rcases hφ with ⟨rfl, rfl, rfl, rfl⟩ | ⟨g', cur, rfl, rfl, hh, hlc, hcm, hcs, htake⟩
  · have hx : us = [] := List.eq_nil_of_length_eq_zero (by simpa using hlen)
    subst hx
    by_cases hm : n2 = 0
    · subst hm
      have hn : vs = [] := List.eq_nil_of_length_eq_zero (by simpa using hl)
      subst hn
      refine ⟨none, 0, w, [], ?_, rfl, rfl, rfl, Nat.le_refl _, Nat.le_refl _, fun _ _ _ => rfl, ⟨by simp, .inl ⟨rfl, rfl, rfl, rfl⟩⟩, by simp, fun b hb => by cases hb⟩
      simp [Builtin.append_, run_underlying ht, sizeOf, typeInfo, hi, Builtin.lenOf, Builtin.firstCells, loadCells, loadCellsFrom]
    · have hr := run_append_nil (P := P) w t ty E i z ht hi z1 ⟨g, off, none⟩ n2 c2 vs hl hvs' (by omega) (by omega) (by have hb := hb; simp only [Nat.zero_add] at hb; omega)
      have hgr := grown 0 (by omega)
      simp only [Nat.zero_add, List.nil_append, Array.empty_append] at hgr ⊢
      exact ⟨_, _, _, [w.heap.size], hr, rfl, rfl, rfl, Nat.le_succ _, hsz _, hold _, hgr, by simp, hnewb _⟩
  · have hh' : w.heap[g']? = some (.cells cur E (0, 0)) := hh
    by_cases hroom : l + n2 ≤ c
    · have hfit : l * i.size + vs.length ≤ cur.size := by rw [hl, hcs, ← Nat.add_mul]; exact Nat.mul_le_mul_right _ hroom
      have hr := run_append_room (P := P) w t ty E i ht hi g' l c cur hh' ⟨g, off, none⟩ n2 c2 vs hl hvs' h1 hroom hfit
      refine ⟨_, _, _, [g'], hr, rfl, rfl, rfl, Nat.le_refl _, by simp [World.setRow], fun b _ hne => setRow_other w g' b _ (by simpa using hne), ⟨hlen', .inr ⟨g', _, rfl, rfl, setRow_heap w g' cur _ E _ hh', hroom, hcm, ?_, ?_⟩⟩, by simp, fun b hb => .inl hb⟩
      · simp only [List.size_toArray, List.length_append, List.length_take, List.length_drop, Array.length_toList]
        omega
      · rw [htake, ← hlen']
        exact List.take_left
    · have holds : ∀ j u, us[j]? = some u → w.cell? ((⟨g', 0, none⟩ : Addr).add j) = some u := fun j u hu => by
        have hadd' : (⟨g', 0, none⟩ : Addr).add j = ⟨g', j, none⟩ := by unfold Addr.add; split <;> simp_all
        rw [hadd', cell_of_heap hh']
        rw [← htake, List.getElem?_take] at hu
        split at hu
        · simpa using hu
        · cases hu
      have hr := run_append_grow (P := P) w t ty E i z ht hi z1 ⟨g', 0, none⟩ l c us hlen holds ⟨g, off, none⟩ n2 c2 vs hl hvs' (by omega) (by omega) (growslice_fits (by omega) hb)
      have hgr := grown c (by omega)
      exact ⟨_, _, _, [w.heap.size], hr, rfl, rfl, rfl, Nat.le_succ _, hsz _, hold _, hgr, by simp, hnewb _⟩

theorem Sem.run_store1 {P : Program} {α : Type} {a : Addr} {u v : Value} {w : World} {md : Mode} {k : Go.Sem α} (hv : v.oneCell' = true) (hc : w.cell? a = some u) (hf : w.frozen? a = false) : (Go.Sem.store md a v k).run P w = k.run P (w.setCell a v) := by
  cases v <;> simp_all [Go.Sem.run, Value.oneCell']

theorem run_storeVar1 {P : Program} {t : TypeId} {d : TypeDesc} {z : Value} {by_ : Nat} {a : Addr} {u v : Value} {w : World} (ht : TI P t d z 1 by_) (hv : v.oneCell' = true) (hc : w.cell? a = some u) (hf : w.frozen? a = false) :
    (storeVar t a v).run P w = .ok () (w.setCell a v) := by
  have e2 := ht.sizeOf w
  have ea : a.add 0 = a := by simp [Addr.add]
  cases v <;> simp_all [storeVar, Value.cells, Value.oneCell', storeCells, store, Go.Sem.run, go_sem]

namespace Hv
variable {P : Program} {m : List (Nat × Value)} {t E : TypeId} {x y : Operand} {v : Value} {w0 w : World} {μ : Mem} {L : List Own}

theorem box (hS : St w0 w μ L) (hx : ev m x = some v) : Hv P m (.box E x) w (fun u w' => ∃ b, u = .pointer (some ⟨b, 0, none⟩) ∧ w.heap.size ≤ b ∧ St w0 w' μ (Own.obj b v.cells.toList E :: L)) :=
  .of_run fun ρ ha o ho => ⟨.pointer (some ⟨w.heap.size, 0, none⟩), w.alloc (.cells v.cells E), by
    simp [execOp, ho, ha _ _ hx, Instr.box, newVar, newRow, newObj, go_sem, Sem.run], w.heap.size, rfl, Nat.le_refl _, by have := hS.alloc v.cells.toList E; simpa using this⟩

theorem alloc {d : TypeDesc} {z : Value} {sz by_ : Nat} (hE : TI P E d z sz by_) (hS : St w0 w μ L) : Hv P m (.alloc E) w (fun u w' => ∃ b, u = .pointer (some ⟨b, 0, none⟩) ∧ w.heap.size ≤ b ∧ St w0 w' μ (Own.obj b z.cells.toList E :: L)) :=
  .of_run fun ρ ha o ho => ⟨.pointer (some ⟨w.heap.size, 0, none⟩), w.alloc (.cells z.cells E), by
    simp [execOp, ho, Instr.alloc, newVar, newRow, newObj, hE.zeroValue w, go_sem, Sem.run], w.heap.size, rfl, Nat.le_refl _, by have := hS.alloc z.cells.toList E; simpa using this⟩

/-- A literal: what the run lays is told by a closed fact. -/
theorem buildSlice {len : Nat} {parts : Array (Nat × Operand)} {ps : List (Nat × Value)} {cs : List Value} (hS : St w0 w μ L) (hps : ∀ ρ, Ev m ρ → (parts.map fun p => (p.1, ρ p.2)) = ps.toArray)
    (hrun : ∀ w, (Instr.buildSlice t len ps.toArray).run P w = .ok (.slice (some ⟨w.heap.size, 0, none⟩) len len) (w.alloc (.cells cs.toArray E))) :
    Hv P m (.buildSlice t len parts) w (fun u w' => ∃ b, u = .slice (some ⟨b, 0, none⟩) len len ∧ w.heap.size ≤ b ∧ St w0 w' μ (Own.obj b cs E :: L)) :=
  .of_run fun ρ ha o ho => ⟨_, _, by
    have e := hps ρ ha
    have h := hrun w
    have h2 : (execOp ρ o) = (Instr.buildSlice t len (parts.map fun p => (p.1, ρ p.2)) >>= fun v => pure (Next.value v)) := by simp only [execOp, ho]
    rw [h2, e, Sem.run_bind, h]; rfl, w.heap.size, rfl, Nat.le_refl _, hS.alloc cs E⟩

theorem makeSlice {d : TypeDesc} {z : Value} {sz by_ : Nat} {kl : IntKind} {n : Nat} {p q : Int} (ht : P.underlying t = some (.slice E)) (hE : TI P E d z sz by_) (hS : St w0 w μ L)
    (hx : ev m x = some (.int kl p)) (hy : ev m y = some (.int kl q)) (hp : p = (n : Int)) (hq : q = (n : Int)) (hb : by_ * n ≤ 281474976710656) (hm : n ≤ maxLen) :
    Hv P m (.makeSlice t x y) w (fun u w' => ∃ b, u = .slice (some ⟨b, 0, none⟩) n n ∧ w.heap.size ≤ b ∧ St w0 w' μ (Own.sl (some ⟨b, 0, none⟩) n n E sz (madeCells z.cells (n * sz)).toList :: L)) :=
  .of_run fun ρ ha o ho => by
    subst hp; subst hq
    obtain ⟨i, hi, h1, h2, h3⟩ := hE.info
    obtain rfl := h3
    obtain ⟨w', hr, hown, hg⟩ := run_make_full (P := P) w w.heap.size t E i z sz ht hi h1 h2 kl kl n hb hm (Nat.le_refl _)
    refine ⟨_, w', by simp [execOp, ho, ha _ _ hx, ha _ _ hy, hr, go_sem], w.heap.size, rfl, Nat.le_refl _, ?_⟩
    have hr2 := run_make (P := P) w t E i z ht hi h1 kl kl (n : Int) (n : Int) (by omega) (Int.le_refl _) (by have e : ((i.bytes * n : Nat) : Int) = (i.bytes : Int) * (n : Int) := Int.natCast_mul _ _; omega) (by have hm := hm; simp only [maxLen] at hm; omega)
    have hdr : w.drawn ≤ w'.drawn := by rw [hr] at hr2; have := (Result.ok.inj hr2).2; rw [this]; exact Nat.le_refl _
    have hbel : Bel w.heap.size w w' := ⟨⟨hg.os, hg.tape, hg.output, hg.size, fun k hk => hg.block k hk (by simp)⟩, hdr⟩
    obtain ⟨e1, e2⟩ := hown
    rcases e2 with ⟨e2, _⟩ | ⟨g, cap, cur, hv, hb', hh, a1, a2, a3, a4⟩
    · cases e2
    · simp only [Value.slice.injEq, Option.some.injEq, Addr.mk.injEq, and_true, true_and] at hv
      obtain ⟨rfl, rfl⟩ := hv
      refine hS.add hbel _ (bs := [w.heap.size]) ⟨e1, .inr ⟨_, cur, rfl, rfl, hh, a1, a2, a3, a4⟩⟩ (by simp) (fun b hb => ?_)
      obtain rfl : b = w.heap.size := by simpa using hb
      exact ⟨Nat.le_refl _, (Array.getElem?_eq_some_iff.1 hh).1⟩

/-- append to a slice of the call's own. -/
theorem append {o' : Call} {k : Nat} {d : TypeDesc} {z : Value} {sz by_ : Nat} {ad : Option Addr} {l c : Nat} {us : List Value} {g off n2 c2 : Nat} {vs : List Value}
    (ho' : o' = { callee := .builtin .append, args := #[x, y], argTypes := #[t, t] }) (ht : P.underlying t = some (.slice E)) (hE : TI P E d z sz by_) (hz : z.cells.size = sz)
    (hS : St w0 w μ L) (hk : L[k]? = some (Own.sl ad l c E sz us)) (hx : ev m x = some (.slice ad l c)) (hy : ev m y = some (.slice (some ⟨g, off, none⟩) n2 c2))
    (hl : vs.length = n2 * sz) (hvs : ∀ j u, vs[j]? = some u → w.cell? ⟨g, off + j, none⟩ = some u) (h1 : ∀ u ∈ vs, u.oneCell' = true)
    (h63 : l + n2 ≤ maxLen) (hb : (l + n2) * by_ ≤ 140737488355328) :
    Hv P m (.call o') w (fun u w' => ∃ ad' c', u = .slice ad' (l + n2) c' ∧ St w0 w' μ (L.set k (Own.sl ad' (l + n2) c' E sz (us ++ vs)))) :=
  .of_run fun ρ ha o ho => by
    subst ho'
    obtain ⟨bs, hφ, hnd, hin, hstep⟩ := hS.turn hk
    obtain ⟨ad', c', w', bs', hr, e1, e2, e3, e9, e4, e5, e6, e7, e8⟩ := run_append_sl (ty := o.type) (c2 := c2) ht hE hz hφ hl hvs h1 h63 hb
    refine ⟨_, w', by simp only [execOp, ho, resolve, invoke, builtin, Sem.run_bind, Sem.run_pure, Result.andThen_ok, List.map_toArray, List.map_cons, List.map_nil, ha _ _ hx, ha _ _ hy, hr], ad', c', rfl, ?_⟩
    exact hstep w' _ bs' e1 e2 e3 e9 e4 e5 e6 e7 e8

theorem storeObj {k b off : Nat} {d : TypeDesc} {z : Value} {by_ : Nat} {cs : List Value} (ht : TI P t d z 1 by_) (hS : St w0 w μ L) (hk : L[k]? = some (Own.obj b cs E)) (hx : ev m x = some (.pointer (some ⟨b, off, none⟩)))
    (hy : ev m y = some v) (hv : v.oneCell' = true) (ho : off < cs.length) :
    Hv P m (.store t x y) w (fun _ w' => St w0 w' μ (L.set k (Own.obj b (cs.set off v) E))) :=
  .of_skip fun ρ ha o hop => by
    obtain ⟨bs, _, hb⟩ := hS.rd.get hk
    have hc : w.cell? ⟨b, off, none⟩ = some (cs[off]) := by rw [cell_of_heap hb]; simp [ho]
    have hf : w.frozen? ⟨b, off, none⟩ = false := by have hb' : w.heap[b]? = some (.cells cs.toArray E (0, 0)) := hb; simp [World.frozen?, hb']
    refine ⟨w.setCell ⟨b, off, none⟩ v, ?_, hS.set_obj hk off v⟩
    simp only [execOp, hop, ha _ _ hx, ha _ _ hy, Instr.storeAt, Instr.sureAddr, Sem.run_bind, Sem.run_pure, Result.andThen_ok, run_storeVar1 ht hv hc hf]

theorem storeSl {k off g l c : Nat} {d : TypeDesc} {z : Value} {sz by_ : Nat} {us : List Value} (ht : TI P t d z 1 by_) (hS : St w0 w μ L) (hk : L[k]? = some (Own.sl (some ⟨g, 0, none⟩) l c E sz us)) (hx : ev m x = some (.pointer (some ⟨g, off, none⟩)))
    (hy : ev m y = some v) (hv : v.oneCell' = true) (ho : off < us.length) :
    Hv P m (.store t x y) w (fun _ w' => St w0 w' μ (L.set k (Own.sl (some ⟨g, 0, none⟩) l c E sz (us.set off v)))) :=
  .of_skip fun ρ ha o hop => by
    have hc : w.cell? ⟨g, off, none⟩ = some (us[off]) := Rd.sl hk (List.getElem?_eq_getElem ho) w hS.rd
    have hf : w.frozen? ⟨g, off, none⟩ = false := by
      obtain ⟨bs, _, hb⟩ := hS.rd.get hk
      rcases hb with ⟨hb, _⟩ | ⟨g', cur, hg, _, hh, _⟩
      · cases hb
      · cases hg
        have hb' : w.heap[g]? = some (.cells cur E (0, 0)) := hh
        simp [World.frozen?, hb']
    refine ⟨w.setCell ⟨g, off, none⟩ v, ?_, hS.set_sl hk off v⟩
    simp only [execOp, hop, ha _ _ hx, ha _ _ hy, Instr.storeAt, Instr.sureAddr, Sem.run_bind, Sem.run_pure, Result.andThen_ok, run_storeVar1 ht hv hc hf]
end Hv
end Go.Proofs.Ytgbdfgifgngijaa.Sy

/-
  Calls; loads and stores of whole structs.
-/
namespace Go.Proofs.Ytgbdfgifgngijaa.Sy
open Go.RowKit

def evs (m : List (Nat × Value)) : List Operand → Option (List Value)
  | [] => some []
  | x :: r => match ev m x, evs m r with
    | some v, some l => some (v :: l)
    | _, _ => none
theorem evs_map {m : List (Nat × Value)} {ρ : Operand → Value} (h : Ev m ρ) : ∀ {l : List Operand} {vs : List Value}, evs m l = some vs → l.map ρ = vs
  | [], _, e => by simpa [evs] using e
  | x :: r, vs, e => by
    simp only [evs] at e
    cases h1 : ev m x with
    | none => rw [h1] at e; cases e
    | some v =>
      cases h2 : evs m r with
      | none => rw [h1, h2] at e; cases e
      | some l =>
        rw [h1, h2] at e
        obtain rfl := Option.some.inj e
        rw [List.map_cons, h x v h1, evs_map h h2]

/-- The parts of a literal. -/
def evp (m : List (Nat × Value)) : List (Nat × Operand) → Option (List (Nat × Value))
  | [] => some []
  | (i, x) :: r => match ev m x, evp m r with
    | some v, some l => some ((i, v) :: l)
    | _, _ => none
theorem evp_map {m : List (Nat × Value)} {ρ : Operand → Value} (h : Ev m ρ) : ∀ {l : List (Nat × Operand)} {vs : List (Nat × Value)}, evp m l = some vs → (l.map fun p => (p.1, ρ p.2)) = vs
  | [], _, e => by simpa [evp] using e
  | (i, x) :: r, vs, e => by
    simp only [evp] at e
    cases h1 : ev m x with
    | none => rw [h1] at e; cases e
    | some v =>
      cases h2 : evp m r with
      | none => rw [h1, h2] at e; cases e
      | some l =>
        rw [h1, h2] at e
        obtain rfl := Option.some.inj e
        rw [List.map_cons, h x v h1, evp_map h h2]

/-- A function of the program that may be entered. -/
def Callable (P : Program) (f : FuncId) : Prop := ∃ fn, P.funcs[f]? = some fn ∧ (fn.name == "runtime.NumGoroutine") = false ∧ fn.body.isNone = false
theorem Callable.run {P : Program} {f : FuncId} (h : Callable P f) (args : Array Value) (w : World) : (callFunc f args).run P w = .ok (.enter f args) w := by
  obtain ⟨fn, h1, h2, h3⟩ := h
  have h2' : fn.name ≠ "runtime.NumGoroutine" := by simpa using h2
  have h3' : fn.body ≠ none := by intro e; rw [e] at h3; cases h3
  simp [callFunc, program, Sem.run, h1, h2', h3', go_sem]

section
variable {P : Program} {m : List (Nat × Value)} {w : World} {Φ : Value → World → Prop}

theorem Hv.call {o' : Call} {c : Operand} {as1 : List Operand} {ats : Array TypeId} {f : FuncId} {cap : Array Value} {args : List Value} (ho' : o' = { callee := .value c, args := as1.toArray, argTypes := ats })
    (hc : ev m c = some (.func (.func f) #[] cap)) (has : evs m as1 = some args) (hf : Callable P f)
    (hC : Calls P f (args ++ cap.toList).toArray w fun e w' => ∃ v, e = .returned v ∧ Φ v w') : Hv P m (.call o') w Φ :=
  .of_call (fun ρ ha o ho => by
    subst ho'
    have e1 : as1.map ρ = args := evs_map ha has
    have e2 : (args ++ cap.toList).toArray = (args.toArray ++ cap) := by simp
    simp only [execOp, ho, resolve, Deferred.ofValue, invoke, Sem.run_bind, Sem.run_pure, Result.andThen_ok, ha _ _ hc, List.map_toArray, e1]
    rw [e2]
    have := hf.run (args.toArray ++ cap) w
    simpa using this) hC

/-- A literal of a struct: what the run builds is told by a closed fact. -/
theorem Ex.build {S : World → Prop} {t : TypeId} {parts : List (Nat × Operand)} {ps : List (Nat × Value)} {v : Value} (hps : evp m parts = some ps) (hrun : ∀ w, (Instr.build t ps.toArray).run P w = .ok v w) :
    Ex P S m (.build t parts.toArray) v := fun ρ ha w _ o ho => by
  have e : (parts.toArray.map fun p => (p.1, ρ p.2)) = ps.toArray := by rw [List.map_toArray, evp_map ha hps]
  have h2 : (execOp ρ o) = (Instr.build t (parts.toArray.map fun p => (p.1, ρ p.2)) >>= fun v => pure (Next.value v)) := by simp only [execOp, ho]
  rw [h2, e, Sem.run_bind, hrun w]; rfl

theorem Ex.makeFunc {S : World → Prop} {f : FuncId} {caps : List Operand} {vs : List Value} (hv : evs m caps = some vs) : Ex P S m (.makeFunc (.func f) #[] caps.toArray) (.func (.func f) #[] vs.toArray) := fun ρ ha w _ o ho => by
  have e := evs_map ha hv
  simp [execOp, ho, Instr.makeFunc, e, go_sem]

theorem run_loadCells {a : Addr} : ∀ (vs : List Value) (i : Nat) (acc : Array Value) (w : World), (∀ j v, vs[j]? = some v → w.cell? (a.add (i + j)) = some v) → (loadCellsFrom a i vs.length acc).run P w = .ok (acc ++ vs.toArray) w
  | [], _, acc, w, _ => by simp [loadCellsFrom, go_sem]
  | v :: r, i, acc, w, h => by
    have h0 := h 0 v rfl
    simp only [Nat.add_zero] at h0
    have ih := run_loadCells r (i + 1) (acc.push v) w fun j u hu => by have := h (j + 1) u (by simpa using hu); rwa [show i + 1 + j = i + (j + 1) by omega]
    simp only [loadCellsFrom, List.length_cons, Sem.run_bind]
    simp only [load, Go.Sem.run, h0, Result.andThen_ok, ih]
    simp

theorem Ex.loadN {S : World → Prop} {t : TypeId} {d : TypeDesc} {z : Value} {by_ : Nat} {x : Operand} {b off : Nat} (vs : List Value) (ht : TI P t d z vs.length by_) (hd : aggD d = true) (hx : ev m x = some (.pointer (some ⟨b, off, none⟩)))
    (hc : ∀ w, S w → ∀ j v, vs[j]? = some v → w.cell? ⟨b, off + j, none⟩ = some v) : Ex P S m (.load t x) (.agg vs.toArray) := fun ρ ha w hS o ho => by
  have e1 := ht.isAgg w
  rw [hd] at e1
  have e2 := ht.sizeOf w
  have hadd : ∀ j, (⟨b, off, none⟩ : Addr).add j = ⟨b, off + j, none⟩ := fun j => by unfold Addr.add; split <;> simp_all
  have e3 := run_loadCells (P := P) (a := ⟨b, off, none⟩) vs 0 #[] w fun j v hv => by rw [hadd, Nat.zero_add]; exact hc w hS j v hv
  simp only [execOp, ho, ha _ _ hx, Instr.loadAt, Instr.sureAddr, loadVar, loadCells, Sem.run_bind, Sem.run_pure, Result.andThen_ok, e1, e2, e3, if_true]
  simp

/-- A store of a whole struct into a variable of the call's own: its cells from 0 on. -/
theorem run_storeCells_obj {b : Nat} {E : TypeId} {w0 : World} {μ : Mem} {L : List Own} {k : Nat} : ∀ (vs cs : List Value) (i : Nat) (w : World), St w0 w μ L → L[k]? = some (Own.obj b cs E) → i + vs.length ≤ cs.length → (∀ v ∈ vs, v.oneCell' = true) →
    ∃ w', (storeCells ⟨b, 0, none⟩ vs i).run P w = .ok () w' ∧ St w0 w' μ (L.set k (Own.obj b (cs.take i ++ vs ++ cs.drop (i + vs.length)) E))
  | [], cs, i, w, hS, hk, _, _ => ⟨w, by simp [storeCells, go_sem], by
      have e : cs.take i ++ [] ++ cs.drop (i + ([] : List Value).length) = cs := by simp
      rw [e]
      have : L.set k (Own.obj b cs E) = L := by
        apply List.ext_getElem?
        intro j
        by_cases hj : k = j
        · subst hj
          obtain ⟨hlt, hx⟩ := List.getElem?_eq_some_iff.1 hk
          rw [List.getElem?_set_self hlt, hk]
        · rw [List.getElem?_set_ne hj]
      rw [this]; exact hS⟩
  | v :: r, cs, i, w, hS, hk, hl, h1 => by
    simp only [List.length_cons] at hl
    have hi : i < cs.length := by omega
    obtain ⟨bs, _, hb⟩ := hS.rd.get hk
    have hc : w.cell? ⟨b, i, none⟩ = some (cs[i]) := by rw [cell_of_heap hb]; simp [hi]
    have hf : w.frozen? ⟨b, i, none⟩ = false := by have hb' : w.heap[b]? = some (.cells cs.toArray E (0, 0)) := hb; simp [World.frozen?, hb']
    have hadd : (⟨b, 0, none⟩ : Addr).add i = ⟨b, i, none⟩ := by unfold Addr.add; split <;> simp_all
    have hS1 := hS.set_obj hk i v
    obtain ⟨hkl, _⟩ := List.getElem?_eq_some_iff.1 hk
    obtain ⟨w', hr, hS'⟩ := run_storeCells_obj r (cs.set i v) (i + 1) _ hS1 (by rw [List.getElem?_set_self hkl]) (by simp; omega) fun u hu => h1 u (List.mem_cons_of_mem _ hu)
    refine ⟨w', ?_, ?_⟩
    · simp only [storeCells, Sem.run_bind, hadd, store]
      rw [Sem.run_store1 (h1 v (List.mem_cons_self ..)) hc hf]
      simp only [Go.Sem.run, Result.andThen_ok, hr]
    · rw [List.set_set] at hS'
      have e : (cs.set i v).take (i + 1) ++ r ++ (cs.set i v).drop (i + 1 + r.length) = cs.take i ++ v :: r ++ cs.drop (i + (r.length + 1)) := by
        rw [List.take_set, List.drop_set]
        have : (cs.take (i + 1)).set i v = cs.take i ++ [v] := by
          rw [List.take_succ_eq_append_getElem hi, List.set_append_right _ _ (by simp; omega)]
          simp [Nat.min_eq_left (Nat.le_of_lt hi)]
        rw [this]
        simp [show i + 1 + r.length = i + (r.length + 1) by omega]
      rw [e] at hS'
      exact hS'

theorem Hv.storeN {t E : TypeId} {d : TypeDesc} {z : Value} {by_ k b : Nat} {x y : Operand} {w0 : World} {μ : Mem} {L : List Own} {cs vs : List Value} (ht : TI P t d z vs.length by_) (hS : St w0 w μ L) (hk : L[k]? = some (Own.obj b cs E))
    (hx : ev m x = some (.pointer (some ⟨b, 0, none⟩))) (hy : ev m y = some (.agg vs.toArray)) (hl : cs.length = vs.length) (hv : ∀ v ∈ vs, v.oneCell' = true) :
    Hv P m (.store t x y) w (fun _ w' => St w0 w' μ (L.set k (Own.obj b vs E))) :=
  .of_skip fun ρ ha o ho => by
    obtain ⟨w', hr, hS'⟩ := run_storeCells_obj (P := P) vs cs 0 w hS hk (by omega) hv
    refine ⟨w', ?_, ?_⟩
    · have e2 := ht.sizeOf w
      simp only [execOp, ho, ha _ _ hx, ha _ _ hy, Instr.storeAt, Instr.sureAddr, storeVar, Value.cells, List.size_toArray, Sem.run_bind, Sem.run_pure, Result.andThen_ok, e2, ne_eq, not_true_eq_false, if_false, hr]
    · have e : cs.take 0 ++ vs ++ cs.drop (0 + vs.length) = vs := by simp [← hl]
      rw [e] at hS'; exact hS'
end
end Go.Proofs.Ytgbdfgifgngijaa.Sy

/-
  How Go's data lie in immutable memory, by type (El, Sl); what a contract says (RetS, RetV).
-/
namespace Go.Proofs.Ytgbdfgifgngijaa.Sy
open Go.RowKit

class El (α : Type) where
  sz : Nat
  rep : Mem → (Nat → Option Value) → α → Prop
  mono : ∀ {n : Nat} {μ μ' : Mem} {f f' : Nat → Option Value} {x : α}, Mem.ext n μ μ' → (∀ j v, f j = some v → f' j = some v) → rep μ f x → rep μ' f' x

/-- A slice value '.slice ad xs.length c' reads as xs. -/
def Sl {α : Type} [El α] (μ : Mem) (ad : Option Addr) (c : Nat) (xs : List α) : Prop :=
  xs.length ≤ c ∧ c ≤ maxLen ∧ ∀ i (h : i < xs.length), ∃ b off, ad = some ⟨b, off, none⟩ ∧ El.rep μ (fun j => μ.cell b (off + i * El.sz α + j)) xs[i]

/-- Cells that read as xs. -/
def RepL {α : Type} [El α] (μ : Mem) (us : List Value) (xs : List α) : Prop :=
  us.length = xs.length * El.sz α ∧ ∀ i (h : i < xs.length), El.rep μ (fun j => if j < El.sz α then us[i * El.sz α + j]? else none) xs[i]

section
variable {α : Type} [El α] {n : Nat} {μ μ' : Mem} {ad : Option Addr} {c : Nat} {xs : List α}

theorem Sl.mono (h : Sl μ ad c xs) (hm : Mem.ext n μ μ') : Sl μ' ad c xs :=
  ⟨h.1, h.2.1, fun i hi => let ⟨b, off, e, hr⟩ := h.2.2 i hi; ⟨b, off, e, El.mono hm (fun _ _ hv => hm.cell hv) hr⟩⟩
theorem RepL.mono {us : List Value} (h : RepL μ us xs) (hm : Mem.ext n μ μ') : RepL μ' us xs := ⟨h.1, fun i hi => El.mono hm (fun _ _ hv => hv) (h.2 i hi)⟩
theorem Sl.nil (μ : Mem) (ad : Option Addr) (c : Nat) (hc : c ≤ maxLen) : Sl μ ad c ([] : List α) := ⟨Nat.zero_le _, hc, fun _ hi => absurd hi (Nat.not_lt_zero _)⟩
theorem RepL.nil (μ : Mem) : RepL μ [] ([] : List α) := ⟨by simp, fun i hi => absurd hi (Nat.not_lt_zero _)⟩
theorem Sl.at (h : Sl μ ad c xs) {i : Nat} (hi : i < xs.length) : ∃ b off, ad = some ⟨b, off, none⟩ ∧ El.rep μ (fun j => μ.cell b (off + i * El.sz α + j)) xs[i] := h.2.2 i hi

theorem RepL.snoc {us vs : List Value} {x : α} (h : RepL μ us xs) (hl : vs.length = El.sz α) (hr : El.rep μ (fun j => vs[j]?) x) : RepL μ (us ++ vs) (xs ++ [x]) := by
  refine ⟨by simp [h.1, hl, Nat.add_mul], fun i hi => ?_⟩
  simp only [List.length_append, List.length_cons, List.length_nil] at hi
  by_cases hlt : i < xs.length
  · rw [List.getElem_append_left hlt]
    refine El.mono (Mem.ext.refl 0 μ) (fun j v hv => ?_) (h.2 i hlt)
    split at hv
    · rename_i hj
      rw [if_pos hj, List.getElem?_append_left]
      · exact hv
      · exact (List.getElem?_eq_some_iff.1 hv).1
    · cases hv
  · have e : i = xs.length := by omega
    subst e
    rw [List.getElem_append_right (Nat.le_refl _)]
    simp only [Nat.sub_self, List.getElem_cons_zero]
    refine El.mono (Mem.ext.refl 0 μ) (fun j v hv => ?_) hr
    have hj : j < El.sz α := by rw [← hl]; exact (List.getElem?_eq_some_iff.1 hv).1
    rw [if_pos hj, List.getElem?_append_right (by rw [h.1]; omega), h.1]
    rw [show xs.length * El.sz α + j - xs.length * El.sz α = j by omega]
    exact hv

theorem RepL.take {us : List Value} (h : RepL μ us xs) (k : Nat) (hk : k ≤ xs.length) : RepL μ (us.take (k * El.sz α)) (xs.take k) := by
  refine ⟨by rw [List.length_take, List.length_take, h.1, Nat.min_eq_left (Nat.mul_le_mul_right _ hk), Nat.min_eq_left hk], fun i hi => ?_⟩
  rw [List.length_take, Nat.min_eq_left hk] at hi
  rw [List.getElem_take]
  refine El.mono (Mem.ext.refl 0 μ) (fun j v hv => ?_) (h.2 i (by omega))
  split at hv
  · rename_i hj
    rw [if_pos hj, List.getElem?_take, if_pos ?_]
    · exact hv
    · calc i * El.sz α + j < i * El.sz α + El.sz α := by omega
        _ = (i + 1) * El.sz α := by rw [Nat.add_mul, Nat.one_mul]
        _ ≤ k * El.sz α := Nat.mul_le_mul_right _ hi
  · cases hv

/-- What has been shut reads as before. -/
theorem Sl.of_own {bs : List Nat} {l : Nat} {E : TypeId} {us : List Value} (h : (Own.sl ad l c E (El.sz α) us).φ bs μ) (hr : RepL μ us xs) (hl : l = xs.length) : Sl μ ad c xs := by
  subst hl
  obtain ⟨hlen, hφ⟩ := h
  rcases hφ with ⟨rfl, h0, rfl, rfl⟩ | ⟨g, cur, rfl, rfl, hh, h1, h2, h3, h4⟩
  · exact ⟨by omega, by simp [maxLen], fun i hi => by omega⟩
  · refine ⟨h1, h2, fun i hi => ⟨g, 0, rfl, ?_⟩⟩
    refine El.mono (Mem.ext.refl 0 μ) (fun j v hv => ?_) (hr.2 i hi)
    split at hv
    · rename_i hj
      simp only [Mem.cell, hh]
      rw [← h4, List.getElem?_take] at hv
      split at hv
      · simpa using hv
      · cases hv
    · cases hv

end

/-- A contract of a function whose result is a plain value. -/
def RetS (w : World) (v : Value) (e : Ending) (w' : World) : Prop := e = .returned v ∧ Bel w.heap.size w w'
/-- A contract of a function that hands back data: in immutable memory, which may have grown. -/
def RetV (w : World) (μ : Mem) (Φ : Mem → Value → Prop) (e : Ending) (w' : World) : Prop :=
  ∃ v μ', e = .returned v ∧ Bel w.heap.size w w' ∧ Mem.ext w.heap.size μ μ' ∧ Imm μ' w' ∧ Φ μ' v
/-- The data: a slice. -/
def IsSl {α : Type} [El α] (xs : List α) (μ : Mem) (v : Value) : Prop := ∃ ad c, v = .slice ad xs.length c ∧ Sl μ ad c xs

theorem St.retS {w w' : World} {μ : Mem} {L : List Own} {v : Value} (h : St w w' μ L) : RetS w v (.returned v) w' := ⟨rfl, h.below⟩

section
variable {P : Program} {m : List (Nat × Value)} {w : World}
/-- A call whose result is a plain value: for the caller. -/
theorem Hv.callS {o' : Call} {c : Operand} {as1 : List Operand} {ats : Array TypeId} {f : FuncId} {cap : Array Value} {args : List Value} {w0 : World} {μ : Mem} {L : List Own} {v : Value} (hS : St w0 w μ L)
    (ho' : o' = { callee := .value c, args := as1.toArray, argTypes := ats }) (hc : ev m c = some (.func (.func f) #[] cap)) (has : evs m as1 = some args) (hf : Callable P f)
    (hC : Calls P f (args ++ cap.toList).toArray w (RetS w v)) : Hv P m (.call o') w (fun u w' => u = v ∧ St w0 w' μ L) :=
  Hv.call ho' hc has hf (hC.mono fun _ _ ⟨he, hb⟩ => ⟨v, he, rfl, hS.grow hb⟩)
/-- A call that hands back data. -/
theorem Hv.callV {o' : Call} {c : Operand} {as1 : List Operand} {ats : Array TypeId} {f : FuncId} {cap : Array Value} {args : List Value} {w0 : World} {μ : Mem} {L : List Own} {Φ : Mem → Value → Prop} (hS : St w0 w μ L)
    (ho' : o' = { callee := .value c, args := as1.toArray, argTypes := ats }) (hc : ev m c = some (.func (.func f) #[] cap)) (has : evs m as1 = some args) (hf : Callable P f)
    (hC : Calls P f (args ++ cap.toList).toArray w (RetV w μ Φ)) : Hv P m (.call o') w (fun u w' => ∃ μ', Φ μ' u ∧ Mem.ext w.heap.size μ μ' ∧ St w0 w' μ' L) :=
  Hv.call ho' hc has hf (hC.mono fun _ _ ⟨v, μ', he, hb, hm, hi, hv⟩ => ⟨v, he, μ', hv, hm, hS.mem hb hm hi⟩)
end

instance : El Int := ⟨1, fun _ f x => f 0 = some (.int .i64 x), fun _ hf h => hf _ _ h⟩
instance : El UInt8 := ⟨1, fun _ f x => f 0 = some (.int .u8 x.toNat), fun _ hf h => hf _ _ h⟩
instance : El Bool := ⟨1, fun _ f x => f 0 = some (.bool x), fun _ hf h => hf _ _ h⟩
instance : El ByteArray := ⟨1, fun _ f x => f 0 = some (.string x), fun _ hf h => hf _ _ h⟩

theorem RepL.ints1 (μ : Mem) (x : Int) : RepL μ [.int .i64 x] [x] := (RepL.nil μ).snoc rfl rfl
theorem RepL.ints2 (μ : Mem) (x y : Int) : RepL μ [.int .i64 x, .int .i64 y] [x, y] := (RepL.ints1 μ x).snoc rfl rfl
theorem RepL.ints (μ : Mem) : ∀ xs : List Int, RepL μ (xs.map fun x => Value.int .i64 x) xs := fun xs =>
  ⟨by show _ = xs.length * 1; simp, fun i hi => by show (if 0 < 1 then _ else _) = _; simp; show xs[i * 1]? = _; simp [hi]⟩

/-! ### Lending: a callee that hands back a plain value may read what the call owns -/
theorem imm_memOf (w : World) : Imm (memOf w) w := fun _ _ h => h
theorem St.lend_obj {α : Type} [El α] {w0 w : World} {μ : Mem} {L : List Own} {k b : Nat} {cs : List Value} {E : TypeId} {xs : List α} (h : St w0 w μ L) (hk : L[k]? = some (Own.obj b cs E)) (hr : RepL (memOf w) cs xs) (hm : xs.length ≤ maxLen) :
    Sl (memOf w) (some ⟨b, 0, none⟩) xs.length xs := by
  obtain ⟨bs, _, hb⟩ := h.rd.get hk
  refine ⟨Nat.le_refl _, hm, fun i hi => ⟨b, 0, rfl, ?_⟩⟩
  refine El.mono (Mem.ext.refl 0 _) (fun j v hv => ?_) (hr.2 i hi)
  split at hv
  · simp only [Mem.cell, hb]; simpa using hv
  · cases hv
/-- What lies in immutable memory lies in the world. -/
theorem Imm.ext {μ : Mem} {w : World} (h : Imm μ w) : Mem.ext 0 μ (memOf w) := ⟨h, fun _ hb => absurd hb (Nat.not_lt_zero _)⟩

end Go.Proofs.Ytgbdfgifgngijaa.Sy

/-
  Literals of structs, arrays and slices; splitting at a test.
-/
namespace Go.Proofs.Ytgbdfgifgngijaa.Sy
open Go.RowKit

def cellsL : Value → List Value
  | .agg cs => cs.toList
  | v => [v]
theorem cellsL_eq (v : Value) : cellsL v = v.cells.toList := by cases v <;> rfl

/-- vs over cs, from place off on. -/
def setAll (cs : List Value) (off : Nat) : List Value → List Value
  | [] => cs
  | v :: r => setAll (cs.set off v) (off + 1) r
/-- The parts of a literal over the zero cells. -/
def overlay (place : Nat → Option (Nat × Nat)) (cs : List Value) : List (Nat × Value) → Option (List Value)
  | [] => some cs
  | (i, v) :: r =>
    match place i with
    | none => none
    | some (off, size) => bif Nat.beq (cellsL v).length size && Nat.ble (off + size) cs.length then overlay place (setAll cs off (cellsL v)) r else none
/-- The list, laid out. -/
def spine : List Value → Option (List Value)
  | [] => some []
  | v :: r => match spine r with
    | some l => some (v :: l)
    | none => none
theorem spine_eq : ∀ {l l' : List Value}, spine l = some l' → l' = l
  | [], _, e => (Option.some.inj e).symm
  | v :: r, l', e => by
    simp only [spine] at e
    cases h : spine r with
    | none => rw [h] at e; cases e
    | some l => rw [h] at e; obtain rfl := Option.some.inj e; rw [spine_eq h]

theorem fold_setAll : ∀ (vs : List Value) (cs : Array Value) (off k : Nat),
    ((vs.zipIdx k).foldl (fun (cs : Array Value) (p : Value × Nat) => cs.setIfInBounds (off + p.2) p.1) cs).toList = setAll cs.toList (off + k) vs
  | [], _, _, _ => rfl
  | v :: r, cs, off, k => by
    simp only [List.zipIdx_cons, List.foldl_cons, setAll]
    rw [fold_setAll r _ off (k + 1)]
    simp only [Array.toList_setIfInBounds, Nat.add_assoc]
theorem fill_overlay {place : Nat → Option (Nat × Nat)} : ∀ {ps : List (Nat × Value)} {cs : Array Value} {l : List Value}, overlay place cs.toList ps = some l → Instr.fill place cs ps = some l.toArray
  | [], cs, l, e => by
    simp only [overlay, Option.some.injEq] at e
    subst e
    simp [Instr.fill]
  | (i, v) :: r, cs, l, e => by
    simp only [overlay] at e
    simp only [Instr.fill]
    cases hp : place i with
    | none => rw [hp] at e; cases e
    | some q =>
      obtain ⟨off, size⟩ := q
      rw [hp] at e
      simp only at e ⊢
      cases hb : (Nat.beq (cellsL v).length size && Nat.ble (off + size) cs.toList.length) with
      | false => rw [hb] at e; cases e
      | true =>
        rw [hb] at e
        simp only [cond_true] at e
        simp only [Bool.and_eq_true] at hb
        have h1 : v.cells.size = size := by have := Nat.eq_of_beq_eq_true hb.1; rw [cellsL_eq] at this; simpa using this
        have h2 : off + size ≤ cs.size := by simpa using Nat.le_of_ble_eq_true hb.2
        rw [if_neg (by rw [h1]; simp; omega)]
        have h3 := fold_setAll v.cells.toList cs off 0
        have h4 : (v.cells.zipIdx.foldl (fun (cs : Array Value) (p : Value × Nat) => cs.setIfInBounds (off + p.2) p.1) cs).toList = setAll cs.toList off (cellsL v) := by
          rw [cellsL_eq, ← Array.foldl_toList, Array.toList_zipIdx]
          simpa using h3
        refine fill_overlay ?_
        rw [h4]; exact e

/-- A struct type: where its fields lie, and its zero cells. -/
def StI (P : Program) (t : TypeId) (places : List (Nat × Nat)) (zs : List Value) : Prop :=
  ((P.underlying t).bind fun d => match d with | .struct fs => some (fs.toList.map fun f => (f.offset, (P.info? f.type).map (·.size))) | _ => none) = some (places.map fun p => (p.1, some p.2)) ∧
  (P.info? t).map (·.zero) = some (some (.agg zs.toArray))

theorem run_sizeOf' {P : Program} {t : TypeId} {s : Nat} (h : (P.info? t).map (·.size) = some s) (w : World) : (sizeOf t).run P w = .ok s w := by
  cases hi : P.info? t with
  | none => rw [hi] at h; cases h
  | some i => rw [hi] at h; simp only [Option.map_some, Option.some.injEq] at h; simp [sizeOf, typeInfo, program, Sem.run, hi, h, go_sem]
theorem run_zero' {P : Program} {t : TypeId} {z : Value} (h : (P.info? t).map (·.zero) = some (some z)) (w : World) : (zeroValue t).run P w = .ok z w := by
  cases hi : P.info? t with
  | none => rw [hi] at h; cases h
  | some i => rw [hi] at h; simp only [Option.map_some, Option.some.injEq] at h; simp [zeroValue, typeInfo, program, Sem.run, hi, h, go_sem]

theorem run_places {P : Program} (w : World) : ∀ (fs : List Field) (places : List (Nat × Nat)), (fs.map fun f => (f.offset, (P.info? f.type).map (·.size))) = (places.map fun p => (p.1, some p.2)) →
    (fs.mapM (m := Sem) fun f => do pure (f.offset, ← sizeOf f.type)).run P w = .ok places w
  | [], places, h => by
    cases places with
    | nil => simp [go_sem]
    | cons p r => cases h
  | f :: r, places, h => by
    cases places with
    | nil => cases h
    | cons p ps =>
      simp only [List.map_cons, List.cons.injEq, Prod.mk.injEq] at h
      obtain ⟨⟨h1, h2⟩, h3⟩ := h
      have ih := run_places w r ps h3
      simp only [List.mapM_cons, Sem.run_bind, run_sizeOf' h2, Result.andThen_ok, Sem.run_pure, ih, h1]

theorem run_build {P : Program} {t : TypeId} {places : List (Nat × Nat)} {zs vs : List Value} {ps : List (Nat × Value)} {l : List Value} (hT : StI P t places zs) (ho : overlay (fun i : Nat => places[i]?) zs ps = some l) (hs : spine l = some vs) (w : World) :
    (Instr.build t ps.toArray).run P w = .ok (.agg vs.toArray) w := by
  obtain rfl := spine_eq hs
  obtain ⟨h1, h2⟩ := hT
  cases hu : P.underlying t with
  | none => rw [hu] at h1; cases h1
  | some d =>
    rw [hu] at h1
    simp only [Option.bind_some] at h1
    cases d <;> simp only [reduceCtorEq, Option.some.injEq] at h1
    rename_i fs
    have e1 : (Go.underlying t).run P w = .ok (.struct fs) w := by simp [Go.underlying, program, Sem.run, hu, go_sem]
    have e2 := run_places (P := P) w fs.toList places h1
    have e3 : (fs.mapM (m := Sem) fun f => do pure (f.offset, ← sizeOf f.type)).run P w = .ok places.toArray w := by
      rw [Array.mapM_eq_mapM_toList]
      simp only [Sem.run_map, e2, Result.andThen_ok]
    have e4 : Instr.fill (fun i : Nat => places.toArray[i]?) zs.toArray ps = some vs.toArray := by
      have : (fun i : Nat => places.toArray[i]?) = fun i : Nat => places[i]? := by funext i; simp
      rw [this]
      exact fill_overlay (by simpa using ho)
    simp only [Instr.build, Sem.run_bind, run_zero' h2, Result.andThen_ok, e1, e3, Value.cells, e4, Sem.run_pure]

theorem Ex.buildS {P : Program} {S : World → Prop} {m : List (Nat × Value)} {t : TypeId} {parts : List (Nat × Operand)} {ps : List (Nat × Value)} {places : List (Nat × Nat)} {zs l vs : List Value} (hT : StI P t places zs) (hps : evp m parts = some ps)
    (ho : overlay (fun i : Nat => places[i]?) zs ps = some l) (hs : spine l = some vs) : Ex P S m (.build t parts.toArray) (.agg vs.toArray) := Ex.build hps (run_build hT ho hs)

/-- The zero cells of n elements. -/
def zerosL (z : List Value) : Nat → List Value
  | 0 => []
  | n + 1 => z ++ zerosL z n
theorem zerosL_length (z : List Value) : ∀ n, (zerosL z n).length = n * z.length
  | 0 => by simp [zerosL]
  | n + 1 => by simp [zerosL, zerosL_length z n, Nat.add_mul, Nat.add_comm]
theorem zerosL_get (z : List Value) (hz : 0 < z.length) : ∀ n i, i < n * z.length → (zerosL z n)[i]? = z[i % z.length]?
  | 0, i, h => by omega
  | n + 1, i, h => by
    simp only [zerosL]
    by_cases hi : i < z.length
    · rw [List.getElem?_append_left hi, Nat.mod_eq_of_lt hi]
    · have h' : i - z.length < n * z.length := by rw [Nat.add_mul, Nat.one_mul] at h; omega
      rw [List.getElem?_append_right (by omega), zerosL_get z hz n _ h']
      congr 1
      exact (Nat.mod_eq_sub_mod (by omega)).symm
theorem range_zeros (z : Array Value) (hz : 0 < z.size) (n : Nat) : ((Array.range (n * z.size)).map (fun i => z[i % z.size]!)).toList = zerosL z.toList n := by
  apply List.ext_getElem?
  intro i
  by_cases hi : i < n * z.size
  · rw [zerosL_get z.toList (by simpa using hz) n i (by simpa using hi)]
    have : i % z.size < z.size := Nat.mod_lt _ hz
    simp [hi, this]
  · have h1 : (zerosL z.toList n)[i]? = none := by rw [List.getElem?_eq_none]; rw [zerosL_length]; simpa using hi
    rw [h1]; simp; omega

theorem run_buildSlice {P : Program} {t E : TypeId} {d : TypeDesc} {z : Value} {sz by_ len : Nat} {ps : List (Nat × Value)} {l vs : List Value} (ht : P.underlying t = some (.slice E)) (hE : TI P E d z sz by_) (hz : (cellsL z).length = sz) (h0 : Nat.blt 0 sz = true)
    (hl : Nat.ble (len * sz) 16777216 = true) (ho : overlay (fun i => some (i * sz, sz)) (zerosL (cellsL z) len) ps = some l) (hs : spine l = some vs) (w : World) :
    (Instr.buildSlice t len ps.toArray).run P w = .ok (.slice (some ⟨w.heap.size, 0, none⟩) len len) (w.alloc (.cells vs.toArray E)) := by
  obtain rfl := spine_eq hs
  have e1 := run_underlying (w := w) ht
  have e2 := hE.sizeOf w
  have e3 := hE.zeroValue w
  have hl' : len * sz ≤ 16777216 := Nat.le_of_ble_eq_true hl
  have h0' : 0 < sz := Nat.le_of_ble_eq_true h0
  have hzs : z.cells.size = sz := by rw [cellsL_eq] at hz; simpa using hz
  have e4 : Instr.fill (fun i : Nat => some (i * sz, sz)) ((Array.range (len * sz)).map (fun i => z.cells[i % z.cells.size]!)) ps = some vs.toArray := by
    refine fill_overlay ?_
    have := range_zeros z.cells (by omega) len
    rw [hzs] at this
    rw [hzs, this, ← cellsL_eq]
    exact ho
  by_cases hlen : len * sz = 0
  · have hl0 : len = 0 := by rcases Nat.mul_eq_zero.1 hlen with h | h <;> omega
    subst hl0
    have e5 : Instr.fill (fun i : Nat => some (i * sz, sz)) #[] ps = some vs.toArray := by have e6 := e4; rw [Nat.zero_mul, show Array.range 0 = #[] from rfl, Array.map_empty] at e6; exact e6
    simp [Instr.buildSlice, e1, e2, e5, newRow, newObj, go_sem, Sem.run]
  · have hn : ¬ (len * sz > 16777216) := by omega
    simp only [Instr.buildSlice, Sem.run_bind, e1, Result.andThen_ok, e2, Nat.reducePow, hn, if_false, hlen, e3, Sem.run_pure, e4]
    simp [newRow, newObj, Sem.run, go_sem]

theorem Hv.buildSl {P : Program} {m : List (Nat × Value)} {t E : TypeId} {d : TypeDesc} {z : Value} {sz by_ len : Nat} {parts : List (Nat × Operand)} {ps : List (Nat × Value)} {l vs : List Value} {w0 w : World} {μ : Mem} {L : List Own}
    (hS : St w0 w μ L) (ht : P.underlying t = some (.slice E)) (hE : TI P E d z sz by_) (hz : (cellsL z).length = sz) (h0 : Nat.blt 0 sz = true) (hl : Nat.ble (len * sz) 16777216 = true)
    (hps : evp m parts = some ps) (ho : overlay (fun i => some (i * sz, sz)) (zerosL (cellsL z) len) ps = some l) (hs : spine l = some vs) :
    Hv P m (.buildSlice t len parts.toArray) w (fun u w' => ∃ b, u = .slice (some ⟨b, 0, none⟩) len len ∧ w.heap.size ≤ b ∧ St w0 w' μ (Own.obj b vs E :: L)) :=
  Hv.buildSlice hS (fun ρ ha => by rw [List.map_toArray, evp_map ha hps]) (run_buildSlice ht hE hz h0 hl ho hs)

/-! ### Splitting at a test -/
section
variable {P : Program} {ops : Array Oper} {Q : Exit → Act → World → Prop} {n : Nat} {m : List (Nat × Value)} {w : World} {rest : List Nat} {d : Nat} {b : Bool} {S : World → Prop} {tail : List Nat} {pl : Plan}
theorem LW.splitB (ht : b = true → LW P ops Q rest n ((d, .bool true) :: m) w) (hf : b = false → LW P ops Q rest n ((d, .bool false) :: m) w) : LW P ops Q rest n ((d, .bool b) :: m) w := by
  cases b with
  | true => exact ht rfl
  | false => exact hf rfl
theorem PW.splitB (ht : b = true → PW P ops Q S tail pl n ((d, .bool true) :: m) w) (hf : b = false → PW P ops Q S tail pl n ((d, .bool false) :: m) w) : PW P ops Q S tail pl n ((d, .bool b) :: m) w := by
  cases b with
  | true => exact ht rfl
  | false => exact hf rfl
end

end Go.Proofs.Ytgbdfgifgngijaa.Sy
