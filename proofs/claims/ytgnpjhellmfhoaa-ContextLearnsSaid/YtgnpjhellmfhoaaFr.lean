/-
  Frames as lists of live slots; operations whose value is known (Ex); regions as index lists (LW) and by a plan (PW); code (CW).
-/
import Derived.Test.YtgnpjhellmfhoaaSy
import Derived.StillTail
namespace Go.Proofs.Ytgnpjhellmfhoaa.Sy
open Go.RowKit

def look : List (Nat × Value) → Nat → Option Value
  | [], _ => none
  | (j, v) :: m, k => bif Nat.beq j k then some v else look m k

structure Fr (a : Act) (n : Nat) (m : List (Nat × Value)) : Prop where
  defers : a.defers = []
  size : a.tmps.size = n
  get : ∀ k v, look m k = some v → a.tmps[k]? = some v

def ev (m : List (Nat × Value)) : Operand → Option Value
  | .tmp t => look m t
  | .const v => some v
  | .global g => some (.pointer (some ⟨g, 0, none⟩))
  | .func f => some (.func (.func f) #[] #[])

theorem Fr.eval {a : Act} {n : Nat} {m : List (Nat × Value)} (h : Fr a n m) {x : Operand} {v : Value} (e : ev m x = some v) : a.eval x = v := by
  cases x with
  | tmp t => simp only [Act.eval, Array.getD_eq_getD_getElem?, h.get t v e, Option.getD_some]
  | const c => exact Option.some.inj e
  | global g => exact Option.some.inj e
  | func f => exact Option.some.inj e

theorem Fr.put {a : Act} {n : Nat} {m : List (Nat × Value)} (h : Fr a n m) {d : Nat} (hd : d < n) (v : Value) : Fr (a.put (some d) v) n ((d, v) :: m) := by
  refine ⟨h.defers, by simp [Act.put, h.size], fun k u e => ?_⟩
  simp only [look] at e
  by_cases hk : d = k
  · subst hk
    simp only [Nat.beq_refl, cond_true] at e
    obtain rfl := Option.some.inj e
    simp [Act.put, h.size, hd]
  · have : Nat.beq d k = false := by
      cases hb : Nat.beq d k with
      | false => rfl
      | true => exact absurd (Nat.eq_of_beq_eq_true hb) hk
    rw [this] at e
    simp only [cond_false] at e
    simp only [Act.put, Array.getElem?_setIfInBounds_ne hk]
    exact h.get k u e
theorem Fr.put_none {a : Act} {n : Nat} {m : List (Nat × Value)} (h : Fr a n m) (v : Value) : Fr (a.put none v) n m := h

/-- m' says no more than m. -/
def Sub (m : List (Nat × Value)) : List (Nat × Value) → Prop
  | [] => True
  | (k, v) :: r => look m k = some v ∧ Sub m r
theorem Sub.get {m : List (Nat × Value)} : ∀ {m' : List (Nat × Value)}, Sub m m' → ∀ k v, look m' k = some v → look m k = some v
  | [], _, _, _, e => by cases e
  | (j, u) :: r, ⟨h1, h2⟩, k, v, e => by
    simp only [look] at e
    cases hb : Nat.beq j k with
    | true =>
      rw [hb] at e
      simp only [cond_true, Option.some.injEq] at e
      have : j = k := by simpa using hb
      subst this; subst e; exact h1
    | false => rw [hb] at e; exact Sub.get h2 k v e
theorem Fr.sub {a : Act} {n : Nat} {m m' : List (Nat × Value)} (h : Fr a n m) (hs : Sub m m') : Fr a n m' := ⟨h.defers, h.size, fun k v e => h.get k v (hs.get k v e)⟩

/-- At the start: the arguments in the first slots. -/
def slots : Nat → List Value → List (Nat × Value)
  | _, [] => []
  | i, v :: r => (i, v) :: slots (i + 1) r
theorem slots_get : ∀ (l : List Value) (i k : Nat) (v : Value), look (slots i l) k = some v → i ≤ k ∧ l[k - i]? = some v
  | [], _, _, _, e => by cases e
  | u :: r, i, k, v, e => by
    simp only [slots, look] at e
    cases hb : Nat.beq i k with
    | true =>
      rw [hb] at e
      have : i = k := by simpa using hb
      subst this
      simpa using e
    | false =>
      rw [hb] at e
      have hne : i ≠ k := fun e => by subst e; simp at hb
      obtain ⟨h1, h2⟩ := slots_get r (i + 1) k v (by simpa using e)
      refine ⟨by omega, ?_⟩
      rw [show k - i = (k - (i + 1)) + 1 by omega]
      simpa using h2
theorem Fr.start (args : List Value) (n : Nat) (hn : args.length ≤ n) :
    Fr { tmps := args.toArray ++ Array.replicate (n - args.toArray.size) undef, defers := [] } n (slots 0 args) := by
  refine ⟨rfl, by simp; omega, fun k v e => ?_⟩
  obtain ⟨_, h2⟩ := slots_get args 0 k v e
  have hlt : k < args.length := (List.getElem?_eq_some_iff.1 h2).1
  simp only [Nat.sub_zero] at h2
  rw [Array.getElem?_append_left (by simpa using hlt)]
  simpa using h2

/-! ### Operations whose value is known -/
def Ev (m : List (Nat × Value)) (ρ : Operand → Value) : Prop := ∀ x v, ev m x = some v → ρ x = v
theorem Fr.ev {a : Act} {n : Nat} {m : List (Nat × Value)} (h : Fr a n m) : Ev m a.eval := fun _ _ e => h.eval e
def Ex (P : Program) (S : World → Prop) (m : List (Nat × Value)) (op : Op) (v : Value) : Prop :=
  ∀ ρ, Ev m ρ → ∀ w, S w → ∀ o : Oper, o.op = op → (execOp ρ o).run P w = .ok (.value v) w

/-- The guard of an operation, decided by the frame: 'some true': it runs; 'some false': it does not. -/
def guarded (ops : Array Oper) (m : List (Nat × Value)) (o : Oper) : Option Bool :=
  match o.guard with
  | none => some true
  | some (j, want) =>
    match (ops[j]?).bind (·.dst) with
    | none => none
    | some t =>
      match look m t with
      | some (.bool b) => some (b == want)
      | some (.tuple _) => some false
      | _ => none

theorem wanted_of {ops : Array Oper} {m : List (Nat × Value)} {o : Oper} {a : Act} {n : Nat} {b : Bool} (h : Fr a n m) (hg : guarded ops m o = some b) : Region.wanted o (yielded ops a.tmps) = b := by
  unfold guarded at hg
  unfold Region.wanted
  cases ho : o.guard with
  | none => rw [ho] at hg; simpa using hg
  | some p =>
    obtain ⟨j, want⟩ := p
    rw [ho] at hg
    simp only at hg ⊢
    unfold yielded
    cases ht : (ops[j]?).bind (·.dst) with
    | none => rw [ht] at hg; cases hg
    | some t =>
      rw [ht] at hg
      simp only at hg ⊢
      cases hl : look m t with
      | none => rw [hl] at hg; cases hg
      | some v =>
        rw [hl] at hg
        have := h.get t v hl
        cases v <;> simp_all

/-! ### Regions, in the order of a list of indices -/
def LW (P : Program) (ops : Array Oper) (Q : Exit → Act → World → Prop) (l : List Nat) (n : Nat) (m : List (Nat × Value)) (w : World) : Prop :=
  ∀ a, Fr a n m → wpOps P ops Q l a w

section
variable {P : Program} {ops : Array Oper} {Q : Exit → Act → World → Prop} {n : Nat} {m : List (Nat × Value)} {w : World} {rest : List Nat} {i : Nat} {o : Oper}

theorem LW.nil (h : ∀ a, Fr a n m → Q .normal a w) : LW P ops Q [] n m w := fun a ha => h a ha

theorem wpOps_at {a : Act} (hi : ops[i]? = some o) (h : if Region.wanted o (yielded ops a.tmps) then o.wp P a w (wpOps P ops Q rest) Q else wpOps P ops Q rest (a.put o.dst undef) w) :
    wpOps P ops Q (i :: rest) a w := by
  simp only [wpOps, hi]
  split
  · rename_i hw; rw [if_pos hw] at h; exact .inl h
  · rename_i hw; rw [if_neg hw] at h; exact h

/-- An operation whose value is known. -/
theorem LW.ex {d : Nat} {v : Value} {S : World → Prop} (hi : ops[i]? = some o) (hd : o.dst = some d) (hn : Nat.ble (d + 1) n = true) (hg : guarded ops m o = some true) (h : Ex P S m o.op v) (hS : S w)
    (k : LW P ops Q rest n ((d, v) :: m) w) : LW P ops Q (i :: rest) n m w := fun a ha => by
  refine wpOps_at hi ?_
  rw [if_pos (wanted_of ha hg)]
  unfold Oper.wp
  rw [h a.eval ha.ev w hS o rfl, Oper.upon_value, hd]
  exact k _ (ha.put (Nat.le_of_ble_eq_true hn) v)

/-- An operation whose guard says no. -/
theorem LW.skip {d : Nat} (hi : ops[i]? = some o) (hd : o.dst = some d) (hn : Nat.ble (d + 1) n = true) (hg : guarded ops m o = some false)
    (k : LW P ops Q rest n ((d, undef) :: m) w) : LW P ops Q (i :: rest) n m w := fun a ha => by
  refine wpOps_at hi ?_
  rw [if_neg (by rw [wanted_of ha hg]; decide), hd]
  exact k _ (ha.put (Nat.le_of_ble_eq_true hn) undef)

/-- What an operation does, as a law: it comes to a value and a world of which Φ holds. -/
def Hv (P : Program) (m : List (Nat × Value)) (op : Op) (w : World) (Φ : Value → World → Prop) : Prop :=
  ∀ a, Ev m a.eval → ∀ (o : Oper), o.op = op → ∀ (K : Act → World → Prop) (Q : Exit → Act → World → Prop), (∀ v w', Φ v w' → K (a.put o.dst v) w') → o.wp P a w K Q

theorem Hv.of_run {Φ : Value → World → Prop} {op : Op} (h : ∀ ρ, Ev m ρ → ∀ o : Oper, o.op = op → ∃ v w', (execOp ρ o).run P w = .ok (.value v) w' ∧ Φ v w') : Hv P m op w Φ := fun a ha o ho K Q hK => by
  obtain ⟨v, w', hr, hv⟩ := h a.eval ha o ho
  unfold Oper.wp
  rw [hr, Oper.upon_value]
  exact hK v w' hv
theorem Hv.of_skip {Φ : Value → World → Prop} {op : Op} (h : ∀ ρ, Ev m ρ → ∀ o : Oper, o.op = op → ∃ w', (execOp ρ o).run P w = .ok .skip w' ∧ Φ undef w') : Hv P m op w Φ := fun a ha o ho K Q hK => by
  obtain ⟨w', hr, hv⟩ := h a.eval ha o ho
  unfold Oper.wp
  rw [hr, Oper.upon_skip]
  exact hK _ w' hv
/-- A call, by the callee's contract. -/
theorem Hv.of_call {Φ : Value → World → Prop} {op : Op} {f : FuncId} {args : Array Value} (h : ∀ ρ, Ev m ρ → ∀ o : Oper, o.op = op → (execOp ρ o).run P w = .ok (.enter f args) w)
    (hc : Calls P f args w fun e w' => ∃ v, e = .returned v ∧ Φ v w') : Hv P m op w Φ := fun a ha o ho K Q hK => by
  unfold Oper.wp
  rw [h a.eval ha o ho, Oper.upon_enter]
  refine hc.mono fun e w' he => ?_
  obtain ⟨v, rfl, hv⟩ := he
  exact hK v w' hv
theorem Hv.mono {Φ Ψ : Value → World → Prop} {op : Op} (h : Hv P m op w Φ) (hp : ∀ v w', Φ v w' → Ψ v w') : Hv P m op w Ψ := fun a ha o ho K Q hK => h a ha o ho K Q fun v w' hv => hK v w' (hp v w' hv)

theorem LW.hv {d : Nat} {Φ : Value → World → Prop} (hi : ops[i]? = some o) (hd : o.dst = some d) (hn : Nat.ble (d + 1) n = true) (hg : guarded ops m o = some true) (h : Hv P m o.op w Φ)
    (k : ∀ v w', Φ v w' → LW P ops Q rest n ((d, v) :: m) w') : LW P ops Q (i :: rest) n m w := fun a ha => by
  refine wpOps_at hi ?_
  rw [if_pos (wanted_of ha hg)]
  refine h a ha.ev o rfl _ _ fun v w' hv => ?_
  rw [hd]
  exact k v w' hv _ (ha.put (Nat.le_of_ble_eq_true hn) v)

/-- The same for an operation that yields nothing (a store). -/
theorem LW.hu {Φ : Value → World → Prop} (hi : ops[i]? = some o) (hd : o.dst = none) (hg : guarded ops m o = some true) (h : Hv P m o.op w Φ)
    (k : ∀ v w', Φ v w' → LW P ops Q rest n m w') : LW P ops Q (i :: rest) n m w := fun a ha => by
  refine wpOps_at hi ?_
  rw [if_pos (wanted_of ha hg)]
  refine h a ha.ev o rfl _ _ fun v w' hv => ?_
  rw [hd]
  exact k v w' hv _ (ha.put_none v)

theorem LW.sub (m' : List (Nat × Value)) (hs : Sub m m') (k : LW P ops Q rest n m' w) : LW P ops Q rest n m w := fun a ha => k a (ha.sub hs)
end

/-! ### A region that draws its order: a plan -/
/-- A plan. 'ex': its value is known, it may be taken first; 'one': it is the only one that may come up; 'two': these two may come up. -/
inductive Plan where
  | done
  | ex (i : Nat) (p : Plan)
  | one (i : Nat) (p : Plan)
  | two (i : Nat) (p : Plan) (j : Nat) (q : Plan)
  | three (i : Nat) (p : Plan) (j : Nat) (q : Plan) (k : Nat) (r : Plan)
def planLen : Plan → Nat → Bool
  | .done, k => Nat.beq k 0
  | .ex _ p, k + 1 => planLen p k
  | .one _ p, k + 1 => planLen p k
  | .two _ p _ q, k + 1 => planLen p k && planLen q k
  | .three _ p _ q _ r, k + 1 => planLen p k && planLen q k && planLen r k
  | _, 0 => false
/-- The plan's first part; then the tail: the operations from number n on, one by one. -/
def planOk (ops : Array Oper) (n : Nat) : Plan → Array Bool → Bool
  | .done, listed => Region.seqB .any ops (ops.size - n) n listed
  | .ex i p, listed => Nat.blt i n && (Region.ready .any ops listed).contains i && Region.free .any ops listed i && planOk ops n p (listed.setIfInBounds i true)
  | .one i p, listed => Nat.blt i n && decide (Region.ready .any ops listed = [i]) && planOk ops n p (listed.setIfInBounds i true)
  | .two i p j q, listed => Nat.blt i n && Nat.blt j n && decide (Region.ready .any ops listed = [i, j]) && planOk ops n p (listed.setIfInBounds i true) && planOk ops n q (listed.setIfInBounds j true)
  | .three i p j q k r, listed => Nat.blt i n && Nat.blt j n && Nat.blt k n && decide (Region.ready .any ops listed = [i, j, k]) && planOk ops n p (listed.setIfInBounds i true) && planOk ops n q (listed.setIfInBounds j true) && planOk ops n r (listed.setIfInBounds k true)
def planB (ops : Array Oper) (n : Nat) (pl : Plan) : Bool :=
  Region.noSelect ops && (Nat.beq n ops.size || (Nat.blt n ops.size && Region.sinkB .any ops n && Region.chainB .any ops n)) && planOk ops n pl (Array.replicate ops.size false)

section
variable {P : Program} {ops : Array Oper} {Q : Exit → Act → World → Prop} {S : World → Prop} {n : Nat}

def wpPlan (P : Program) (ops : Array Oper) (Q : Exit → Act → World → Prop) (S : World → Prop) (tail : List Nat) : Plan → Act → World → Prop
  | .done, a, w => wpOps P ops Q tail a w
  | .ex i p, a, w => ∃ o v, ops[i]? = some o ∧ YieldsIf P ops S o v a ∧ wpPlan P ops Q S tail p (a.put o.dst v) w
  | .one i p, a, w => wpOp P ops Q i (fun a' w' => S w' ∧ wpPlan P ops Q S tail p a' w') a w
  | .two i p j q, a, w => wpOp P ops Q i (fun a' w' => S w' ∧ wpPlan P ops Q S tail p a' w') a w ∧ wpOp P ops Q j (fun a' w' => S w' ∧ wpPlan P ops Q S tail q a' w') a w
  | .three i p j q k r, a, w => wpOp P ops Q i (fun a' w' => S w' ∧ wpPlan P ops Q S tail p a' w') a w ∧ wpOp P ops Q j (fun a' w' => S w' ∧ wpPlan P ops Q S tail q a' w') a w ∧ wpOp P ops Q k (fun a' w' => S w' ∧ wpPlan P ops Q S tail r a' w') a w

theorem seq_sound : ∀ (g k : Nat) (listed : Array Bool) (a : Act) (w : World), Region.seqB .any ops g k listed = true → wpOps P ops Q (List.range' k g) a w → wpAny P .any ops Q g listed a w
  | 0, _, _, _, _, hB, h => ⟨by simpa [Region.seqB] using hB, h⟩
  | g + 1, k, listed, a, w, hB, h => by
    simp only [Region.seqB, Bool.and_eq_true, decide_eq_true_eq] at hB
    refine ⟨fun h1 => (by rw [hB.1] at h1; cases h1), fun j hj => ?_⟩
    rw [hB.1] at hj
    obtain rfl : j = k := by simpa using hj
    rw [List.range'_succ, wpOps_cons] at h
    exact wpOp_mono (fun a' w' h' => seq_sound g (j + 1) _ a' w' hB.2 h') h

/-- Up to the tail. -/
def wpAnyT (P : Program) (ops : Array Oper) (Q : Exit → Act → World → Prop) (S : World → Prop) (n : Nat) : Nat → Array Bool → Act → World → Prop
  | 0, listed, a, w => Region.seqB .any ops (ops.size - n) n listed = true ∧ wpOps P ops Q (List.range' n (ops.size - n)) a w
  | fuel + 1, listed, a, w =>
    Region.ready .any ops listed ≠ [] ∧
    ∀ i ∈ Region.ready .any ops listed, i < n ∧ wpOp P ops Q i (fun a' w' => S w' ∧ wpAnyT P ops Q S n fuel (listed.setIfInBounds i true) a' w') a w

theorem wpAny_of_T : ∀ (fuel : Nat) (listed : Array Bool) (a : Act) (w : World), wpAnyT P ops Q S n fuel listed a w → wpAny P .any ops Q (fuel + (ops.size - n)) listed a w
  | 0, listed, a, w, h => by rw [Nat.zero_add]; exact seq_sound _ n listed a w h.1 h.2
  | fuel + 1, listed, a, w, h => by
    rw [show fuel + 1 + (ops.size - n) = (fuel + (ops.size - n)) + 1 by omega]
    exact ⟨fun h0 => absurd h0 h.1, fun i hi => wpOp_mono (fun a' w' h' => wpAny_of_T fuel _ a' w' h'.2) (h.2 i hi).2⟩

theorem lt_of_blt {a b : Nat} (h : Nat.blt a b = true) : a < b := Nat.lt_of_succ_le (Nat.le_of_ble_eq_true h)

/-- While one of the first n is open none of the tail comes up. -/
def Waits (ops : Array Oper) (n : Nat) : Prop := ∀ listed : Array Bool, HeadInv .any ops n listed → ∀ i, i < n → listed.getD i true = false → ∀ t ∈ Region.ready .any ops listed, t < n

theorem waits_of (h : (Nat.beq n ops.size || (Nat.blt n ops.size && Region.sinkB .any ops n && Region.chainB .any ops n)) = true) : Waits ops n := by
  intro listed inv i hi hun t ht
  simp only [Bool.or_eq_true, Bool.and_eq_true] at h
  rcases h with h | h
  · obtain ⟨_, o, ho, _⟩ := mem_ready.1 ht
    have := (Array.getElem?_eq_some_iff.1 ho).1
    have := Nat.eq_of_beq_eq_true h
    omega
  · refine Nat.lt_of_not_le fun hle => ?_
    exact tail_waits h.1.2 h.2 (lt_of_blt h.1.1) inv _ i rfl hi hun t hle ht

theorem wpAnyT_first {i : Nat} {oi : Oper} {v : Value} (hi : ops[i]? = some oi) (hsel : ∀ (j : Nat) (o : Oper) cs b, ops[j]? = some o → o.op ≠ .select cs b)
    (hQ : ∀ c a w, Q (.panic c) (a.put oi.dst v) w → Q (.panic c) a w) (hw : Waits ops n) (hin : i < n) :
    ∀ (fuel : Nat) (listed : Array Bool) (a : Act) (w : World), HeadInv .any ops n listed →
      (∀ j oj, ops[j]? = some oj → j ≠ i → listed.getD j true = false → (∀ e ∈ oj.after, Region.binds .any e = true → e.on ≠ i) → oi.apart ops oj = true) →
      i ∈ Region.ready .any ops listed → YieldsIf P ops S oi v a → S w →
      wpAnyT P ops Q S n fuel (listed.setIfInBounds i true) (a.put oi.dst v) w → wpAnyT P ops Q S n (fuel + 1) listed a w := by
  intro fuel
  induction fuel with
  | zero =>
    intro listed a w inv _ hr hy hS H
    have hun := (mem_ready.1 hr).1
    refine ⟨fun h => (by rw [h] at hr; cases hr), fun j hj => ?_⟩
    have hjn := hw listed inv i hin hun j hj
    refine ⟨hjn, ?_⟩
    by_cases hji : j = i
    · subst hji; exact hy.wpOp hi hS ⟨hS, H⟩
    · have := seqB_ready H.1 j (ready_mono hj hji)
      omega
  | succ fuel ih =>
    intro listed a w inv hfree hr hy hS H
    have hun := (mem_ready.1 hr).1
    refine ⟨fun h => (by rw [h] at hr; cases hr), fun j hj => ?_⟩
    have hjn := hw listed inv i hin hun j hj
    refine ⟨hjn, ?_⟩
    by_cases hji : j = i
    · subst hji; exact hy.wpOp hi hS ⟨hS, H⟩
    · have h1 := (H.2 j (ready_mono hj hji)).2
      obtain ⟨hjun, oj, hoj, hall⟩ := mem_ready.1 hj
      have hnot : ∀ e ∈ oj.after, Region.binds .any e = true → e.on ≠ i := fun e he hb heq => by
        have h1 := hall e he hb
        rw [heq, getD_both hun] at h1
        cases h1
      have h2 := wpOp_putIf hoj (hfree j oj hoj hji hjun hnot) (fun cs b => hsel i oi cs b hi) (fun cs b => hsel j oj cs b hoj) hQ hy h1
      have hfree' : ∀ k ok, ops[k]? = some ok → k ≠ i → (listed.setIfInBounds j true).getD k true = false →
          (∀ e ∈ ok.after, Region.binds .any e = true → e.on ≠ i) → oi.apart ops ok = true := fun k ok hk hki hun hno => by
        refine hfree k ok hk hki ?_ hno
        by_cases hjk : j = k
        · subst hjk; exact hjun
        · rw [getD_set_ne true hjk] at hun; exact hun
      refine wpOp_mono (fun a' w' h3 => ⟨h3.2.1, ih (listed.setIfInBounds j true) a' w' (inv.set hj hjn) hfree' (ready_mono hr (Ne.symm hji)) h3.1 h3.2.1 ?_⟩) h2
      rw [Array.setIfInBounds_comm _ _ hji]
      exact h3.2.2

theorem plan_sound (hsel : Region.noSelect ops = true) (hw : Waits ops n) (hQ : ∀ c a d v w, Q (.panic c) (Act.put a d v) w → Q (.panic c) a w) :
    ∀ (pl : Plan) (k : Nat) (listed : Array Bool) (a : Act) (w : World), planLen pl k = true → HeadInv .any ops n listed → planOk ops n pl listed = true → S w →
      wpPlan P ops Q S (List.range' n (ops.size - n)) pl a w → wpAnyT P ops Q S n k listed a w
  | .done, k, listed, a, w, hk, _, hB, _, h => by
    simp only [planLen] at hk
    obtain rfl : k = 0 := Nat.eq_of_beq_eq_true hk
    exact ⟨by simpa [planOk] using hB, h⟩
  | .ex i r, 0, listed, a, w, hk, _, _, _, _ => by simp [planLen] at hk
  | .ex i r, k + 1, listed, a, w, hk, inv, hB, hS, h => by
    simp only [planOk, Bool.and_eq_true] at hB
    obtain ⟨⟨⟨hlt, hr⟩, hf⟩, hrest⟩ := hB
    have hin : i < n := lt_of_blt hlt
    have hr' : i ∈ Region.ready .any ops listed := by simpa using hr
    obtain ⟨o, v, ho, hy, hk'⟩ := h
    exact wpAnyT_first ho (Region.noSelect_spec hsel) (fun c a w => hQ c a _ _ w) hw hin _ listed a w inv (Region.free_spec ho hf) hr' hy hS
      (plan_sound hsel hw hQ r k _ _ w hk (inv.set hr' hin) hrest hS hk')
  | .one i r, 0, listed, a, w, hk, _, _, _, _ => by simp [planLen] at hk
  | .one i r, k + 1, listed, a, w, hk, inv, hB, _, h => by
    simp only [planOk, Bool.and_eq_true, decide_eq_true_eq] at hB
    obtain ⟨⟨hlt, hr⟩, hrest⟩ := hB
    have hin : i < n := lt_of_blt hlt
    refine ⟨fun h0 => (by rw [hr] at h0; cases h0), fun j hj => ?_⟩
    have hji : j = i := by rw [hr] at hj; simpa using hj
    subst hji
    refine ⟨hin, ?_⟩
    exact wpOp_mono (fun a' w' h' => ⟨h'.1, plan_sound hsel hw hQ r k _ a' w' hk (inv.set hj hin) hrest h'.1 h'.2⟩) h
  | .two i p j q, 0, listed, a, w, hk, _, _, _, _ => by simp [planLen] at hk
  | .two i p j q, k + 1, listed, a, w, hk, inv, hB, _, h => by
    simp only [planOk, Bool.and_eq_true, decide_eq_true_eq] at hB
    simp only [planLen, Bool.and_eq_true] at hk
    obtain ⟨⟨⟨⟨hlt, hlt2⟩, hr⟩, hrest⟩, hrest2⟩ := hB
    have hin : i < n := lt_of_blt hlt
    have hjn : j < n := lt_of_blt hlt2
    have mi : i ∈ Region.ready .any ops listed := by rw [hr]; simp
    have mj : j ∈ Region.ready .any ops listed := by rw [hr]; simp
    refine ⟨fun h0 => (by rw [hr] at h0; cases h0), fun l hl => ?_⟩
    have hl' : l = i ∨ l = j := by rw [hr] at hl; simpa using hl
    rcases hl' with rfl | rfl
    · exact ⟨hin, wpOp_mono (fun a' w' h' => ⟨h'.1, plan_sound hsel hw hQ p k _ a' w' hk.1 (inv.set mi hin) hrest h'.1 h'.2⟩) h.1⟩
    · exact ⟨hjn, wpOp_mono (fun a' w' h' => ⟨h'.1, plan_sound hsel hw hQ q k _ a' w' hk.2 (inv.set mj hjn) hrest2 h'.1 h'.2⟩) h.2⟩

  | .three i p j q l r, 0, listed, a, w, hk, _, _, _, _ => by simp [planLen] at hk
  | .three i p j q l r, k + 1, listed, a, w, hk, inv, hB, _, h => by
    simp only [planOk, Bool.and_eq_true, decide_eq_true_eq] at hB
    simp only [planLen, Bool.and_eq_true] at hk
    obtain ⟨⟨⟨⟨⟨⟨hlt, hlt2⟩, hlt3⟩, hr⟩, hrest⟩, hrest2⟩, hrest3⟩ := hB
    have hin : i < n := lt_of_blt hlt
    have hjn : j < n := lt_of_blt hlt2
    have hln : l < n := lt_of_blt hlt3
    have mi : i ∈ Region.ready .any ops listed := by rw [hr]; simp
    have mj : j ∈ Region.ready .any ops listed := by rw [hr]; simp
    have ml : l ∈ Region.ready .any ops listed := by rw [hr]; simp
    refine ⟨fun h0 => (by rw [hr] at h0; cases h0), fun x hx => ?_⟩
    have hx' : x = i ∨ x = j ∨ x = l := by rw [hr] at hx; simpa using hx
    rcases hx' with rfl | rfl | rfl
    · exact ⟨hin, wpOp_mono (fun a' w' h' => ⟨h'.1, plan_sound hsel hw hQ p k _ a' w' hk.1.1 (inv.set mi hin) hrest h'.1 h'.2⟩) h.1⟩
    · exact ⟨hjn, wpOp_mono (fun a' w' h' => ⟨h'.1, plan_sound hsel hw hQ q k _ a' w' hk.1.2 (inv.set mj hjn) hrest2 h'.1 h'.2⟩) h.2.1⟩
    · exact ⟨hln, wpOp_mono (fun a' w' h' => ⟨h'.1, plan_sound hsel hw hQ r k _ a' w' hk.2 (inv.set ml hln) hrest3 h'.1 h'.2⟩) h.2.2⟩

/-- A region that draws its order, by a plan. -/
theorem wp_plan {id : Nat} {a : Act} {w : World} (n : Nat) (pl : Plan) (S : World → Prop) (hm : P.follows .mixedOrders = true) (hB : planB ops n pl = true) (hl : planLen pl n = true)
    (hS : S w.drew) (h : wpPlan P ops (NoPanic Q) S (List.range' n (ops.size - n)) pl a w.drew) : (Code.region id ops true).wp P Q a w := by
  refine wp_region_noPanic (wp_region_any hm ?_)
  simp only [planB, Bool.and_eq_true] at hB
  obtain ⟨⟨hsel, hw⟩, hp⟩ := hB
  have inv0 : HeadInv .any ops n (Array.replicate ops.size false) :=
    ⟨by simp, fun j oj _ hl => (by rw [getD_replicate_false] at hl; cases hl), fun t _ ht => getD_in (by simpa using ht) (getD_replicate_false _ _)⟩
  have hn : n ≤ ops.size := by
    simp only [Bool.or_eq_true, Bool.and_eq_true] at hw
    rcases hw with hw | hw
    · exact Nat.le_of_eq (Nat.eq_of_beq_eq_true hw)
    · have : n < ops.size := lt_of_blt hw.1.1
      omega
  have := wpAny_of_T _ _ _ _ (plan_sound hsel (waits_of hw) (fun c a d v w h => (h : False).elim) pl n _ a w.drew hl inv0 hp hS h)
  rw [show n + (ops.size - n) = ops.size by omega] at this
  exact this

/-! The plan over frames. -/
def PW (P : Program) (ops : Array Oper) (Q : Exit → Act → World → Prop) (S : World → Prop) (tail : List Nat) (pl : Plan) (n : Nat) (m : List (Nat × Value)) (w : World) : Prop :=
  ∀ a, Fr a n m → S w → wpPlan P ops Q S tail pl a w

variable {m : List (Nat × Value)} {w : World} {tail : List Nat} {pl pl2 : Plan} {i : Nat} {o : Oper}

theorem PW.nil (h : LW P ops Q tail n m w) : PW P ops Q S tail .done n m w := fun a ha _ => h a ha

theorem PW.ex {d : Nat} {v : Value} (hi : ops[i]? = some o) (hd : o.dst = some d) (hn : Nat.ble (d + 1) n = true) (hg : guarded ops m o = some true) (h : Ex P S m o.op v)
    (k : PW P ops Q S tail pl n ((d, v) :: m) w) : PW P ops Q S tail (.ex i pl) n m w := fun a ha hS =>
  ⟨o, v, hi, .inl ⟨wanted_of ha hg, fun w hw => h a.eval ha.ev w hw o rfl⟩, by rw [hd]; exact k _ (ha.put (Nat.le_of_ble_eq_true hn) v) hS⟩

theorem PW.skip {d : Nat} (hi : ops[i]? = some o) (hd : o.dst = some d) (hn : Nat.ble (d + 1) n = true) (hg : guarded ops m o = some false)
    (k : PW P ops Q S tail pl n ((d, undef) :: m) w) : PW P ops Q S tail (.ex i pl) n m w := fun a ha hS =>
  ⟨o, undef, hi, .inr ⟨wanted_of ha hg, rfl⟩, by rw [hd]; exact k _ (ha.put (Nat.le_of_ble_eq_true hn) undef) hS⟩

theorem wpOp_at {a : Act} {K : Act → World → Prop} (hi : ops[i]? = some o) (hw : Region.wanted o (yielded ops a.tmps) = true) (h : o.wp P a w K Q) : wpOp P ops Q i K a w := by
  unfold wpOp; simp only [hi, hw, if_true]; exact .inl h

theorem PW.hv {d : Nat} {Φ : Value → World → Prop} (hi : ops[i]? = some o) (hd : o.dst = some d) (hn : Nat.ble (d + 1) n = true) (hg : guarded ops m o = some true) (h : Hv P m o.op w Φ)
    (hS' : ∀ v w', Φ v w' → S w') (k : ∀ v w', Φ v w' → PW P ops Q S tail pl n ((d, v) :: m) w') : PW P ops Q S tail (.one i pl) n m w := fun a ha _ => by
  refine wpOp_at hi (wanted_of ha hg) ?_
  refine h a ha.ev o rfl _ _ fun v w' hv => ⟨hS' v w' hv, ?_⟩
  rw [hd]
  exact k v w' hv _ (ha.put (Nat.le_of_ble_eq_true hn) v) (hS' v w' hv)

/-- Two operations either of which may come up. -/
theorem PW.two {j : Nat} {o2 : Oper} {d e : Nat} {Φ Ψ : Value → World → Prop} (hi : ops[i]? = some o) (hj : ops[j]? = some o2) (hd : o.dst = some d) (he : o2.dst = some e) (hn : Nat.ble (d + 1) n = true) (hn2 : Nat.ble (e + 1) n = true)
    (hg : guarded ops m o = some true) (hg2 : guarded ops m o2 = some true)
    (hA : Hv P m o.op w Φ) (hSA : ∀ v w', Φ v w' → S w') (hB : Hv P m o2.op w Ψ) (hSB : ∀ v w', Ψ v w' → S w')
    (kA : ∀ v w', Φ v w' → PW P ops Q S tail pl n ((d, v) :: m) w') (kB : ∀ v w', Ψ v w' → PW P ops Q S tail pl2 n ((e, v) :: m) w') : PW P ops Q S tail (.two i pl j pl2) n m w := fun a ha _ => by
  refine ⟨wpOp_at hi (wanted_of ha hg) (hA a ha.ev o rfl _ _ fun v w' hv => ⟨hSA v w' hv, ?_⟩), wpOp_at hj (wanted_of ha hg2) (hB a ha.ev o2 rfl _ _ fun u w' hu => ⟨hSB u w' hu, ?_⟩)⟩
  · rw [hd]; exact kA v w' hv _ (ha.put (Nat.le_of_ble_eq_true hn) v) (hSA v w' hv)
  · rw [he]; exact kB u w' hu _ (ha.put (Nat.le_of_ble_eq_true hn2) u) (hSB u w' hu)

/-- Three operations any of which may come up. -/
theorem PW.three {pl3 : Plan} {j l : Nat} {o2 o3 : Oper} {d e f : Nat} {Φ Ψ Χ : Value → World → Prop} (hi : ops[i]? = some o) (hj : ops[j]? = some o2) (hl : ops[l]? = some o3) (hd : o.dst = some d) (he : o2.dst = some e) (hf : o3.dst = some f) (hn : Nat.ble (d + 1) n = true) (hn2 : Nat.ble (e + 1) n = true) (hn3 : Nat.ble (f + 1) n = true)
    (hg : guarded ops m o = some true) (hg2 : guarded ops m o2 = some true) (hg3 : guarded ops m o3 = some true)
    (hA : Hv P m o.op w Φ) (hSA : ∀ v w', Φ v w' → S w') (hB : Hv P m o2.op w Ψ) (hSB : ∀ v w', Ψ v w' → S w') (hC : Hv P m o3.op w Χ) (hSC : ∀ v w', Χ v w' → S w')
    (kA : ∀ v w', Φ v w' → PW P ops Q S tail pl n ((d, v) :: m) w') (kB : ∀ v w', Ψ v w' → PW P ops Q S tail pl2 n ((e, v) :: m) w') (kC : ∀ v w', Χ v w' → PW P ops Q S tail pl3 n ((f, v) :: m) w') : PW P ops Q S tail (.three i pl j pl2 l pl3) n m w := fun a ha _ => by
  refine ⟨wpOp_at hi (wanted_of ha hg) (hA a ha.ev o rfl _ _ fun v w' hv => ⟨hSA v w' hv, ?_⟩), wpOp_at hj (wanted_of ha hg2) (hB a ha.ev o2 rfl _ _ fun u w' hu => ⟨hSB u w' hu, ?_⟩), wpOp_at hl (wanted_of ha hg3) (hC a ha.ev o3 rfl _ _ fun u w' hu => ⟨hSC u w' hu, ?_⟩)⟩
  · rw [hd]; exact kA v w' hv _ (ha.put (Nat.le_of_ble_eq_true hn) v) (hSA v w' hv)
  · rw [he]; exact kB u w' hu _ (ha.put (Nat.le_of_ble_eq_true hn2) u) (hSB u w' hu)
  · rw [hf]; exact kC u w' hu _ (ha.put (Nat.le_of_ble_eq_true hn3) u) (hSC u w' hu)

theorem PW.sub (m' : List (Nat × Value)) (hs : Sub m m') (k : PW P ops Q S tail pl n m' w) : PW P ops Q S tail pl n m w := fun a ha => k a (ha.sub hs)
end

/-! ### Code -/
def CW (P : Program) (c : Code) (Q : Exit → Act → World → Prop) (n : Nat) (m : List (Nat × Value)) (w : World) : Prop := ∀ a, Fr a n m → c.wp P Q a w

section
variable {P : Program} {Q : Exit → Act → World → Prop} {n : Nat} {m : List (Nat × Value)} {w : World} {c x y : Code}

theorem CW.sub (m' : List (Nat × Value)) (hs : Sub m m') (k : CW P c Q n m' w) : CW P c Q n m w := fun a ha => k a (ha.sub hs)

/-- A goal behind a statement: what follows. -/
def KW (K : Act → World → Prop) (n : Nat) (m : List (Nat × Value)) (w : World) : Prop := ∀ a, Fr a n m → K a w
theorem KW.sub {K : Act → World → Prop} (m' : List (Nat × Value)) (hs : Sub m m') (k : KW K n m' w) : KW K n m w := fun a ha => k a (ha.sub hs)

theorem CW.seq (h : ∀ K : Act → World → Prop, (∀ n' m' w', CW P y Q n' m' w' → KW K n' m' w') → CW P x (Exit.then K Q) n m w) : CW P (x.seq y) Q n m w := fun a ha =>
  wp_seq_k fun K hK => h K (fun _ _ w hc a' ha' => hK a' w (hc a' ha')) a ha

theorem CW.region {id : Nat} {ops : Array Oper} (l : List Nat) (hl : List.range ops.size = l) (h : LW P ops Q l n m w) : CW P (.region id ops false) Q n m w := fun a ha =>
  wp_region (by rw [hl]; exact h a ha)

theorem CW.draw {id : Nat} {ops : Array Oper} (k : Nat) (pl : Plan) (tail : List Nat) (S : World → Prop) (hm : P.follows .mixedOrders = true) (hB : planB ops k pl = true) (hk : planLen pl k = true)
    (ht : List.range' k (ops.size - k) = tail) (hS : S w.drew) (h : PW P ops (NoPanic Q) S tail pl n m w.drew) : CW P (.region id ops true) Q n m w := fun a ha =>
  wp_plan k pl S hm hB hk hS (by rw [ht]; exact h a ha hS)

theorem CW.ret (h : ∀ a, Fr a n m → Q .ret a w) : CW P .ret Q n m w := fun a ha => wp_ret (h a ha)
theorem CW.skip (h : ∀ a, Fr a n m → Q .normal a w) : CW P .skip Q n m w := fun a ha => wp_skip (h a ha)
theorem CW.exit {id : Nat} (h : ∀ a, Fr a n m → Q (.exit id) a w) : CW P (.exit id) Q n m w := fun a ha => wp_exit (h a ha)
theorem CW.block {id : Nat} (h : CW P c (Exit.inBlock id Q) n m w) : CW P (.block id c) Q n m w := fun a ha => wp_block (h a ha)
theorem CW.yes {x0 : Operand} (hc : ev m x0 = some (.bool true)) (h : CW P x Q n m w) : CW P (.cond x0 x y) Q n m w := fun a ha => wp_cond_true (ha.eval hc) (h a ha)
theorem CW.no {x0 : Operand} (hc : ev m x0 = some (.bool false)) (h : CW P y Q n m w) : CW P (.cond x0 x y) Q n m w := fun a ha => wp_cond_false (ha.eval hc) (h a ha)
theorem CW.cond {x0 : Operand} {b : Bool} (hc : ev m x0 = some (.bool b)) (ht : b = true → CW P x Q n m w) (hf : b = false → CW P y Q n m w) : CW P (.cond x0 x y) Q n m w := fun a ha =>
  wp_cond_split (ha.eval hc) (fun e => ht e a ha) (fun e => hf e a ha)

/-- A loop. 'I k': what holds at the head of a round, k bounding the rounds to come. -/
theorem CW.loop (I : Nat → List (Nat × Value) → World → Prop) (k0 : Nat) {m0 : List (Nat × Value)} (h0 : I k0 m0 w) (hs : Sub m m0)
    (round : ∀ k m w, I k m w → CW P c (Exit.then (fun a w' => ∃ k' m', k' < k ∧ I k' m' w' ∧ Fr a n m') Q) n m w) : CW P (.loop c) Q n m w := fun a ha => by
  -- the measure: the least bound
  have key : ∀ k m w a, I k m w → Fr a n m → ∀ b kk cs, ∃ e a' w', Q e a' w' ∧ Arrives P (lone (b.at a (.code c :: .inLoop c :: kk)) cs w) b kk cs e a' w' := by
    intro k
    induction k using Nat.strongRecOn with
    | _ k ih =>
      intro m w a hI ha b kk cs
      obtain ⟨e, a₁, w₁, hq, harr⟩ := round k m w hI a ha b (.inLoop c :: kk) cs
      cases e with
      | normal =>
        obtain ⟨k', m', hlt, hI', ha'⟩ := hq
        obtain ⟨e₂, a₂, w₂, hq₂, harr₂⟩ := ih k' hlt m' w₁ a₁ hI' ha' b kk cs
        exact ⟨e₂, a₂, w₂, hq₂, .of_steps (Steps.trans harr (.one step_inLoop)) harr₂⟩
      | exit id => exact ⟨_, a₁, w₁, hq, .pass (x := .inLoop c) rfl (fun _ _ => .inl (by simp)) harr⟩
      | goto l => exact ⟨_, a₁, w₁, hq, .pass (x := .inLoop c) rfl (fun _ _ => .inl (by simp)) harr⟩
      | ret => exact ⟨_, a₁, w₁, hq, .pass (x := .inLoop c) rfl (fun _ _ => .inl (by simp)) harr⟩
      | panic ch => exact ⟨_, a₁, w₁, hq, .pass (x := .inLoop c) rfl (fun _ _ => .inl (by simp)) harr⟩
      | outgrown => exact ⟨_, a₁, w₁, hq, .pass (x := .inLoop c) rfl (fun _ _ => .inl (by simp)) harr⟩
  intro b kk cs
  obtain ⟨e, a', w', hq, harr⟩ := key k0 m0 w a h0 (ha.sub hs) b kk cs
  exact ⟨e, a', w', hq, .of_steps (.one step_loop) harr⟩

/-- Weakening: the ways of a piece of code meet in one statement. -/
theorem CW.mono {Q' : Exit → Act → World → Prop} (h : CW P c Q' n m w) (hq : ∀ e a w, Q' e a w → Q e a w) : CW P c Q n m w := fun a ha => wp_mono (h a ha) hq
end

/-! ### Functions -/
theorem calls_start {P : Program} {f : FuncId} {fn : Func} {c : Code} {args : Array Value} {w : World} {R : Ending → World → Prop} (n : Nat) (l : List Value)
    (hf : P.funcs[f]? = some fn) (hb : fn.body = some c) (hn : fn.ntmps = n) (ha : args = l.toArray) (hl : Nat.ble l.length n = true) (h : CW P c (bodyPost P fn R) n (slots 0 l) w) : Calls P f args w R := by
  subst ha
  refine calls_of_wp hf hb ?_
  rw [hn]
  exact h _ (Fr.start l n (Nat.le_of_ble_eq_true hl))

theorem ret_one {P : Program} {fn : Func} {R : Ending → World → Prop} {n : Nat} {m : List (Nat × Value)} {w : World} {a : Act} {t : Tmp} {v : Value} (ha : Fr a n m) (hr : fn.results = #[.tmp t]) (hv : look m t = some v)
    (h : R (.returned v) w) : bodyPost P fn R .ret a w := by
  refine bodyPost_ret (results_tmp hr _ _ _) ha.defers ?_
  simp only [Array.getD_eq_getD_getElem?, ha.get t v hv, Option.getD_some]; exact h
theorem ret_two {P : Program} {fn : Func} {R : Ending → World → Prop} {n : Nat} {m : List (Nat × Value)} {w : World} {a : Act} {t u : Tmp} {v v' : Value} (ha : Fr a n m) (hr : fn.results = #[.tmp t, .tmp u]) (hv : look m t = some v)
    (hv' : look m u = some v') (h : R (.returned (.tuple #[v, v'])) w) : bodyPost P fn R .ret a w := by
  refine bodyPost_ret (results_tmp2 hr _ _ _) ha.defers ?_
  simp only [Array.getD_eq_getD_getElem?, ha.get t v hv, ha.get u v' hv', Option.getD_some]; exact h

end Go.Proofs.Ytgnpjhellmfhoaa.Sy
