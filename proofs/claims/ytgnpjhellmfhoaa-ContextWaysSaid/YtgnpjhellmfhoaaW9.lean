import Derived.Test.YtgnpjhellmfhoaaW8
import Derived.DeepKeys4
import Derived.ChangeKeysEq

/-
  Arrays of two numbers: as keys of maps, and their equality.
-/
namespace Go.Proofs.Ytgnpjhellmfhoaa.Sy
open Go.RowKit Go.Maps

theorem eqArr2 {P : Program} {t e : TypeId} {z : Value} {by_ : Nat} (hu : P.underlying t = some (.array 2 e)) (he : TI P e (.int .i64) z 1 by_) (hc : P.cellsOf e = 1) (a b c d : Int) (w : World) :
    (Op.equal t (.agg #[.int .i64 a, .int .i64 b]) (.agg #[.int .i64 c, .int .i64 d])).run P w = .ok (decide (a = c ∧ b = d)) w := by
  obtain ⟨i, hi, h1, h2, h3⟩ := he.info
  have e1 : ∀ w, (Go.isAgg e).run P w = .ok false w := fun w => he.isAgg w
  have e2 : ∀ (x y : Int) w, (Op.equalIn 9999 e (.int .i64 x) (.int .i64 y)).run P w = .ok (x == y) w := fun x y w => run_equalIn_int w 9998 e .i64 .i64 x y he.und
  have := run_equalIn_array (P := P) (w := w) 9999 #[.int .i64 a, .int .i64 b] #[.int .i64 c, .int .i64 d] hu hi
  rw [hc] at this
  refine (show (Op.equal t _ _).run P w = _ from this).trans ?_
  have hr : List.range 2 = [0, 1] := rfl
  rw [hr]
  simp only [Op.eqItems, part, Sem.run_bind, e1, Result.andThen_ok, Bool.false_eq_true, if_false, Sem.run_pure, e2, Nat.zero_mul, Nat.one_mul]
  by_cases ha : a = c
  · by_cases hb : b = d
    · subst ha hb; simp [part, e1, e2, go_sem]
    · simp [ha, hb, part, e1, e2, go_sem]
  · simp [ha, part, e1, e2, go_sem]

/-- A literal of an array. -/
theorem run_buildA {P : Program} {t e : TypeId} {n sz by_ by2 : Nat} {d : TypeDesc} {ze : Value} {zs vs : List Value} {ps : List (Nat × Value)} {l : List Value} (hT : TI P t (.array n e) (.agg zs.toArray) by2 by_) (hE : TI P e d ze sz 8)
    (ho : overlay (fun i : Nat => some (i * sz, sz)) zs ps = some l) (hs : spine l = some vs) (w : World) : (Instr.build t ps.toArray).run P w = .ok (.agg vs.toArray) w := by
  obtain rfl := spine_eq hs
  have e4 : Instr.fill (fun i : Nat => some (i * sz, sz)) zs.toArray ps = some vs.toArray := fill_overlay (by simpa using ho)
  simp only [Instr.build, Sem.run_bind, hT.zeroValue, hT.underlying, hE.sizeOf, Result.andThen_ok, Value.cells, e4, Sem.run_pure]
theorem Ex.buildA {P : Program} {S : World → Prop} {m : List (Nat × Value)} {t e : TypeId} {n sz by_ by2 : Nat} {d : TypeDesc} {ze : Value} {zs vs : List Value} {parts : List (Nat × Operand)} {ps : List (Nat × Value)} {l : List Value}
    (hT : TI P t (.array n e) (.agg zs.toArray) by2 by_) (hE : TI P e d ze sz 8) (hps : evp m parts = some ps) (ho : overlay (fun i : Nat => some (i * sz, sz)) zs ps = some l) (hs : spine l = some vs) : Ex P S m (.build t parts.toArray) (.agg vs.toArray) :=
  Ex.build hps (run_buildA hT hE ho hs)

/-- Two numbers of 64 bits. -/
def KPair : Type := { p : Int × Int // (-9223372036854775808 ≤ p.1 ∧ p.1 ≤ 9223372036854775807) ∧ (-9223372036854775808 ≤ p.2 ∧ p.2 ≤ 9223372036854775807) }
instance : DecidableEq KPair := fun a b => decidable_of_iff (a.1 = b.1) Subtype.ext_iff.symm
def KPair.val (k : KPair) : Value := .agg #[.int .i64 k.1.1, .int .i64 k.1.2]
theorem encK2 {P : Program} {t e : TypeId} (hl : laidOutB P = true) (hrow : t < P.types.size) (hkt : P.keyTypeAt 2 t = true) (hkt2 : P.keyType t = true) (hu : P.underlying t = some (.array 2 e)) (he : P.underlying e = some (.int .i64)) (hc : P.cellsOf e = 1) (hc2 : P.cellsOf t = 2)
    (hf : ∀ a b : Int, (Value.agg #[.int .i64 a, .int .i64 b]).formed P t = true) (hsz : ∃ n, P.types.size = n + 1) : EncK P t KPair.val where
  keyed := Keyed.of_law (deep_law_laid hl (m := 2) (by omega) hrow hkt (by rw [hu]))
  key := fun k => by
    obtain ⟨⟨a, b⟩, ⟨h1, h2⟩, h3, h4⟩ := k
    obtain ⟨n, hn⟩ := hsz
    have w1 : ∀ x : Int, -9223372036854775808 ≤ x → x ≤ 9223372036854775807 → (Lit.int .i64 x).wf = true := fun x h h' => by
      have e1 : IntKind.i64.min = -9223372036854775808 := rfl
      have e2 : IntKind.i64.max = 9223372036854775807 := rfl
      simp only [Lit.wf, e1, e2, Bool.and_eq_true, decide_eq_true_eq]; exact ⟨h, h'⟩
    have k1 : ∀ x : Int, -9223372036854775808 ≤ x → x ≤ 9223372036854775807 → P.keyLits (n + 1) e [.int .i64 x] = some [.int .i64 x] := fun x h h' => by
      simp only [Program.keyLits, he, w1 x h h', and_self, if_true]
    have hr : List.range 2 = [0, 1] := rfl
    refine ⟨.string (keyBytes [.int .i64 a, .int .i64 b]), ?_⟩
    have k2 : P.keyLits (P.types.size + 1) t (KPair.val ⟨⟨a, b⟩, ⟨h1, h2⟩, h3, h4⟩).cells.toList = some [.int .i64 a, .int .i64 b] := by
      rw [hn]
      simp only [Program.keyLits, hu, KPair.val, Value.cells, hc, hc2, hr]
      simp [k1 a h1 h2, k1 b h3 h4, Program.keyLits, he, w1 a h1 h2, w1 b h3 h4]
    unfold keyOf
    rw [hu]
    simp only
    rw [hkt2, show (KPair.val ⟨⟨a, b⟩, ⟨h1, h2⟩, h3, h4⟩).formed P t = true from hf a b, k2]
    rfl
  inj := fun a b h => by
    obtain ⟨⟨a1, a2⟩, ha⟩ := a
    obtain ⟨⟨b1, b2⟩, hb⟩ := b
    simp only [KPair.val, Value.agg.injEq] at h
    have h' := congrArg Array.toList h
    simp at h'
    obtain ⟨rfl, rfl⟩ := h'
    rfl
end Go.Proofs.Ytgnpjhellmfhoaa.Sy

/-
  Regions that draw their order and end in stores, some of whose operations on plain values may be left until then.
-/
namespace Go.Proofs.Ytgnpjhellmfhoaa.Sy
open Go.RowKit

inductive Pl where
  | done
  | ex (i : Nat) (p : Pl)
  | pu (i : Nat) (p : Pl)
  | one (i : Nat) (p : Pl)
  | two (i : Nat) (p : Pl) (j : Nat) (q : Pl)
def plLen : Pl → Nat → Bool
  | .done, k => Nat.beq k 0
  | .ex _ p, k + 1 => plLen p k
  | .pu _ p, k + 1 => plLen p k
  | .one _ p, k + 1 => plLen p k
  | .two _ p _ q, k + 1 => plLen p k && plLen q k
  | _, 0 => false
def plOk (ops : Array Oper) (n : Nat) (E : List Nat) : Pl → Array Bool → Bool
  | .done, listed => Region.seqB .any ops (ops.size - n) n listed
  | .ex i p, listed => Nat.blt i n && !(E.contains i) && (Region.ready .any ops listed).contains i && Region.free .any ops listed i && plOk ops n E p (listed.setIfInBounds i true)
  | .pu i p, listed => Nat.blt i n && (Region.ready .any ops listed).contains i && Region.free .any ops listed i && plOk ops n E p (listed.setIfInBounds i true)
  | .one i p, listed => Nat.blt i n && decide (Region.ready .any ops listed = [i]) && plOk ops n E p (listed.setIfInBounds i true)
  | .two i p j q, listed => Nat.blt i n && Nat.blt j n && decide (Region.ready .any ops listed = [i, j]) && plOk ops n E p (listed.setIfInBounds i true) && plOk ops n E q (listed.setIfInBounds j true)
def sinkM (ops : Array Oper) (n : Nat) (E : List Nat) : Bool :=
  (List.range n).all fun i => E.contains i || (List.range (n + 1)).any fun j => decide (i < j) && !(E.contains j) && Region.waitsFor .any ops j i
def plB (ops : Array Oper) (n : Nat) (E : List Nat) (pl : Pl) : Bool :=
  Region.noSelect ops && (Nat.blt n ops.size && !(E.contains n) && sinkM ops n E && Region.chainB .any ops n) && plOk ops n E pl (Array.replicate ops.size false)

section
variable {P : Program} {ops : Array Oper} {Q : Exit → Act → World → Prop} {S0 S : World → Prop} {n : Nat} {E : List Nat}

theorem tail_waitsM {listed : Array Bool} (hs : sinkM ops n E = true) (hc : Region.chainB .any ops n = true) (hn : n < ops.size) (inv : HeadInv .any ops n listed) :
    ∀ (d i : Nat), n - i = d → i < n → E.contains i = false → listed.getD i true = false → ∀ t, n ≤ t → t ∉ Region.ready .any ops listed := by
  intro d
  induction d using Nat.strongRecOn with
  | _ d ih =>
    intro i hd hi hE hun t ht hr
    obtain ⟨_, ot, hot, hall⟩ := mem_ready.1 hr
    have htlt : t < ops.size := (Array.getElem?_eq_some_iff.1 hot).1
    by_cases htn : t = n
    · subst htn
      have h1 := List.all_eq_true.1 hs i (List.mem_range.2 hi)
      rw [hE, Bool.false_or] at h1
      obtain ⟨j, hj, hj2⟩ := List.any_eq_true.1 h1
      simp only [Bool.and_eq_true, decide_eq_true_eq, Bool.not_eq_true'] at hj2
      obtain ⟨oj, hoj, e, he, hb, hon⟩ := Region.waitsFor_spec hj2.2
      have hjle : j ≤ t := by have := List.mem_range.1 hj; omega
      by_cases hjt : j = t
      · subst hjt
        have : oj = ot := Option.some.inj (hoj.symm.trans hot)
        subst this
        have h2 := hall e he hb
        rw [hon, getD_both hun] at h2
        cases h2
      · cases hl : listed.getD j false with
        | true =>
          have h2 := inv.closed j oj hoj hl e he hb
          rw [hon, getD_both hun] at h2
          cases h2
        | false =>
          have hjs : j < listed.size := by rw [inv.size]; omega
          exact ih (t - j) (by omega) j rfl (by omega) hj2.1.2 (getD_in hjs hl) t (Nat.le_refl _) hr
    · have h1 := List.all_eq_true.1 hc t (List.mem_range.2 htlt)
      simp only [Bool.or_eq_true, decide_eq_true_eq] at h1
      rcases h1 with h1 | h1
      · omega
      · obtain ⟨o', ho', e, he, hb, hon⟩ := Region.waitsFor_spec h1
        have : o' = ot := Option.some.inj (ho'.symm.trans hot)
        subst this
        have h2 := hall e he hb
        rw [hon, getD_both (inv.tail (t - 1) (by omega) (by omega))] at h2
        cases h2

/-- The tail, with what holds behind each of its operations. -/
def wpTl (P : Program) (ops : Array Oper) (Q : Exit → Act → World → Prop) (S0 : World → Prop) : List Nat → Act → World → Prop
  | [], a, w => Q .normal a w
  | i :: rest, a, w => wpOp P ops Q i (fun a' w' => S0 w' ∧ wpTl P ops Q S0 rest a' w') a w
/-- S0 holds behind each operation; as long as no store has come ('c'), S too. -/
def wpM (P : Program) (ops : Array Oper) (Q : Exit → Act → World → Prop) (S0 S : World → Prop) (n : Nat) : Nat → Bool → Array Bool → Act → World → Prop
  | 0, _, listed, a, w => Region.ready .any ops listed = [] ∧ Q .normal a w
  | fuel + 1, c, listed, a, w =>
    (Region.ready .any ops listed = [] → Q .normal a w) ∧
    ∀ i ∈ Region.ready .any ops listed, wpOp P ops Q i (fun a' w' => S0 w' ∧ ((c && decide (i < n)) = true → S w') ∧ wpM P ops Q S0 S n fuel (c && decide (i < n)) (listed.setIfInBounds i true) a' w') a w
theorem wpAny_of_M : ∀ (fuel : Nat) (c : Bool) (listed : Array Bool) (a : Act) (w : World), wpM P ops Q S0 S n fuel c listed a w → wpAny P .any ops Q fuel listed a w
  | 0, _, _, _, _, h => h
  | fuel + 1, c, listed, a, w, h => ⟨h.1, fun i hi => wpOp_mono (fun a' w' h' => wpAny_of_M fuel _ _ a' w' h'.2.2) (h.2 i hi)⟩
theorem wpM_of_seq : ∀ (g k : Nat) (c : Bool) (listed : Array Bool) (a : Act) (w : World), n ≤ k → Region.seqB .any ops g k listed = true → wpTl P ops Q S0 (List.range' k g) a w → wpM P ops Q S0 S n g c listed a w
  | 0, _, _, _, _, _, _, hB, h => ⟨by simpa [Region.seqB] using hB, h⟩
  | g + 1, k, c, listed, a, w, hk, hB, h => by
    simp only [Region.seqB, Bool.and_eq_true, decide_eq_true_eq] at hB
    refine ⟨fun h1 => (by rw [hB.1] at h1; cases h1), fun j hj => ?_⟩
    rw [hB.1] at hj
    obtain rfl : j = k := by simpa using hj
    rw [List.range'_succ, wpTl] at h
    have hd : (c && decide (j < n)) = false := by rw [decide_eq_false (by omega), Bool.and_false]
    rw [hd]
    exact wpOp_mono (fun a' w' h' => ⟨h'.1, fun h => (by cases h), wpM_of_seq g (j + 1) _ _ a' w' (by omega) hB.2 h'.2⟩) h

theorem wpM_first_pure {i : Nat} {oi : Oper} {v : Value} (hi : ops[i]? = some oi) (hsel : ∀ (j : Nat) (o : Oper) cs b, ops[j]? = some o → o.op ≠ .select cs b)
    (hQ : ∀ c a w, Q (.panic c) (a.put oi.dst v) w → Q (.panic c) a w) (hin : i < n) :
    ∀ (fuel : Nat) (c : Bool) (listed : Array Bool) (a : Act) (w : World),
      (∀ j oj, ops[j]? = some oj → j ≠ i → listed.getD j true = false → (∀ e ∈ oj.after, Region.binds .any e = true → e.on ≠ i) → oi.apart ops oj = true) →
      i ∈ Region.ready .any ops listed → YieldsIf P ops S0 oi v a → S0 w → (c = true → S w) →
      wpM P ops Q S0 S n fuel c (listed.setIfInBounds i true) (a.put oi.dst v) w → wpM P ops Q S0 S n (fuel + 1) c listed a w := by
  intro fuel
  induction fuel with
  | zero =>
    intro c listed a w _ hr hy hS0 hS H
    refine ⟨fun h => (by rw [h] at hr; cases hr), fun j hj => ?_⟩
    by_cases hji : j = i
    · subst hji
      have hd : (c && decide (j < n)) = c := by rw [decide_eq_true hin, Bool.and_true]
      rw [hd]
      exact hy.wpOp hi hS0 ⟨hS0, hS, H⟩
    · have := ready_mono hj hji
      rw [H.1] at this; cases this
  | succ fuel ih =>
    intro c listed a w hfree hr hy hS0 hS H
    have hun := (mem_ready.1 hr).1
    refine ⟨fun h => (by rw [h] at hr; cases hr), fun j hj => ?_⟩
    by_cases hji : j = i
    · subst hji
      have hd : (c && decide (j < n)) = c := by rw [decide_eq_true hin, Bool.and_true]
      rw [hd]
      exact hy.wpOp hi hS0 ⟨hS0, hS, H⟩
    · have h1 := H.2 j (ready_mono hj hji)
      obtain ⟨hjun, oj, hoj, hall⟩ := mem_ready.1 hj
      have hnot : ∀ e ∈ oj.after, Region.binds .any e = true → e.on ≠ i := fun e he hb heq => by
        have h1 := hall e he hb
        rw [heq, getD_both hun] at h1
        cases h1
      have h2 := wpOp_putIf hoj (hfree j oj hoj hji hjun hnot) (fun cs b => hsel i oi cs b hi) (fun cs b => hsel j oj cs b hoj) hQ hy h1
      have hfree' : ∀ k ok, ops[k]? = some ok → k ≠ i → (listed.setIfInBounds j true).getD k true = false →
          (∀ e ∈ ok.after, Region.binds .any e = true → e.on ≠ i) → oi.apart ops ok = true := fun k ok hk hki hun hno => by
        refine hfree k ok hk hki ?_ hno
        by_cases hjk : j = k
        · subst hjk; exact hjun
        · rw [getD_set_ne true hjk] at hun; exact hun
      refine wpOp_mono (fun a' w' h3 => ⟨h3.2.1, h3.2.2.1, ih _ (listed.setIfInBounds j true) a' w' hfree' (ready_mono hr (Ne.symm hji)) h3.1 h3.2.1 h3.2.2.1 ?_⟩) h2
      rw [Array.setIfInBounds_comm _ _ hji]
      exact h3.2.2.2

theorem wpM_first {i : Nat} {oi : Oper} {v : Value} (hi : ops[i]? = some oi) (hsel : ∀ (j : Nat) (o : Oper) cs b, ops[j]? = some o → o.op ≠ .select cs b)
    (hQ : ∀ c a w, Q (.panic c) (a.put oi.dst v) w → Q (.panic c) a w) (hs : sinkM ops n E = true) (hc : Region.chainB .any ops n = true) (hn : n < ops.size) (hin : i < n) (hE : E.contains i = false) :
    ∀ (fuel : Nat) (listed : Array Bool) (a : Act) (w : World), HeadInv .any ops n listed →
      (∀ j oj, ops[j]? = some oj → j ≠ i → listed.getD j true = false → (∀ e ∈ oj.after, Region.binds .any e = true → e.on ≠ i) → oi.apart ops oj = true) →
      i ∈ Region.ready .any ops listed → YieldsIf P ops S oi v a → S0 w → S w →
      wpM P ops Q S0 S n fuel true (listed.setIfInBounds i true) (a.put oi.dst v) w → wpM P ops Q S0 S n (fuel + 1) true listed a w := by
  intro fuel
  induction fuel with
  | zero =>
    intro listed a w _ _ hr hy hS0 hS H
    refine ⟨fun h => (by rw [h] at hr; cases hr), fun j hj => ?_⟩
    by_cases hji : j = i
    · subst hji
      have hd : (true && decide (j < n)) = true := by rw [decide_eq_true hin]; rfl
      rw [hd]
      exact hy.wpOp hi hS ⟨hS0, fun _ => hS, H⟩
    · have := ready_mono hj hji
      rw [H.1] at this; cases this
  | succ fuel ih =>
    intro listed a w inv hfree hr hy hS0 hS H
    have hun := (mem_ready.1 hr).1
    refine ⟨fun h => (by rw [h] at hr; cases hr), fun j hj => ?_⟩
    by_cases hji : j = i
    · subst hji
      have hd : (true && decide (j < n)) = true := by rw [decide_eq_true hin]; rfl
      rw [hd]
      exact hy.wpOp hi hS ⟨hS0, fun _ => hS, H⟩
    · have hjn : j < n := Nat.lt_of_not_le fun hle => tail_waitsM hs hc hn inv _ i rfl hin hE hun j hle hj
      have h1 := H.2 j (ready_mono hj hji)
      have hd : (true && decide (j < n)) = true := by rw [decide_eq_true hjn]; rfl
      rw [hd] at h1 ⊢
      obtain ⟨hjun, oj, hoj, hall⟩ := mem_ready.1 hj
      have hnot : ∀ e ∈ oj.after, Region.binds .any e = true → e.on ≠ i := fun e he hb heq => by
        have h1 := hall e he hb
        rw [heq, getD_both hun] at h1
        cases h1
      have h2 := wpOp_putIf hoj (hfree j oj hoj hji hjun hnot) (fun cs b => hsel i oi cs b hi) (fun cs b => hsel j oj cs b hoj) hQ hy h1
      have hfree' : ∀ k ok, ops[k]? = some ok → k ≠ i → (listed.setIfInBounds j true).getD k true = false →
          (∀ e ∈ ok.after, Region.binds .any e = true → e.on ≠ i) → oi.apart ops ok = true := fun k ok hk hki hun hno => by
        refine hfree k ok hk hki ?_ hno
        by_cases hjk : j = k
        · subst hjk; exact hjun
        · rw [getD_set_ne true hjk] at hun; exact hun
      refine wpOp_mono (fun a' w' h3 => ⟨h3.2.1, h3.2.2.1, ih (listed.setIfInBounds j true) a' w' (inv.set hj hjn) hfree' (ready_mono hr (Ne.symm hji)) h3.1 h3.2.1 (h3.2.2.1 rfl) ?_⟩) h2
      rw [Array.setIfInBounds_comm _ _ hji]
      exact h3.2.2.2

def wpPl (P : Program) (ops : Array Oper) (Q : Exit → Act → World → Prop) (S0 S : World → Prop) (tail : List Nat) : Pl → Act → World → Prop
  | .done, a, w => wpTl P ops Q S0 tail a w
  | .ex i p, a, w => ∃ o v, ops[i]? = some o ∧ YieldsIf P ops S o v a ∧ wpPl P ops Q S0 S tail p (a.put o.dst v) w
  | .pu i p, a, w => ∃ o v, ops[i]? = some o ∧ YieldsIf P ops S0 o v a ∧ wpPl P ops Q S0 S tail p (a.put o.dst v) w
  | .one i p, a, w => wpOp P ops Q i (fun a' w' => S0 w' ∧ S w' ∧ wpPl P ops Q S0 S tail p a' w') a w
  | .two i p j q, a, w => wpOp P ops Q i (fun a' w' => S0 w' ∧ S w' ∧ wpPl P ops Q S0 S tail p a' w') a w ∧ wpOp P ops Q j (fun a' w' => S0 w' ∧ S w' ∧ wpPl P ops Q S0 S tail q a' w') a w

theorem pl_sound (hsel : Region.noSelect ops = true) (hs : sinkM ops n E = true) (hc : Region.chainB .any ops n = true) (hn : n < ops.size) (hQ : ∀ c a d v w, Q (.panic c) (Act.put a d v) w → Q (.panic c) a w) :
    ∀ (pl : Pl) (k : Nat) (listed : Array Bool) (a : Act) (w : World), plLen pl k = true → HeadInv .any ops n listed → plOk ops n E pl listed = true → S0 w → S w →
      wpPl P ops Q S0 S (List.range' n (ops.size - n)) pl a w → wpM P ops Q S0 S n (k + (ops.size - n)) true listed a w
  | .done, k, listed, a, w, hk, _, hB, _, _, h => by
    simp only [plLen] at hk
    obtain rfl : k = 0 := Nat.eq_of_beq_eq_true hk
    rw [Nat.zero_add]
    exact wpM_of_seq _ n _ _ _ _ (Nat.le_refl _) (by simpa [plOk] using hB) h
  | .ex i r, 0, listed, a, w, hk, _, _, _, _, _ => by simp [plLen] at hk
  | .ex i r, k + 1, listed, a, w, hk, inv, hB, hS0, hS, h => by
    simp only [plOk, Bool.and_eq_true, Bool.not_eq_true'] at hB
    obtain ⟨⟨⟨⟨hlt, hE⟩, hr⟩, hf⟩, hrest⟩ := hB
    have hin : i < n := lt_of_blt hlt
    have hr' : i ∈ Region.ready .any ops listed := by simpa using hr
    obtain ⟨o, v, ho, hy, hk'⟩ := h
    rw [show k + 1 + (ops.size - n) = (k + (ops.size - n)) + 1 by omega]
    exact wpM_first ho (Region.noSelect_spec hsel) (fun c a w => hQ c a _ _ w) hs hc hn hin hE _ listed a w inv (Region.free_spec ho hf) hr' hy hS0 hS
      (pl_sound hsel hs hc hn hQ r k _ _ w hk (inv.set hr' hin) hrest hS0 hS hk')
  | .pu i r, 0, listed, a, w, hk, _, _, _, _, _ => by simp [plLen] at hk
  | .pu i r, k + 1, listed, a, w, hk, inv, hB, hS0, hS, h => by
    simp only [plOk, Bool.and_eq_true] at hB
    obtain ⟨⟨⟨hlt, hr⟩, hf⟩, hrest⟩ := hB
    have hin : i < n := lt_of_blt hlt
    have hr' : i ∈ Region.ready .any ops listed := by simpa using hr
    obtain ⟨o, v, ho, hy, hk'⟩ := h
    rw [show k + 1 + (ops.size - n) = (k + (ops.size - n)) + 1 by omega]
    exact wpM_first_pure ho (Region.noSelect_spec hsel) (fun c a w => hQ c a _ _ w) hin _ true listed a w (Region.free_spec ho hf) hr' hy hS0 (fun _ => hS)
      (pl_sound hsel hs hc hn hQ r k _ _ w hk (inv.set hr' hin) hrest hS0 hS hk')
  | .one i r, 0, listed, a, w, hk, _, _, _, _, _ => by simp [plLen] at hk
  | .one i r, k + 1, listed, a, w, hk, inv, hB, _, _, h => by
    simp only [plOk, Bool.and_eq_true, decide_eq_true_eq] at hB
    obtain ⟨⟨hlt, hr⟩, hrest⟩ := hB
    have hin : i < n := lt_of_blt hlt
    rw [show k + 1 + (ops.size - n) = (k + (ops.size - n)) + 1 by omega]
    refine ⟨fun h0 => (by rw [hr] at h0; cases h0), fun j hj => ?_⟩
    have hji : j = i := by rw [hr] at hj; simpa using hj
    subst hji
    have hd : (true && decide (j < n)) = true := by rw [decide_eq_true hin]; rfl
    rw [hd]
    exact wpOp_mono (fun a' w' h' => ⟨h'.1, fun _ => h'.2.1, pl_sound hsel hs hc hn hQ r k _ a' w' hk (inv.set hj hin) hrest h'.1 h'.2.1 h'.2.2⟩) h
  | .two i p j q, 0, listed, a, w, hk, _, _, _, _, _ => by simp [plLen] at hk
  | .two i p j q, k + 1, listed, a, w, hk, inv, hB, _, _, h => by
    simp only [plOk, Bool.and_eq_true, decide_eq_true_eq] at hB
    simp only [plLen, Bool.and_eq_true] at hk
    obtain ⟨⟨⟨⟨hlt, hlt2⟩, hr⟩, hrest⟩, hrest2⟩ := hB
    have hin : i < n := lt_of_blt hlt
    have hjn : j < n := lt_of_blt hlt2
    have mi : i ∈ Region.ready .any ops listed := by rw [hr]; simp
    have mj : j ∈ Region.ready .any ops listed := by rw [hr]; simp
    rw [show k + 1 + (ops.size - n) = (k + (ops.size - n)) + 1 by omega]
    refine ⟨fun h0 => (by rw [hr] at h0; cases h0), fun l hl => ?_⟩
    have hl' : l = i ∨ l = j := by rw [hr] at hl; simpa using hl
    rcases hl' with rfl | rfl
    · have hd : (true && decide (l < n)) = true := by rw [decide_eq_true hin]; rfl
      rw [hd]
      exact wpOp_mono (fun a' w' h' => ⟨h'.1, fun _ => h'.2.1, pl_sound hsel hs hc hn hQ p k _ a' w' hk.1 (inv.set mi hin) hrest h'.1 h'.2.1 h'.2.2⟩) h.1
    · have hd : (true && decide (l < n)) = true := by rw [decide_eq_true hjn]; rfl
      rw [hd]
      exact wpOp_mono (fun a' w' h' => ⟨h'.1, fun _ => h'.2.1, pl_sound hsel hs hc hn hQ q k _ a' w' hk.2 (inv.set mj hjn) hrest2 h'.1 h'.2.1 h'.2.2⟩) h.2

theorem wp_pl {id : Nat} {a : Act} {w : World} (n : Nat) (E : List Nat) (pl : Pl) (S0 S : World → Prop) (hm : P.follows .mixedOrders = true) (hB : plB ops n E pl = true) (hl : plLen pl n = true)
    (hS0 : S0 w.drew) (hS : S w.drew) (h : wpPl P ops (NoPanic Q) S0 S (List.range' n (ops.size - n)) pl a w.drew) : (Code.region id ops true).wp P Q a w := by
  refine wp_region_noPanic (wp_region_any hm ?_)
  simp only [plB, Bool.and_eq_true] at hB
  obtain ⟨⟨hsel, ⟨⟨hn, _⟩, hs⟩, hc⟩, hp⟩ := hB
  have hn' : n < ops.size := lt_of_blt hn
  have inv0 : HeadInv .any ops n (Array.replicate ops.size false) :=
    ⟨by simp, fun j oj _ hl => (by rw [getD_replicate_false] at hl; cases hl), fun t _ ht => getD_in (by simpa using ht) (getD_replicate_false _ _)⟩
  have := wpAny_of_M _ _ _ _ _ (pl_sound hsel hs hc hn' (fun c a d v w h => (h : False).elim) pl n _ a w.drew hl inv0 hp hS0 hS h)
  rw [show n + (ops.size - n) = ops.size by omega] at this
  exact this

def TW (P : Program) (ops : Array Oper) (Q : Exit → Act → World → Prop) (S0 : World → Prop) (l : List Nat) (n : Nat) (m : List (Nat × Value)) (w : World) : Prop :=
  ∀ a, Fr a n m → S0 w → wpTl P ops Q S0 l a w
def QW (P : Program) (ops : Array Oper) (Q : Exit → Act → World → Prop) (S0 S : World → Prop) (tail : List Nat) (pl : Pl) (n : Nat) (m : List (Nat × Value)) (w : World) : Prop :=
  ∀ a, Fr a n m → S0 w → S w → wpPl P ops Q S0 S tail pl a w

variable {m : List (Nat × Value)} {w : World} {tail rest : List Nat} {pl pl2 : Pl} {i : Nat} {o : Oper}
theorem TW.nil (h : ∀ a, Fr a n m → Q .normal a w) : TW P ops Q S0 [] n m w := fun a ha _ => h a ha
theorem TW.ex {d : Nat} {v : Value} (hi : ops[i]? = some o) (hd : o.dst = some d) (hn : Nat.ble (d + 1) n = true) (hg : guarded ops m o = some true) (h : Ex P S m o.op v) (hS : S w)
    (k : TW P ops Q S0 rest n ((d, v) :: m) w) : TW P ops Q S0 (i :: rest) n m w := fun a ha h0 => by
  refine wpOp_at hi (wanted_of ha hg) ?_
  unfold Oper.wp
  rw [h a.eval ha.ev w hS o rfl, Oper.upon_value, hd]
  exact ⟨h0, k _ (ha.put (Nat.le_of_ble_eq_true hn) v) h0⟩
theorem TW.hu {Φ : Value → World → Prop} (hi : ops[i]? = some o) (hd : o.dst = none) (hg : guarded ops m o = some true) (h : Hv P m o.op w Φ) (h0' : ∀ v w', Φ v w' → S0 w')
    (k : ∀ v w', Φ v w' → TW P ops Q S0 rest n m w') : TW P ops Q S0 (i :: rest) n m w := fun a ha _ => by
  refine wpOp_at hi (wanted_of ha hg) ?_
  refine h a ha.ev o rfl _ _ fun v w' hv => ⟨h0' v w' hv, ?_⟩
  rw [hd]
  exact k v w' hv _ (ha.put_none v) (h0' v w' hv)
theorem QW.nil (h : TW P ops Q S0 tail n m w) : QW P ops Q S0 S tail .done n m w := fun a ha h0 _ => h a ha h0
theorem QW.ex {d : Nat} {v : Value} (hi : ops[i]? = some o) (hd : o.dst = some d) (hn : Nat.ble (d + 1) n = true) (hg : guarded ops m o = some true) (h : Ex P S m o.op v)
    (k : QW P ops Q S0 S tail pl n ((d, v) :: m) w) : QW P ops Q S0 S tail (.ex i pl) n m w := fun a ha h0 hS =>
  ⟨o, v, hi, .inl ⟨wanted_of ha hg, fun w hw => h a.eval ha.ev w hw o rfl⟩, by rw [hd]; exact k _ (ha.put (Nat.le_of_ble_eq_true hn) v) h0 hS⟩
theorem QW.pu {d : Nat} {v : Value} (hi : ops[i]? = some o) (hd : o.dst = some d) (hn : Nat.ble (d + 1) n = true) (hg : guarded ops m o = some true) (h : Ex P S0 m o.op v)
    (k : QW P ops Q S0 S tail pl n ((d, v) :: m) w) : QW P ops Q S0 S tail (.pu i pl) n m w := fun a ha h0 hS =>
  ⟨o, v, hi, .inl ⟨wanted_of ha hg, fun w hw => h a.eval ha.ev w hw o rfl⟩, by rw [hd]; exact k _ (ha.put (Nat.le_of_ble_eq_true hn) v) h0 hS⟩
theorem QW.hv {d : Nat} {Φ : Value → World → Prop} (hi : ops[i]? = some o) (hd : o.dst = some d) (hn : Nat.ble (d + 1) n = true) (hg : guarded ops m o = some true) (h : Hv P m o.op w Φ)
    (hS0 : ∀ v w', Φ v w' → S0 w') (hS' : ∀ v w', Φ v w' → S w') (k : ∀ v w', Φ v w' → QW P ops Q S0 S tail pl n ((d, v) :: m) w') : QW P ops Q S0 S tail (.one i pl) n m w := fun a ha _ _ => by
  refine wpOp_at hi (wanted_of ha hg) ?_
  refine h a ha.ev o rfl _ _ fun v w' hv => ⟨hS0 v w' hv, hS' v w' hv, ?_⟩
  rw [hd]
  exact k v w' hv _ (ha.put (Nat.le_of_ble_eq_true hn) v) (hS0 v w' hv) (hS' v w' hv)
theorem QW.two {j : Nat} {o2 : Oper} {d e : Nat} {Φ Ψ : Value → World → Prop} (hi : ops[i]? = some o) (hj : ops[j]? = some o2) (hd : o.dst = some d) (he : o2.dst = some e) (hn : Nat.ble (d + 1) n = true) (hn2 : Nat.ble (e + 1) n = true)
    (hg : guarded ops m o = some true) (hg2 : guarded ops m o2 = some true)
    (hA : Hv P m o.op w Φ) (hA0 : ∀ v w', Φ v w' → S0 w') (hSA : ∀ v w', Φ v w' → S w') (hB : Hv P m o2.op w Ψ) (hB0 : ∀ v w', Ψ v w' → S0 w') (hSB : ∀ v w', Ψ v w' → S w')
    (kA : ∀ v w', Φ v w' → QW P ops Q S0 S tail pl n ((d, v) :: m) w') (kB : ∀ v w', Ψ v w' → QW P ops Q S0 S tail pl2 n ((e, v) :: m) w') : QW P ops Q S0 S tail (.two i pl j pl2) n m w := fun a ha _ _ => by
  refine ⟨wpOp_at hi (wanted_of ha hg) (hA a ha.ev o rfl _ _ fun v w' hv => ⟨hA0 v w' hv, hSA v w' hv, ?_⟩), wpOp_at hj (wanted_of ha hg2) (hB a ha.ev o2 rfl _ _ fun u w' hu => ⟨hB0 u w' hu, hSB u w' hu, ?_⟩)⟩
  · rw [hd]; exact kA v w' hv _ (ha.put (Nat.le_of_ble_eq_true hn) v) (hA0 v w' hv) (hSA v w' hv)
  · rw [he]; exact kB u w' hu _ (ha.put (Nat.le_of_ble_eq_true hn2) u) (hB0 u w' hu) (hSB u w' hu)
theorem QW.splitB {d : Nat} {b : Bool} (ht : b = true → QW P ops Q S0 S tail pl n ((d, .bool true) :: m) w) (hf : b = false → QW P ops Q S0 S tail pl n ((d, .bool false) :: m) w) : QW P ops Q S0 S tail pl n ((d, .bool b) :: m) w := by
  cases b with
  | true => exact ht rfl
  | false => exact hf rfl
theorem CW.drawP {id : Nat} (k : Nat) (E : List Nat) (pl : Pl) (tail : List Nat) (S0 S : World → Prop) (hm : P.follows .mixedOrders = true) (hB : plB ops k E pl = true) (hk : plLen pl k = true)
    (ht : List.range' k (ops.size - k) = tail) (hS0 : S0 w.drew) (hS : S w.drew) (h : QW P ops (NoPanic Q) S0 S tail pl n m w.drew) : CW P (.region id ops true) Q n m w := fun a ha =>
  wp_pl k E pl S0 S hm hB hk hS0 hS (by rw [ht]; exact h a ha hS0 hS)
theorem Rd.erase {μ : Mem} {L : List Own} {w : World} (k : Nat) (h : Rd μ L w) : Rd μ (L.eraseIdx k) w := by
  refine ⟨h.1, ?_⟩
  obtain ⟨bs, hs⟩ := h.2
  by_cases hk : k < L.length
  · obtain ⟨b1, _, b3, _, _, hr⟩ := hs.erase (List.getElem?_eq_getElem hk)
    exact ⟨_, hr⟩
  · rw [List.eraseIdx_of_length_le (by omega)]; exact ⟨bs, hs⟩
end
end Go.Proofs.Ytgnpjhellmfhoaa.Sy
