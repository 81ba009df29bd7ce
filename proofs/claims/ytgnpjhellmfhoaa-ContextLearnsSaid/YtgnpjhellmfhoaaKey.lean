/-
  Arrays of two numbers: as keys of maps, and their equality.
-/
import Derived.Test.YtgnpjhellmfhoaaFun
import Derived.Test.YtgnpjhellmfhoaaMap
import Derived.DeepKeys4
import Derived.ChangeKeysEq
namespace Go.Proofs.Ytgnpjhellmfhoaa.Sy
open Go.RowKit Go.Maps

theorem eqArr2 {P : Program} {t e : TypeId} {z : Value} {by_ : Nat} (hu : P.underlying t = some (.array 2 e)) (he : TI P e (.int .i64) z 1 by_) (hc : P.cellsOf e = 1) (a b c d : Int) (w : World) :
    (Op.equal t (.agg #[.int .i64 a, .int .i64 b]) (.agg #[.int .i64 c, .int .i64 d])).run P w = .ok (decide (a = c ∧ b = d)) w := by
  obtain ⟨i, hi, h1, h2, h3⟩ := he.info
  have e1 : ∀ w, (Go.isAgg e).run P w = .ok false w := fun w => he.isAgg w
  have e2 : ∀ (x y : Int) w, (Op.equalIn 9999 e (.int .i64 x) (.int .i64 y)).run P w = .ok (x == y) w := fun x y w => run_equalIn_int w 9998 e .i64 .i64 x y he.und
  have := run_equalIn_array (P := P) (w := w) 9999 #[.int .i64 a, .int .i64 b] #[.int .i64 c, .int .i64 d] hu hi
  rw [hc] at this
  refine (show (Op.equal t _ _).run P w = _ from this).trans ?_
  have hr : List.range 2 = [0, 1] := rfl
  rw [hr]
  simp only [Op.eqItems, part, Sem.run_bind, e1, Result.andThen_ok, Bool.false_eq_true, if_false, Sem.run_pure, e2, Nat.zero_mul, Nat.one_mul]
  by_cases ha : a = c
  · by_cases hb : b = d
    · subst ha hb; simp [part, e1, e2, go_sem]
    · simp [ha, hb, part, e1, e2, go_sem]
  · simp [ha, part, e1, e2, go_sem]

/-- A literal of an array. -/
theorem run_buildA {P : Program} {t e : TypeId} {n sz by_ by2 : Nat} {d : TypeDesc} {ze : Value} {zs vs : List Value} {ps : List (Nat × Value)} {l : List Value} (hT : TI P t (.array n e) (.agg zs.toArray) by2 by_) (hE : TI P e d ze sz 8)
    (ho : overlay (fun i : Nat => some (i * sz, sz)) zs ps = some l) (hs : spine l = some vs) (w : World) : (Instr.build t ps.toArray).run P w = .ok (.agg vs.toArray) w := by
  obtain rfl := spine_eq hs
  have e4 : Instr.fill (fun i : Nat => some (i * sz, sz)) zs.toArray ps = some vs.toArray := fill_overlay (by simpa using ho)
  simp only [Instr.build, Sem.run_bind, hT.zeroValue, hT.underlying, hE.sizeOf, Result.andThen_ok, Value.cells, e4, Sem.run_pure]
theorem Ex.buildA {P : Program} {S : World → Prop} {m : List (Nat × Value)} {t e : TypeId} {n sz by_ by2 : Nat} {d : TypeDesc} {ze : Value} {zs vs : List Value} {parts : List (Nat × Operand)} {ps : List (Nat × Value)} {l : List Value}
    (hT : TI P t (.array n e) (.agg zs.toArray) by2 by_) (hE : TI P e d ze sz 8) (hps : evp m parts = some ps) (ho : overlay (fun i : Nat => some (i * sz, sz)) zs ps = some l) (hs : spine l = some vs) : Ex P S m (.build t parts.toArray) (.agg vs.toArray) :=
  Ex.build hps (run_buildA hT hE ho hs)

/-- Two numbers of 64 bits. -/
def KPair : Type := { p : Int × Int // (-9223372036854775808 ≤ p.1 ∧ p.1 ≤ 9223372036854775807) ∧ (-9223372036854775808 ≤ p.2 ∧ p.2 ≤ 9223372036854775807) }
instance : DecidableEq KPair := fun a b => decidable_of_iff (a.1 = b.1) Subtype.ext_iff.symm
def KPair.val (k : KPair) : Value := .agg #[.int .i64 k.1.1, .int .i64 k.1.2]
theorem encK2 {P : Program} {t e : TypeId} (hl : laidOutB P = true) (hrow : t < P.types.size) (hkt : P.keyTypeAt 2 t = true) (hkt2 : P.keyType t = true) (hu : P.underlying t = some (.array 2 e)) (he : P.underlying e = some (.int .i64)) (hc : P.cellsOf e = 1) (hc2 : P.cellsOf t = 2)
    (hf : ∀ a b : Int, (Value.agg #[.int .i64 a, .int .i64 b]).formed P t = true) (hsz : ∃ n, P.types.size = n + 1) : EncK P t KPair.val where
  keyed := Keyed.of_law (deep_law_laid hl (m := 2) (by omega) hrow hkt (by rw [hu]))
  key := fun k => by
    obtain ⟨⟨a, b⟩, ⟨h1, h2⟩, h3, h4⟩ := k
    obtain ⟨n, hn⟩ := hsz
    have w1 : ∀ x : Int, -9223372036854775808 ≤ x → x ≤ 9223372036854775807 → (Lit.int .i64 x).wf = true := fun x h h' => by
      have e1 : IntKind.i64.min = -9223372036854775808 := rfl
      have e2 : IntKind.i64.max = 9223372036854775807 := rfl
      simp only [Lit.wf, e1, e2, Bool.and_eq_true, decide_eq_true_eq]; exact ⟨h, h'⟩
    have k1 : ∀ x : Int, -9223372036854775808 ≤ x → x ≤ 9223372036854775807 → P.keyLits (n + 1) e [.int .i64 x] = some [.int .i64 x] := fun x h h' => by
      simp only [Program.keyLits, he, w1 x h h', and_self, if_true]
    have hr : List.range 2 = [0, 1] := rfl
    refine ⟨.string (keyBytes [.int .i64 a, .int .i64 b]), ?_⟩
    have k2 : P.keyLits (P.types.size + 1) t (KPair.val ⟨⟨a, b⟩, ⟨h1, h2⟩, h3, h4⟩).cells.toList = some [.int .i64 a, .int .i64 b] := by
      rw [hn]
      simp only [Program.keyLits, hu, KPair.val, Value.cells, hc, hc2, hr]
      simp [k1 a h1 h2, k1 b h3 h4, Program.keyLits, he, w1 a h1 h2, w1 b h3 h4]
    unfold keyOf
    rw [hu]
    simp only
    rw [hkt2, show (KPair.val ⟨⟨a, b⟩, ⟨h1, h2⟩, h3, h4⟩).formed P t = true from hf a b, k2]
    rfl
  inj := fun a b h => by
    obtain ⟨⟨a1, a2⟩, ha⟩ := a
    obtain ⟨⟨b1, b2⟩, hb⟩ := b
    simp only [KPair.val, Value.agg.injEq] at h
    have h' := congrArg Array.toList h
    simp at h'
    obtain ⟨rfl, rfl⟩ := h'
    rfl
end Go.Proofs.Ytgnpjhellmfhoaa.Sy
