/-
  Rows of the call's own with their spare places; copy, append of zeros, overlaps; slices of slices.
-/
import Derived.Test.YtgnpjhellmfhoaaStr
import Derived.Test.YtgnpjhellmfhoaaSort
import Derived.Lib.Overlaps
import Derived.Laws.CopyRow
import Derived.Lib.SliceRun
namespace Go.Proofs.Ytgnpjhellmfhoaa.Sy
open Go.RowKit

section
variable {w0 w : World} {μ : Mem} {L : List Own} {g l c sz : Nat} {E : TypeId} {us cs : List Value}

/-- A slice of the call's own, with its spare places. -/
theorem St.open_sl (h : St w0 w μ L) (k : Nat) (hk : L[k]? = some (Own.sl (some ⟨g, 0, none⟩) l c E sz us)) : ∃ rest : List Value, rest.length = (c - l) * sz ∧ St w0 w μ (L.set k (Own.obj g (us ++ rest) E)) := by
  obtain ⟨bs, ⟨hlen, hb⟩, hn, _, hstep⟩ := h.turn hk
  rcases hb with ⟨hb, _⟩ | ⟨g', cur, hg, rfl, hh, hlc, hcm, hcs, htake⟩
  · cases hb
  cases hg
  refine ⟨cur.toList.drop (l * sz), ?_, ?_⟩
  · rw [List.length_drop, Array.length_toList, hcs, Nat.sub_mul]
  · refine hstep w _ [g] rfl rfl rfl (Nat.le_refl _) (Nat.le_refl _) (fun _ _ _ => rfl) ⟨rfl, ?_⟩ hn (fun x hx => .inl hx)
    rw [← htake, List.take_append_drop]; exact hh
theorem St.close_sl (h : St w0 w μ L) (k : Nat) (hk : L[k]? = some (Own.obj g cs E)) (l c sz : Nat) (hl : l ≤ c) (hc : c ≤ maxLen) (hcs : cs.length = c * sz) : St w0 w μ (L.set k (Own.sl (some ⟨g, 0, none⟩) l c E sz (cs.take (l * sz)))) := by
  obtain ⟨bs, ⟨rfl, hb⟩, hn, _, hstep⟩ := h.turn hk
  refine hstep w _ [g] rfl rfl rfl (Nat.le_refl _) (Nat.le_refl _) (fun _ _ _ => rfl) ⟨?_, .inr ⟨g, cs.toArray, rfl, rfl, hb, hl, hc, by simpa using hcs, rfl⟩⟩ hn (fun x hx => .inl hx)
  rw [List.length_take, hcs, Nat.min_eq_left (Nat.mul_le_mul_right _ hl)]

/-- vs over cs, from place o on. -/
def patch (cs : List Value) (o : Nat) (vs : List Value) : List Value := cs.take o ++ vs ++ cs.drop (o + vs.length)
theorem patch_len (o : Nat) (vs : List Value) (h : o + vs.length ≤ cs.length) : (patch cs o vs).length = cs.length := by simp [patch]; omega
end

theorem run_copy_rowN {P : Program} (w : World) (dT sT ty elem : TypeId) (g o dLen dCap : Nat) (a : Addr) (sLen sCap sz : Nat) (cur : Array Value) (t : TypeId) (cs : List Value)
    (hu : P.underlying dT = some (.slice elem)) (hs : ∀ w, (Go.sizeOf elem).run P w = .ok sz w)
    (hg : w.heap[g]? = some (.cells cur t (0, 0))) (hn : cs.length = Nat.min sLen dLen * sz)
    (hsrc : ∀ j v, cs[j]? = some v → w.cell? (a.add j) = some v) (hfit : o + cs.length ≤ cur.size) (h1 : ∀ v ∈ cs, v.oneCell' = true) :
    (Builtin.copy_ #[dT, sT] ty #[.slice (some ⟨g, o, none⟩) dLen dCap, .slice (some a) sLen sCap]).run P w =
      .ok (goInt (Nat.min sLen dLen)) (w.setRow g (cur.toList.take o ++ cs ++ cur.toList.drop (o + cs.length)).toArray) := by
  have hl := run_loadCells_list (P := P) w a cs hsrc
  rw [hn] at hl
  have hst := run_storeCells_at P g o t cs 0 cur w hg (by simpa using hfit) h1
  simp [Builtin.copy_, run_underlying hu, Builtin.lenOf, Builtin.firstCells, hs, hl, hst]

/-- A comes first, then X, then B: B moved, X written. -/
theorem ins_cells {A X B R : List Value} (hR : X.length ≤ R.length) : (patch (patch (A ++ B ++ R) (A.length + X.length) B) A.length X).take (A.length + X.length + B.length) = A ++ X ++ B := by
  have h1 : ((A ++ B ++ R).take (A.length + X.length)).length = A.length + X.length := by simp; omega
  have h2 : patch (A ++ B ++ R) (A.length + X.length) B = (A ++ B ++ R).take (A.length + X.length) ++ (B ++ (A ++ B ++ R).drop (A.length + X.length + B.length)) := by simp [patch]
  have h3 : (patch (A ++ B ++ R) (A.length + X.length) B).take A.length = A := by
    rw [h2, List.take_append_of_le_length (by omega), List.take_take, Nat.min_eq_left (by omega), List.append_assoc, List.take_left]
  have h4 : (patch (A ++ B ++ R) (A.length + X.length) B).drop (A.length + X.length) = B ++ (A ++ B ++ R).drop (A.length + X.length + B.length) := by
    rw [h2]; exact List.drop_left' h1
  have h5 : ∀ Z, patch Z A.length X = Z.take A.length ++ X ++ Z.drop (A.length + X.length) := fun _ => rfl
  rw [h5, h3, h4, ← List.append_assoc (A ++ X)]
  exact List.take_left' (by simp; omega)
theorem ins_cells2 {A X B R : List Value} (hR : X.length + B.length ≤ R.length) : (patch (patch (A ++ R) A.length X) (A.length + X.length) B).take (A.length + X.length + B.length) = A ++ X ++ B := by
  have h2 : patch (A ++ R) A.length X = (A ++ X) ++ R.drop X.length := by
    unfold patch
    rw [List.take_left' rfl, ← List.drop_drop, List.drop_left' rfl]
  have h5 : ∀ Z, patch Z (A.length + X.length) B = Z.take (A.length + X.length) ++ B ++ Z.drop (A.length + X.length + B.length) := fun _ => rfl
  rw [h5, h2, List.take_left' (show (A ++ X).length = A.length + X.length by simp)]
  exact List.take_left' (by simp; omega)
theorem flatMap_drop {α : Type} {enc : α → List Value} {k : Nat} (hk : ∀ x, (enc x).length = k) : ∀ (xs : List α) (n : Nat), (xs.flatMap enc).drop (n * k) = (xs.drop n).flatMap enc
  | [], n => by simp
  | x :: r, 0 => by simp
  | x :: r, n + 1 => by
    rw [List.drop_succ_cons, List.flatMap_cons, Nat.add_mul, Nat.one_mul, Nat.add_comm, ← List.drop_drop, List.drop_left' (hk x), flatMap_drop hk r n]

namespace Hv
variable {P : Program} {m : List (Nat × Value)} {t t2 E E' : TypeId} {x y : Operand} {w0 w : World} {μ : Mem} {L : List Own}
theorem copyObj {o' : Call} {k g o dl dc b so sl sc sz by_ : Nat} {d : TypeDesc} {z : Value} {cs vs : List Value} (ho' : o' = { callee := .builtin .copy, args := #[x, y], argTypes := #[t, t2] }) (ht : P.underlying t = some (.slice E)) (hE : TI P E d z sz by_)
    (hS : St w0 w μ L) (hk : L[k]? = some (Own.obj g cs E')) (hx : ev m x = some (.slice (some ⟨g, o, none⟩) dl dc)) (hy : ev m y = some (.slice (some ⟨b, so, none⟩) sl sc))
    (hl : vs.length = Nat.min sl dl * sz) (hvs : ∀ j u, vs[j]? = some u → w.cell? ⟨b, so + j, none⟩ = some u) (h1 : ∀ u ∈ vs, u.oneCell' = true) (hfit : o + vs.length ≤ cs.length) :
    Hv P m (.call o') w (fun _ w' => St w0 w' μ (L.set k (Own.obj g (patch cs o vs) E'))) :=
  .of_run fun ρ ha op hop => by
    subst ho'
    obtain ⟨bs, ⟨rfl, hb⟩, hn, _, hstep⟩ := hS.turn hk
    have hb' : w.heap[g]? = some (.cells cs.toArray E' (0, 0)) := hb
    have hadd : ∀ j, (⟨b, so, none⟩ : Addr).add j = ⟨b, so + j, none⟩ := fun j => by unfold Addr.add; split <;> simp_all
    have hr := run_copy_rowN (P := P) w t t2 op.type E g o dl dc ⟨b, so, none⟩ sl sc sz cs.toArray E' vs ht (fun w => hE.sizeOf w) hb' hl (fun j v hj => by rw [hadd]; exact hvs j v hj) (by simpa using hfit) h1
    obtain ⟨w', hw'⟩ : ∃ w', w' = w.setRow g (cs.toArray.toList.take o ++ vs ++ cs.toArray.toList.drop (o + vs.length)).toArray := ⟨_, rfl⟩
    rw [← hw'] at hr
    refine ⟨goInt (Nat.min sl dl), w', by simp only [execOp, hop, resolve, invoke, builtin, Sem.run_bind, Sem.run_pure, Result.andThen_ok, List.map_toArray, List.map_cons, List.map_nil, ha _ _ hx, ha _ _ hy, hr], ?_⟩
    subst hw'
    refine hstep _ _ [g] rfl rfl rfl (Nat.le_refl _) (by simp [World.setRow]) (fun b' _ hne => setRow_other w g b' _ (by simpa using hne)) ⟨rfl, ?_⟩ hn (fun x hx => .inl hx)
    exact setRow_heap w g cs.toArray _ E' _ hb'

/-- append of zeros where there is no room. -/
theorem appendZ {o' : Call} {g l c n sz by_ : Nat} {kn ki : IntKind} {d : TypeDesc} {z : Value} {vs : List Value} {p : Int} (ho' : o' = { callee := .builtin .append, args := #[x, y], argTypes := #[t, t2] }) (ht : P.underlying t = some (.slice E)) (ht2 : P.underlying t2 = some (.int kn)) (hE : TI P E d z sz by_) (hz : z.cells.size = sz)
    (hS : St w0 w μ L) (hx : ev m x = some (.slice (some ⟨g, 0, none⟩) l c)) (hy : ev m y = some (.int ki p)) (hp : p = (n : Int)) (hl : vs.length = l * sz) (hvs : ∀ j u, vs[j]? = some u → w.cell? ⟨g, j, none⟩ = some u)
    {ln : Nat} (hln : l + n = ln) (hg : c < ln) (h63 : ln ≤ maxLen) (hb : ln * by_ ≤ 140737488355328) :
    Hv P m (.call o') w (fun u w' => ∃ g' c' rest, u = .slice (some ⟨g', 0, none⟩) ln c' ∧ ln ≤ c' ∧ c' ≤ maxLen ∧ (rest : List Value).length = (c' - l) * sz ∧ St w0 w' μ (Own.obj g' (vs ++ rest) E :: L)) :=
  .of_run fun ρ ha op hop => by
    subst ho'; subst hp; subst hln
    obtain ⟨i, hi, z1, z2, z3⟩ := hE.info
    subst z2; subst z3
    have hsmall : l + n ≤ 9223372036854775807 := by simp only [maxLen] at h63; omega
    have hn : ¬ (l + n ≤ c) := by omega
    have hw : IntKind.i64.wrap (n : Int) = n := by rw [IntKind.wrap_i64]; omega
    have h63' : ¬ (9223372036854775807 < ((l : Int) + (n : Int))) := by omega
    have hneg : ¬ ((n : Int) < 0) := by omega
    have htn : (n : Int).toNat = n := by omega
    have hmx : max (n : Int) 0 = n := by omega
    have hfit := growslice_fits (need := l + n) (old := c) (by omega) hb
    have h48' : ¬ (281474976710656 < Builtin.nextslicecap (l + n) c * i.bytes) := by omega
    have h48n : n * i.bytes ≤ 281474976710656 := Nat.le_trans (Nat.mul_le_mul_right _ (Nat.le_add_left n l)) (Nat.le_trans hb (by omega))
    have h48i : ¬ (281474976710656 < (n : Int) * (i.bytes : Int)) := by
      have e : ((n * i.bytes : Nat) : Int) = (n : Int) * (i.bytes : Int) := Int.natCast_mul _ _
      omega
    have hadd : ∀ j, (⟨g, 0, none⟩ : Addr).add j = ⟨g, 0 + j, none⟩ := fun j => by unfold Addr.add; split <;> simp_all
    have hfo := run_firstCells_some (P := P) w.drew i.size l ⟨g, 0, none⟩ l c vs hl (fun j v hv => by rw [hadd, Nat.zero_add]; exact hvs j v hv)
    have hge := grownCap_ge w (l + n) c E
    have hcm : grownCap w (l + n) c E ≤ maxLen := grownCap_le_maxLen w (l + n) c E h63
    have hr : ∃ mid : List Value, mid.length = n * i.size ∧ (Builtin.append_ #[t, t2] op.type #[.slice (some ⟨g, 0, none⟩) l c, .int ki n]).run P w =
        .ok (.slice (some ⟨w.heap.size, 0, none⟩) (l + n) (grownCap w (l + n) c E)) (w.drew.alloc (.cells (vs.toArray ++ mid.toArray ++ Builtin.zeroCells z.cells (grownCap w (l + n) c E - (l + n))) E)) := by
      by_cases h0 : n * i.size = 0
      · refine ⟨[], by simp [h0], ?_⟩
        simp [Builtin.append_, run_underlying ht, run_underlying ht2, sizeOf, typeInfo, zeroValue, hi, z1, asInt, asIntOf, hw, hneg, htn, hmx, h48i, hn, h63', h48', Question.forced, h0, hfo, newRow, grownCap]
      · refine ⟨(Builtin.zeroCells z.cells n).toList, by rw [Array.length_toList, size_zeroCells, hz], ?_⟩
        simp [Builtin.append_, run_underlying ht, run_underlying ht2, sizeOf, typeInfo, zeroValue, hi, z1, asInt, asIntOf, hw, hneg, htn, hmx, h48i, hn, h63', h48', Question.forced, h0, hfo, newRow, grownCap]
    obtain ⟨mid, hmid, hr⟩ := hr
    obtain ⟨w', hw'⟩ : ∃ w', w' = w.drew.alloc (.cells (vs.toArray ++ mid.toArray ++ Builtin.zeroCells z.cells (grownCap w (l + n) c E - (l + n))) E) := ⟨_, rfl⟩
    rw [← hw'] at hr
    refine ⟨.slice (some ⟨w.heap.size, 0, none⟩) (l + n) (grownCap w (l + n) c E), w', by simp only [execOp, hop, resolve, invoke, builtin, Sem.run_bind, Sem.run_pure, Result.andThen_ok, List.map_toArray, List.map_cons, List.map_nil, ha _ _ hx, ha _ _ hy, hr], w.heap.size, _, mid ++ (Builtin.zeroCells z.cells (grownCap w (l + n) c E - (l + n))).toList, rfl, hge, hcm, ?_, ?_⟩
    · simp only [List.length_append, hmid, Array.length_toList, size_zeroCells, hz, ← Nat.add_mul]
      congr 1; omega
    · have h1 := hS.drew.alloc (vs ++ (mid ++ (Builtin.zeroCells z.cells (grownCap w (l + n) c E - (l + n))).toList)) E
      have e : (vs ++ (mid ++ (Builtin.zeroCells z.cells (grownCap w (l + n) c E - (l + n))).toList)).toArray = vs.toArray ++ mid.toArray ++ Builtin.zeroCells z.cells (grownCap w (l + n) c E - (l + n)) := by
        apply Array.ext'; simp [List.append_assoc]
      rw [e] at h1
      rw [hw']; exact h1

/-- slices.overlaps of two rows of the call's own. -/
theorem overlaps {o' : Call} {cc : Operand} {asl : List Operand} {ats : Array TypeId} {f : FuncId} {fn : Func} {tR : TypeId} {i j a o la ca b p lb cb sz by_ : Nat} {d : TypeDesc} {z : Value} {cs1 cs2 : List Value} {E1 E2 : TypeId}
    (hf : P.funcs[f]? = some fn) (hname : (fn.name == "runtime.NumGoroutine") = false) (hb : fn.body.isNone = true) (hn : Extern.findNext fn = none) (he : Extern.find fn = some (Extern.SlicesOverlaps.overlaps #[t, t] #[tR]))
    (ht : P.underlying t = some (.slice E)) (hE : TI P E d z sz by_) (hS : St w0 w μ L) (h1 : L[i]? = some (Own.obj a cs1 E1)) (h2 : L[j]? = some (Own.obj b cs2 E2)) (hne : a ≠ b) (h0 : 0 < cs2.length)
    (ho' : o' = { callee := .value cc, args := asl.toArray, argTypes := ats }) (hc : ev m cc = some (.func (.func f) #[] #[])) (has : evs m asl = some [.slice (some ⟨a, o, none⟩) la ca, .slice (some ⟨b, p, none⟩) lb cb]) :
    Hv P m (.call o') w (fun u w' => u = .bool false ∧ St w0 w' μ L) :=
  .of_run fun ρ ha op hop => by
    subst ho'
    obtain ⟨_, _, g1⟩ := hS.rd.get h1
    obtain ⟨_, _, g2⟩ := hS.rd.get h2
    have g1' : w.heap[a]? = some (.cells cs1.toArray E1 (0, 0)) := g1
    have g2' : w.heap[b]? = some (.cells cs2.toArray E2 (0, 0)) := g2
    have hr := Lib.run_overlaps_apart (P := P) w t tR E ht sz (fun w => hE.sizeOf w) ⟨a, o, none⟩ ⟨b, p, none⟩ la ca lb cb hne E1 E2 cs1.length cs2.length (by simp [World.shape?, g1']) (by simp [World.shape?, g2']) (by omega) (by simp [World.frozen?, g1']) (by simp [World.frozen?, g1'])
    have hcall : (callFunc f #[.slice (some ⟨a, o, none⟩) la ca, .slice (some ⟨b, p, none⟩) lb cb]).run P w = .ok (.value (.bool false)) w := by
      rw [run_callFunc_extern hf hname hb hn he, hr]; rfl
    have e1 : asl.map ρ = _ := evs_map ha has
    refine ⟨.bool false, w, ?_, rfl, hS⟩
    simp only [execOp, hop, resolve, Deferred.ofValue, invoke, Sem.run_bind, Sem.run_pure, Result.andThen_ok, ha _ _ hc, List.map_toArray, e1]
    simpa using hcall
end Hv

theorem St.ne_obj {a b : Nat} {cs1 cs2 : List Value} {E1 E2 : TypeId} {w0 w : World} {μ : Mem} {L : List Own} (h : St w0 w μ (Own.obj a cs1 E1 :: Own.obj b cs2 E2 :: L)) : a ≠ b := by
  obtain ⟨_, _, bs, ⟨b1, b2, rfl, ⟨e1, _⟩, b3, b4, rfl, ⟨e2, _⟩, _⟩, hn, _⟩ := h
  subst e1; subst e2
  rintro rfl
  simp at hn

/-- append of a slice of immutable memory, element by element. -/
theorem Hv.appendFlat {α : Type} [El α] {enc : α → List Value} {P : Program} {m : List (Nat × Value)} {t E : TypeId} {x y : Operand} {w0 w : World} {μ : Mem} {L : List Own} {o' : Call} {k : Nat} {d : TypeDesc} {z : Value} {by_ : Nat} {ad ad2 : Option Addr} {l c c2 : Nat} {xs ys : List α}
    (hk0 : ∀ x, (enc x).length = El.sz α) (henc : ∀ (μ : Mem) (f : Nat → Option Value) (x : α), El.rep μ f x → ∀ j u, (enc x)[j]? = some u → f j = some u) (hone : ∀ xs : List α, ∀ u ∈ xs.flatMap enc, u.oneCell' = true)
    (ho' : o' = { callee := .builtin .append, args := #[x, y], argTypes := #[t, t] }) (ht : P.underlying t = some (.slice E)) (hE : TI P E d z (El.sz α) by_) (hz : z.cells.size = El.sz α) {h0 : 0 < El.sz α}
    (hS : St w0 w μ L) (hk : L[k]? = some (Own.sl ad l c E (El.sz α) (ys.flatMap enc))) (hs : Sl μ ad2 c2 xs) (hx : ev m x = some (.slice ad l c)) (hy : ev m y = some (.slice ad2 xs.length c2))
    (h63 : l + xs.length ≤ maxLen) (hb : (l + xs.length) * by_ ≤ 140737488355328) :
    Hv P m (.call o') w (fun u w' => ∃ ad' c', u = .slice ad' (l + xs.length) c' ∧ St w0 w' μ (L.set k (Own.sl ad' (l + xs.length) c' E (El.sz α) ((ys ++ xs).flatMap enc)))) := by
  by_cases hl0 : xs.length = 0
  · obtain rfl := List.eq_nil_of_length_eq_zero hl0
    refine (Hv.append0 ho' ht hE hS hk hx hy).mono fun u w' ⟨hu, hS'⟩ => ⟨ad, c, hu, ?_⟩
    rw [List.append_nil]
    show St w0 w' μ (L.set k (Own.sl ad l c E (El.sz α) (ys.flatMap enc)))
    rw [set_same hk]; exact hS'
  · obtain ⟨b, off, rfl, _⟩ := hs.at (i := 0) (by omega)
    have hc := Sl.cells hk0 h0 henc hs
    exact (Hv.append ho' ht hE hz hS hk hx hy (flatMap_len hk0 xs) (fun j u hu => hS.imm.cell (hc j u hu)) (hone xs) h63 hb).mono fun u w' ⟨ad', c', hu, hS'⟩ => ⟨ad', c', hu, by rw [List.flatMap_append]; exact hS'⟩

namespace Ex
variable {P : Program} {S : World → Prop} {m : List (Nat × Value)} {t t' : TypeId} {x y : Operand} {d : TypeDesc} {z : Value} {by_ sz : Nat}
/-- s[j:], whatever j is. -/
theorem sliceAny {e : TypeId} {ad : Option Addr} {l c' j : Nat} {k : IntKind} {p : Int} (ht : P.underlying t = some (.slice e)) (he : TI P e d z sz by_) (hx : ev m x = some (.slice ad l c')) (hy : ev m y = some (.int k p)) (hp : p = (j : Int)) (hj : j ≤ l) :
    Ex P S m (.slice t x (some y) none none) (.slice (if c' = j then ad else ad.map (·.add (j * sz))) (l - j) (c' - j)) := fun ρ ha w _ o ho => by
  subst hp
  have e1 : (Go.underlying t).run P w = .ok (.slice e) w := by simp [Go.underlying, program, Sem.run, ht, go_sem]
  have e2 := he.sizeOf w
  have h1 : (j : Int) ≤ (l : Int) := by omega
  have e4 : (Instr.sliceBound (.int k (j : Int)) l .sliceB).run P w = .ok j w := by simp [Instr.sliceBound, asIntOf, h1, go_sem]
  simp only [execOp, ho, ha _ _ hx, ha _ _ hy, Option.map_some, Option.map_none, Instr.sliceAt, Instr.slice, Instr.sliceBounds, Sem.run_bind, e1, Result.andThen_ok, Sem.run_pure, Option.isSome_none, Bool.false_eq_true, if_false, e4, e2]
theorem capSl {o' : Call} {e : TypeId} {ad : Option Addr} {l c : Nat} (ho' : o' = { callee := .builtin .cap, args := #[x], argTypes := #[t] }) (ht : P.underlying t = some (.slice e)) (hx : ev m x = some (.slice ad l c)) : Ex P S m (.call o') (.int .i64 c) := fun ρ ha w _ o ho => by
  subst ho'
  have e1 : (Go.underlying t).run P w = .ok (.slice e) w := by simp [Go.underlying, program, Sem.run, ht, go_sem]
  simp [execOp, ho, resolve, invoke, builtin, Builtin.cap_, ha _ _ hx, e1, goInt, go_sem]
theorem eqlSlN {e : TypeId} {ad : Option Addr} {l c l' c' : Nat} (ht : P.underlying t = some (.slice e)) (hx : ev m x = some (.slice ad l c)) (hy : ev m y = some (.slice none l' c')) : Ex P S m (.binOp .eql t x y t') (.bool ad.isNone) := fun ρ ha w _ o ho => by
  have e1 : ∀ w, (Op.equal t (.slice ad l c) (.slice none l' c')).run P w = .ok ad.isNone w := fun w => Lib.run_equalIn_slice_nil w 9999 t e ad l c l' c' ht
  have e3 : (eqGuard .eql t x y (.slice ad l c) (.slice none l' c')).run P w = .ok () w := by cases ad <;> simp [eqGuard, go_sem]
  have e2 : (binOp .eql t (.slice ad l c) (.slice none l' c')) = (do pure (.bool (← Op.equal t (.slice ad l c) (.slice none l' c')))) := rfl
  simp only [execOp, ho, ha _ _ hx, ha _ _ hy, e3, e2, Sem.run_bind, Result.andThen_ok, e1, Sem.run_pure, Sem.run_map]
theorem neqSlN {e : TypeId} {ad : Option Addr} {l c l' c' : Nat} (ht : P.underlying t = some (.slice e)) (hx : ev m x = some (.slice ad l c)) (hy : ev m y = some (.slice none l' c')) : Ex P S m (.binOp .neq t x y t') (.bool (!ad.isNone)) := fun ρ ha w _ o ho => by
  have e1 : ∀ w, (Op.equal t (.slice ad l c) (.slice none l' c')).run P w = .ok ad.isNone w := fun w => Lib.run_equalIn_slice_nil w 9999 t e ad l c l' c' ht
  have e3 : (eqGuard .neq t x y (.slice ad l c) (.slice none l' c')).run P w = .ok () w := by cases ad <;> simp [eqGuard, go_sem]
  have e2 : (binOp .neq t (.slice ad l c) (.slice none l' c')) = (do pure (.bool (!(← Op.equal t (.slice ad l c) (.slice none l' c'))))) := rfl
  simp only [execOp, ho, ha _ _ hx, ha _ _ hy, e3, e2, Sem.run_bind, Result.andThen_ok, e1, Sem.run_pure, Sem.run_map]
end Ex
end Go.Proofs.Ytgnpjhellmfhoaa.Sy
