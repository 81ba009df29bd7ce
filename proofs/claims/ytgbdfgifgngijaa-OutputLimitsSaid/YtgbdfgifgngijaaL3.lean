import Derived.Test.YtgbdfgifgngijaaL2
import Derived.Test.YtgbdfgifgngijaaProg

/-
  Closed facts on the types and functions of this translation, by the kernel.
-/
namespace Go.Proofs.Ytgbdfgifgngijaa
open Go.RowKit Sy
theorem mixed : Try.prog.follows .mixedOrders = true := by kernel_rfl

theorem ti3 : TI Try.prog 3 (.int .i64) (.int .i64 0) 1 8 := ⟨by kernel_rfl, by kernel_rfl⟩
theorem ti5 : TI Try.prog 5 (.int .u8) (.int .u8 0) 1 1 := ⟨by kernel_rfl, by kernel_rfl⟩
theorem ti9 : TI Try.prog 9 .string (.string ⟨#[]⟩) 1 16 := ⟨by kernel_rfl, by kernel_rfl⟩
theorem ti27 : TI Try.prog 27 (.slice 58) (.slice none 0 0) 1 24 := ⟨by kernel_rfl, by kernel_rfl⟩
theorem ti29 : TI Try.prog 29 (.struct #[⟨"Modes", 3, 0, false, "", "", 0⟩, ⟨"Accept", 5, 1, false, "", "", 8⟩, ⟨"Rules", 27, 2, false, "", "", 16⟩]) (.agg #[(.int .i64 0), (.int .u8 0), (.slice none 0 0)]) 3 40 := ⟨by kernel_rfl, by kernel_rfl⟩
theorem st29 : StI Try.prog 29 [(0, 1), (1, 1), (2, 1)] [(.int .i64 0), (.int .u8 0), (.slice none 0 0)] := ⟨by kernel_rfl, by kernel_rfl⟩
theorem ti47 : TI Try.prog 47 (.struct #[⟨"Text", 9, 0, false, "", "", 0⟩, ⟨"Cost", 3, 1, false, "", "", 16⟩]) (.agg #[(.string ⟨#[]⟩), (.int .i64 0)]) 2 24 := ⟨by kernel_rfl, by kernel_rfl⟩
theorem st47 : StI Try.prog 47 [(0, 1), (1, 1)] [(.string ⟨#[]⟩), (.int .i64 0)] := ⟨by kernel_rfl, by kernel_rfl⟩
theorem ti58 : TI Try.prog 58 (.struct #[⟨"From", 3, 0, false, "", "", 0⟩, ⟨"To", 3, 1, false, "", "", 8⟩, ⟨"In", 9, 2, false, "", "", 16⟩, ⟨"Out", 9, 3, false, "", "", 32⟩, ⟨"Cost", 3, 4, false, "", "", 48⟩]) (.agg #[(.int .i64 0), (.int .i64 0), (.string ⟨#[]⟩), (.string ⟨#[]⟩), (.int .i64 0)]) 5 56 := ⟨by kernel_rfl, by kernel_rfl⟩
theorem st58 : StI Try.prog 58 [(0, 1), (1, 1), (2, 1), (3, 1), (4, 1)] [(.int .i64 0), (.int .i64 0), (.string ⟨#[]⟩), (.string ⟨#[]⟩), (.int .i64 0)] := ⟨by kernel_rfl, by kernel_rfl⟩
theorem ti68 : TI Try.prog 68 (.slice 3) (.slice none 0 0) 1 24 := ⟨by kernel_rfl, by kernel_rfl⟩
theorem ti74 : TI Try.prog 74 (.struct #[⟨"mode", 3, 0, false, "", "syllabary/output", 0⟩, ⟨"at", 3, 1, false, "", "syllabary/output", 8⟩]) (.agg #[(.int .i64 0), (.int .i64 0)]) 2 16 := ⟨by kernel_rfl, by kernel_rfl⟩
theorem st74 : StI Try.prog 74 [(0, 1), (1, 1)] [(.int .i64 0), (.int .i64 0)] := ⟨by kernel_rfl, by kernel_rfl⟩
theorem ti78 : TI Try.prog 78 (.map 74 3) (.map none) 1 8 := ⟨by kernel_rfl, by kernel_rfl⟩
theorem ti84 : TI Try.prog 84 (.struct #[⟨"mode", 3, 0, false, "", "syllabary/output", 0⟩, ⟨"out", 9, 1, false, "", "syllabary/output", 8⟩]) (.agg #[(.int .i64 0), (.string ⟨#[]⟩)]) 2 24 := ⟨by kernel_rfl, by kernel_rfl⟩
theorem st84 : StI Try.prog 84 [(0, 1), (1, 1)] [(.int .i64 0), (.string ⟨#[]⟩)] := ⟨by kernel_rfl, by kernel_rfl⟩
theorem ti87 : TI Try.prog 87 (.map 84 3) (.map none) 1 8 := ⟨by kernel_rfl, by kernel_rfl⟩
theorem ti103 : TI Try.prog 103 (.map 3 3) (.map none) 1 8 := ⟨by kernel_rfl, by kernel_rfl⟩
theorem ti113 : TI Try.prog 113 (.struct #[⟨"Dead", 68, 0, false, "", "", 0⟩, ⟨"Stuck", 68, 1, false, "", "", 24⟩, ⟨"Endless", 68, 2, false, "", "", 48⟩]) (.agg #[(.slice none 0 0), (.slice none 0 0), (.slice none 0 0)]) 3 72 := ⟨by kernel_rfl, by kernel_rfl⟩
theorem ti128 : TI Try.prog 128 (.int .u8) (.int .u8 0) 1 1 := ⟨by kernel_rfl, by kernel_rfl⟩
theorem ti165 : TI Try.prog 165 (.struct #[⟨"mode", 3, 0, false, "", "syllabary/flaw", 0⟩, ⟨"chain", 68, 1, false, "", "syllabary/flaw", 8⟩]) (.agg #[(.int .i64 0), (.slice none 0 0)]) 2 32 := ⟨by kernel_rfl, by kernel_rfl⟩
theorem st165 : StI Try.prog 165 [(0, 1), (1, 1)] [(.int .i64 0), (.slice none 0 0)] := ⟨by kernel_rfl, by kernel_rfl⟩
theorem cb8 : Callable Try.prog 8 := ⟨_, Try.func8, by kernel_rfl, by kernel_rfl⟩
theorem cb12 : Callable Try.prog 12 := ⟨_, Try.func12, by kernel_rfl, by kernel_rfl⟩
theorem cb13 : Callable Try.prog 13 := ⟨_, Try.func13, by kernel_rfl, by kernel_rfl⟩
theorem cb17 : Callable Try.prog 17 := ⟨_, Try.func17, by kernel_rfl, by kernel_rfl⟩
theorem cb19 : Callable Try.prog 19 := ⟨_, Try.func19, by kernel_rfl, by kernel_rfl⟩
theorem cb20 : Callable Try.prog 20 := ⟨_, Try.func20, by kernel_rfl, by kernel_rfl⟩
theorem cb21 : Callable Try.prog 21 := ⟨_, Try.func21, by kernel_rfl, by kernel_rfl⟩
theorem cb27 : Callable Try.prog 27 := ⟨_, Try.func27, by kernel_rfl, by kernel_rfl⟩
theorem cb28 : Callable Try.prog 28 := ⟨_, Try.func28, by kernel_rfl, by kernel_rfl⟩
theorem cb29 : Callable Try.prog 29 := ⟨_, Try.func29, by kernel_rfl, by kernel_rfl⟩
theorem cb30 : Callable Try.prog 30 := ⟨_, Try.func30, by kernel_rfl, by kernel_rfl⟩
theorem cb31 : Callable Try.prog 31 := ⟨_, Try.func31, by kernel_rfl, by kernel_rfl⟩
theorem cb32 : Callable Try.prog 32 := ⟨_, Try.func32, by kernel_rfl, by kernel_rfl⟩
theorem cb33 : Callable Try.prog 33 := ⟨_, Try.func33, by kernel_rfl, by kernel_rfl⟩
theorem cb34 : Callable Try.prog 34 := ⟨_, Try.func34, by kernel_rfl, by kernel_rfl⟩
theorem cb35 : Callable Try.prog 35 := ⟨_, Try.func35, by kernel_rfl, by kernel_rfl⟩
theorem cb36 : Callable Try.prog 36 := ⟨_, Try.func36, by kernel_rfl, by kernel_rfl⟩
theorem cb37 : Callable Try.prog 37 := ⟨_, Try.func37, by kernel_rfl, by kernel_rfl⟩
theorem cb38 : Callable Try.prog 38 := ⟨_, Try.func38, by kernel_rfl, by kernel_rfl⟩
theorem cb41 : Callable Try.prog 41 := ⟨_, Try.func41, by kernel_rfl, by kernel_rfl⟩
theorem cb42 : Callable Try.prog 42 := ⟨_, Try.func42, by kernel_rfl, by kernel_rfl⟩
theorem cb43 : Callable Try.prog 43 := ⟨_, Try.func43, by kernel_rfl, by kernel_rfl⟩
theorem cb44 : Callable Try.prog 44 := ⟨_, Try.func44, by kernel_rfl, by kernel_rfl⟩
theorem cb52 : Callable Try.prog 52 := ⟨_, Try.func52, by kernel_rfl, by kernel_rfl⟩
theorem cb53 : Callable Try.prog 53 := ⟨_, Try.func53, by kernel_rfl, by kernel_rfl⟩
theorem cb54 : Callable Try.prog 54 := ⟨_, Try.func54, by kernel_rfl, by kernel_rfl⟩
theorem cb55 : Callable Try.prog 55 := ⟨_, Try.func55, by kernel_rfl, by kernel_rfl⟩
theorem cb56 : Callable Try.prog 56 := ⟨_, Try.func56, by kernel_rfl, by kernel_rfl⟩
theorem cb57 : Callable Try.prog 57 := ⟨_, Try.func57, by kernel_rfl, by kernel_rfl⟩
theorem cb58 : Callable Try.prog 58 := ⟨_, Try.func58, by kernel_rfl, by kernel_rfl⟩
theorem cb59 : Callable Try.prog 59 := ⟨_, Try.func59, by kernel_rfl, by kernel_rfl⟩
theorem cb60 : Callable Try.prog 60 := ⟨_, Try.func60, by kernel_rfl, by kernel_rfl⟩
theorem cb61 : Callable Try.prog 61 := ⟨_, Try.func61, by kernel_rfl, by kernel_rfl⟩
theorem cb62 : Callable Try.prog 62 := ⟨_, Try.func62, by kernel_rfl, by kernel_rfl⟩
theorem cb63 : Callable Try.prog 63 := ⟨_, Try.func63, by kernel_rfl, by kernel_rfl⟩
theorem cb69 : Callable Try.prog 69 := ⟨_, Try.func69, by kernel_rfl, by kernel_rfl⟩
theorem cb70 : Callable Try.prog 70 := ⟨_, Try.func70, by kernel_rfl, by kernel_rfl⟩
theorem cb71 : Callable Try.prog 71 := ⟨_, Try.func71, by kernel_rfl, by kernel_rfl⟩
theorem cb72 : Callable Try.prog 72 := ⟨_, Try.func72, by kernel_rfl, by kernel_rfl⟩
theorem cb73 : Callable Try.prog 73 := ⟨_, Try.func73, by kernel_rfl, by kernel_rfl⟩
theorem cb86 : Callable Try.prog 86 := ⟨_, Try.func86, by kernel_rfl, by kernel_rfl⟩
theorem cb87 : Callable Try.prog 87 := ⟨_, Try.func87, by kernel_rfl, by kernel_rfl⟩
theorem cb88 : Callable Try.prog 88 := ⟨_, Try.func88, by kernel_rfl, by kernel_rfl⟩
theorem cb89 : Callable Try.prog 89 := ⟨_, Try.func89, by kernel_rfl, by kernel_rfl⟩
theorem cb90 : Callable Try.prog 90 := ⟨_, Try.func90, by kernel_rfl, by kernel_rfl⟩
theorem cb91 : Callable Try.prog 91 := ⟨_, Try.func91, by kernel_rfl, by kernel_rfl⟩
theorem cb92 : Callable Try.prog 92 := ⟨_, Try.func92, by kernel_rfl, by kernel_rfl⟩
theorem cb93 : Callable Try.prog 93 := ⟨_, Try.func93, by kernel_rfl, by kernel_rfl⟩
theorem cb94 : Callable Try.prog 94 := ⟨_, Try.func94, by kernel_rfl, by kernel_rfl⟩
theorem cb95 : Callable Try.prog 95 := ⟨_, Try.func95, by kernel_rfl, by kernel_rfl⟩
theorem cb101 : Callable Try.prog 101 := ⟨_, Try.func101, by kernel_rfl, by kernel_rfl⟩
theorem cb102 : Callable Try.prog 102 := ⟨_, Try.func102, by kernel_rfl, by kernel_rfl⟩
theorem cb103 : Callable Try.prog 103 := ⟨_, Try.func103, by kernel_rfl, by kernel_rfl⟩
theorem cb104 : Callable Try.prog 104 := ⟨_, Try.func104, by kernel_rfl, by kernel_rfl⟩
end Go.Proofs.Ytgbdfgifgngijaa

/-
  More operations: sums of counters, loads of small structs, equality of structs, reslicing.
-/
namespace Go.Proofs.Ytgbdfgifgngijaa.Sy
open Go.RowKit

theorem addN {i j : Nat} (h : i + j ≤ 9223372036854775807) : IntKind.i64.wrap ((i : Int) + (j : Int)) = ((i + j : Nat) : Int) := by
  rw [w64 (by omega) (by omega)]; omega
theorem dec64 {i : Nat} (h : 1 ≤ i) (h2 : i ≤ 9223372036854775807) : IntKind.i64.wrap ((i : Int) - 1) = ((i - 1 : Nat) : Int) := by
  rw [w64 (by omega) (by omega)]; omega
theorem subN {i j : Nat} (h : j ≤ i) (h2 : i ≤ 9223372036854775807) : IntKind.i64.wrap ((i : Int) - (j : Int)) = ((i - j : Nat) : Int) := by
  rw [w64 (by omega) (by omega)]; omega

theorem Rd.objAll {μ : Mem} {L : List Own} {k b : Nat} {cs : List Value} {E : TypeId} {w : World} (hk : L[k]? = some (Own.obj b cs E)) (h : Rd μ L w) : ∀ j u, cs[j]? = some u → w.cell? ⟨b, 0 + j, none⟩ = some u :=
  fun j u hu => by rw [Nat.zero_add]; exact Rd.obj hk hu w h

namespace Ex
variable {P : Program} {S : World → Prop} {m : List (Nat × Value)} {t t' : TypeId} {x y c : Operand} {v v' v0 v1 v2 v3 v4 : Value} {d : TypeDesc} {z : Value} {by_ b off : Nat}

theorem load2c (ht : TI P t d z 2 by_) (hd : aggD d = true) (hx : ev m x = some (.pointer (some ⟨b, off, none⟩)))
    (h0 : ∀ w, S w → w.cell? ⟨b, off, none⟩ = some v0) (h1 : ∀ w, S w → w.cell? ⟨b, off + 1, none⟩ = some v1) : Ex P S m (.load t x) (.agg #[v0, v1]) :=
  loadN [v0, v1] ht hd hx fun w hS j v hv => by
    match j, hv with
    | 0, hv => cases hv; exact h0 w hS
    | 1, hv => cases hv; exact h1 w hS
theorem load3c (ht : TI P t d z 3 by_) (hd : aggD d = true) (hx : ev m x = some (.pointer (some ⟨b, off, none⟩)))
    (h0 : ∀ w, S w → w.cell? ⟨b, off, none⟩ = some v0) (h1 : ∀ w, S w → w.cell? ⟨b, off + 1, none⟩ = some v1) (h2 : ∀ w, S w → w.cell? ⟨b, off + 2, none⟩ = some v2) : Ex P S m (.load t x) (.agg #[v0, v1, v2]) :=
  loadN [v0, v1, v2] ht hd hx fun w hS j v hv => by
    match j, hv with
    | 0, hv => cases hv; exact h0 w hS
    | 1, hv => cases hv; exact h1 w hS
    | 2, hv => cases hv; exact h2 w hS
theorem load5c (ht : TI P t d z 5 by_) (hd : aggD d = true) (hx : ev m x = some (.pointer (some ⟨b, off, none⟩)))
    (h0 : ∀ w, S w → w.cell? ⟨b, off, none⟩ = some v0) (h1 : ∀ w, S w → w.cell? ⟨b, off + 1, none⟩ = some v1) (h2 : ∀ w, S w → w.cell? ⟨b, off + 2, none⟩ = some v2)
    (h3 : ∀ w, S w → w.cell? ⟨b, off + 3, none⟩ = some v3) (h4 : ∀ w, S w → w.cell? ⟨b, off + 4, none⟩ = some v4) : Ex P S m (.load t x) (.agg #[v0, v1, v2, v3, v4]) :=
  loadN [v0, v1, v2, v3, v4] ht hd hx fun w hS j v hv => by
    match j, hv with
    | 0, hv => cases hv; exact h0 w hS
    | 1, hv => cases hv; exact h1 w hS
    | 2, hv => cases hv; exact h2 w hS
    | 3, hv => cases hv; exact h3 w hS
    | 4, hv => cases hv; exact h4 w hS

theorem indexS {s : ByteArray} {k : IntKind} {p : Int} {j : Nat} (ht : P.underlying t = some .string) (hx : ev m x = some (.string s)) (hy : ev m y = some (.int k p)) (hp : p = (j : Int)) (hj : j < s.size) :
    Ex P S m (.index t x y) (.int .u8 (s[j]).toNat) := fun ρ ha w _ o ho => by
  subst hp
  have e1 : (Go.underlying t).run P w = .ok .string w := by simp [Go.underlying, program, Sem.run, ht, go_sem]
  have e2 : s[j]? = some s[j] := by simp [hj]
  simp [execOp, ho, ha _ _ hx, ha _ _ hy, Instr.index, asIntOf, e1, e2, go_sem]

/-- '==' and '!=' on structs: what it comes to is told by a closed fact. -/
theorem eqlSt {xs ys : Array Value} {q : Bool} (hg : P.eqGuardType P.depth t = false) (hx : ev m x = some (.agg xs)) (hy : ev m y = some (.agg ys)) (hr : ∀ w, (Op.equal t (.agg xs) (.agg ys)).run P w = .ok q w) : Ex P S m (.binOp .eql t x y t') (.bool q) := fun ρ ha w _ o ho => by
  have e1 := run_eqGuard_agg (P := P) (w := w) .eql t x y xs ys hg
  have e2 : (binOp .eql t (.agg xs) (.agg ys)) = (do pure (.bool (← Op.equal t (.agg xs) (.agg ys)))) := rfl
  simp only [execOp, ho, ha _ _ hx, ha _ _ hy, Sem.run_bind, e1, Result.andThen_ok, e2, hr w, Sem.run_pure]
theorem neqSt {xs ys : Array Value} {q : Bool} (hg : P.eqGuardType P.depth t = false) (hx : ev m x = some (.agg xs)) (hy : ev m y = some (.agg ys)) (hr : ∀ w, (Op.equal t (.agg xs) (.agg ys)).run P w = .ok q w) : Ex P S m (.binOp .neq t x y t') (.bool (!q)) := fun ρ ha w _ o ho => by
  have e1 := run_eqGuard_agg (P := P) (w := w) .neq t x y xs ys hg
  have e2 : (binOp .neq t (.agg xs) (.agg ys)) = (do pure (.bool (!(← Op.equal t (.agg xs) (.agg ys))))) := rfl
  simp only [execOp, ho, ha _ _ hx, ha _ _ hy, Sem.run_bind, e1, Result.andThen_ok, e2, hr w, Sem.run_pure]

/-- s[:k] -/
theorem sliceTo {e : TypeId} {ad : Option Addr} {l c' j : Nat} {k : IntKind} {p : Int} (ht : P.underlying t = some (.slice e)) (he : TI P e d z by_ b) (hx : ev m x = some (.slice ad l c')) (hy : ev m y = some (.int k p)) (hp : p = (j : Int)) (hj : j ≤ c') :
    Ex P S m (.slice t x none (some y) none) (.slice ad j c') := fun ρ ha w _ o ho => by
  subst hp
  have e1 : (Go.underlying t).run P w = .ok (.slice e) w := by simp [Go.underlying, program, Sem.run, ht, go_sem]
  have e2 := he.sizeOf w
  have e3 : (ad.map fun a => a.add (0 * by_)) = ad := by cases ad <;> simp [Addr.add]
  have h1 : (j : Int) ≤ (c' : Int) := by omega
  have e4 : (Instr.sliceBound (.int k (j : Int)) c' .sliceAcap).run P w = .ok j w := by simp [Instr.sliceBound, asIntOf, h1, go_sem]
  simp only [execOp, ho, ha _ _ hx, ha _ _ hy, Option.map_some, Option.map_none, Instr.sliceAt, Instr.slice, Instr.sliceBounds, Sem.run_bind, e1, Result.andThen_ok, Sem.run_pure, if_true, e4, e2, e3, Nat.sub_zero, ite_self]
end Ex
/-- append of nothing. -/
theorem Hv.append0 {P : Program} {m : List (Nat × Value)} {t E : TypeId} {x y : Operand} {w0 w : World} {μ : Mem} {L : List Own} {o' : Call} {k : Nat} {d : TypeDesc} {z : Value} {sz by_ : Nat} {ad ad2 : Option Addr} {l c c2 : Nat} {us : List Value}
    (ho' : o' = { callee := .builtin .append, args := #[x, y], argTypes := #[t, t] }) (ht : P.underlying t = some (.slice E)) (hE : TI P E d z sz by_)
    (hS : St w0 w μ L) (hk : L[k]? = some (Own.sl ad l c E sz us)) (hx : ev m x = some (.slice ad l c)) (hy : ev m y = some (.slice ad2 0 c2)) :
    Hv P m (.call o') w (fun u w' => u = .slice ad l c ∧ St w0 w' μ L) :=
  .of_run fun ρ ha o ho => by
    subst ho'
    have hcap := (hS.sl_cap k hk).1
    have e2 := hE.sizeOf w
    refine ⟨.slice ad l c, w, ?_, rfl, hS⟩
    simp only [execOp, ho, resolve, invoke, builtin, Sem.run_bind, Sem.run_pure, Result.andThen_ok, List.map_toArray, List.map_cons, List.map_nil, ha _ _ hx, ha _ _ hy]
    cases ad <;> cases ad2 <;> simp [Builtin.append_, run_underlying ht, e2, Builtin.lenOf, Builtin.firstCells, loadCells, loadCellsFrom, storeCells, hcap, go_sem]
theorem RepL.append {α : Type} [El α] {μ : Mem} {us vs : List Value} {xs ys : List α} (h1 : RepL μ us xs) (h2 : RepL μ vs ys) : RepL μ (us ++ vs) (xs ++ ys) := by
  refine ⟨by rw [List.length_append, List.length_append, h1.1, h2.1, Nat.add_mul], fun i hi => ?_⟩
  by_cases hlt : i < xs.length
  · rw [List.getElem_append_left hlt]
    refine El.mono (Mem.ext.refl 0 μ) (fun j v hv => ?_) (h1.2 i hlt)
    split at hv
    · rename_i hj
      rw [if_pos hj, List.getElem?_append_left]
      · exact hv
      · exact (List.getElem?_eq_some_iff.1 hv).1
    · cases hv
  · have hi' : i - xs.length < ys.length := by simp at hi; omega
    rw [List.getElem_append_right (by omega)]
    refine El.mono (Mem.ext.refl 0 μ) (fun j v hv => ?_) (h2.2 _ hi')
    split at hv
    · rename_i hj
      have e : i * El.sz α = xs.length * El.sz α + (i - xs.length) * El.sz α := by rw [← Nat.add_mul]; congr 1; omega
      rw [if_pos hj, List.getElem?_append_right (by rw [h1.1, e]; omega), h1.1, e]
      rw [show xs.length * El.sz α + (i - xs.length) * El.sz α + j - xs.length * El.sz α = (i - xs.length) * El.sz α + j by omega]
      exact hv
    · cases hv
theorem set_same {β : Type} {L : List β} {k : Nat} {e : β} (h : L[k]? = some e) : L.set k e = L := by
  apply List.ext_getElem?
  intro j
  by_cases hj : k = j
  · subst hj
    obtain ⟨hlt, hx⟩ := List.getElem?_eq_some_iff.1 h
    rw [List.getElem?_set_self hlt, h]
  · rw [List.getElem?_set_ne hj]
theorem Sl.take {α : Type} [El α] {μ : Mem} {ad : Option Addr} {c : Nat} {xs : List α} (h : Sl μ ad c xs) (n : Nat) : Sl μ ad c (xs.take n) :=
  ⟨Nat.le_trans (by simp; omega) h.1, h.2.1, fun i hi => by
    have hi' : i < xs.length := by simp at hi; omega
    rw [List.getElem_take]; exact h.2.2 i hi'⟩
/-- A row that the call has laid, shut: a slice of immutable memory. -/
theorem St.shutRow {α : Type} [El α] {w0 w : World} {μ : Mem} {L : List Own} {b : Nat} {cs : List Value} {E : TypeId} {xs : List α} (h : St w0 w μ L) (k : Nat) (hk : L[k]? = some (Own.obj b cs E)) (hr : RepL μ cs xs) (hm : xs.length ≤ maxLen) :
    ∃ μ', Mem.ext w0.heap.size μ μ' ∧ St w0 w μ' (L.eraseIdx k) ∧ Sl μ' (some ⟨b, 0, none⟩) xs.length xs := by
  obtain ⟨hkl, _⟩ := List.getElem?_eq_some_iff.1 hk
  have h2 := h.row_sl hk xs.length (El.sz α) hr.1 hm
  obtain ⟨bs, μ', hm', hS, hφ⟩ := h2.shut k (List.getElem?_set_self hkl)
  have e : (L.set k (Own.sl (some ⟨b, 0, none⟩) xs.length xs.length E (El.sz α) cs)).eraseIdx k = L.eraseIdx k := by
    apply List.ext_getElem?
    intro i
    simp only [List.getElem?_eraseIdx]
    split
    · rw [List.getElem?_set_ne (by omega)]
    · rw [List.getElem?_set_ne (by omega)]
  rw [e] at hS
  exact ⟨μ', hm', hS, Sl.of_own hφ (hr.mono hm') rfl⟩
theorem end_none {P : Program} {fn : Func} {R : Ending → World → Prop} {n : Nat} {m : List (Nat × Value)} {w : World} {a : Act} (ha : Fr a n m) (hr : fn.results = #[]) (h : R (.returned (.tuple #[])) w) : bodyPost P fn R .normal a w :=
  ⟨ha.defers, _, results_none hr _ _ _, h⟩
/-- A function whose result lies in a variable of a struct's type. -/
theorem ret_cell {P : Program} {fn : Func} {R : Ending → World → Prop} {n : Nat} {m : List (Nat × Value)} {w : World} {a : Act} {t : Tmp} {E : TypeId} {d : TypeDesc} {z : Value} {by_ b : Nat} {vs : List Value} (ha : Fr a n m) (hr : fn.results = #[.cell t E])
    (hv : look m t = some (.pointer (some ⟨b, 0, none⟩))) (hE : TI P E d z vs.length by_) (hd : aggD d = true) (hc : ∀ j v, vs[j]? = some v → w.cell? ⟨b, 0 + j, none⟩ = some v) (h : R (.returned (.agg vs.toArray)) w) : bodyPost P fn R .ret a w := by
  refine bodyPost_ret ?_ ha.defers h
  have e1 := hE.isAgg w
  rw [hd] at e1
  have e2 := hE.sizeOf w
  have hadd : ∀ j, (⟨b, 0, none⟩ : Addr).add j = ⟨b, 0 + j, none⟩ := fun j => by unfold Addr.add; split <;> simp_all
  have e3 := run_loadCells (P := P) (a := ⟨b, 0, none⟩) vs 0 #[] w fun j v hv => by rw [hadd, Nat.zero_add]; exact hc j v hv
  have e4 : a.tmps.getD t undef = .pointer (some ⟨b, 0, none⟩) := by simp only [Array.getD_eq_getD_getElem?, ha.get t _ hv, Option.getD_some]
  simp only [results, hr, List.mapM_toArray, List.mapM_cons, List.mapM_nil, e4, Sem.run_bind, asAddr, Sem.run_pure, Result.andThen_ok, loadVar, e1, loadCells, e2, e3, if_true, Sem.run_map]
  simp

/-! ### Equality of structs, field by field -/
section
variable {P : Program} {d : Nat} {f : Field} {fs : List Field} {xs ys : Array Value} {r : Bool} {z : Value} {by_ : Nat}
theorem TI.und {t : TypeId} {D : TypeDesc} {sz : Nat} (h : TI P t D z sz by_) : P.underlying t = some D := by
  have e := h.underlying (default : World)
  cases hu : P.underlying t with
  | none => simp [Go.underlying, program, Sem.run, hu, go_sem] at e
  | some d => simp [Go.underlying, program, Sem.run, hu, go_sem] at e; rw [e]
theorem eqF_nil (w : World) : (Op.eqFields d xs ys []).run P w = .ok true w := by simp [Op.eqFields, go_sem]
theorem eqF_int {k k' : IntKind} {a b : Int} (hn : (f.name == "_") = false) (hE : TI P f.type (.int k') z 1 by_) (hx : xs[f.offset]? = some (.int k a)) (hy : ys[f.offset]? = some (.int k b))
    (hr : ∀ w, (Op.eqFields (d + 1) xs ys fs).run P w = .ok r w) (w : World) : (Op.eqFields (d + 1) xs ys (f :: fs)).run P w = .ok (decide (a = b) && r) w := by
  have hn' : f.name ≠ "_" := by simpa using hn
  have e1 : ∀ w, (Go.isAgg f.type).run P w = .ok false w := fun w => hE.isAgg w
  have e2 : ∀ w, (Op.equalIn (d + 1) f.type (.int k a) (.int k b)).run P w = .ok (a == b) w := fun w => run_equalIn_int w d f.type k k' a b hE.und
  simp only [Op.eqFields, hn', ne_eq, not_false_eq_true, if_true, part, Sem.run_bind, e1, Result.andThen_ok, Bool.false_eq_true, if_false, hx, hy, Sem.run_pure, e2]
  by_cases h : a = b
  · subst h; simp [hr]
  · simp [h, go_sem]
theorem eqF_string {a b : ByteArray} (hn : (f.name == "_") = false) (hE : TI P f.type .string z 1 by_) (hx : xs[f.offset]? = some (.string a)) (hy : ys[f.offset]? = some (.string b))
    (hr : ∀ w, (Op.eqFields (d + 1) xs ys fs).run P w = .ok r w) (w : World) : (Op.eqFields (d + 1) xs ys (f :: fs)).run P w =   .ok ((a == b) && r) w := by
  have hn' : f.name ≠ "_" := by simpa using hn
  have e1 : ∀ w, (Go.isAgg f.type).run P w = .ok false w := fun w => hE.isAgg w
  have e2 : ∀ w, (Op.equalIn (d + 1) f.type (.string a) (.string b)).run P w = .ok (a == b) w := fun w => by rw [beq_toListBytes]; exact run_equalIn_string w d f.type a b hE.und
  simp only [Op.eqFields, hn', ne_eq, not_false_eq_true, if_true, part, Sem.run_bind, e1, Result.andThen_ok, Bool.false_eq_true, if_false, hx, hy, Sem.run_pure, e2]
  cases h : (a == b)
  · simp [go_sem]
  · simp [hr]
theorem eqStruct {t : TypeId} {fa : Array Field} (ht : P.underlying t = some (.struct fa)) (hp : P.stoodInHeld t = false) (hr : ∀ w, (Op.eqFields 9999 xs ys fa.toList).run P w = .ok r w) (w : World) :
    (Op.equal t (.agg xs) (.agg ys)).run P w = .ok r w := by
  have e : P.fieldsOf t = fa := by simp [Program.fieldsOf, ht]
  have := run_equalIn_struct (P := P) w 9999 t xs ys (by rw [e]; exact ht) hp
  rw [e] at this
  exact this.trans (hr w)
end

end Go.Proofs.Ytgbdfgifgngijaa.Sy
