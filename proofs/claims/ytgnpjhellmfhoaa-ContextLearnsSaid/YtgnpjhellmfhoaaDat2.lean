/-
  Data: structures, how they lie in memory, and how a statement's reader finds them.
-/
import Derived.Test.YtgnpjhellmfhoaaTypes
import Derived.Test.YtgnpjhellmfhoaaRead
import Derived.Test.YtgnpjhellmfhoaaSort
import Derived.Test.YtgnpjhellmfhoaaData
namespace Go.Proofs.Ytgnpjhellmfhoaa
open Go.RowKit Sy Go.ChangeShapes Go.WideShapes Go.ChangeAt
set_option maxRecDepth 100000

structure Q4 where
  a : UInt8
  b : UInt8
  c : UInt8
  d : UInt8
  deriving DecidableEq, Inhabited
instance : El Q4 := ⟨4, fun _ f x => f 0 = some (.int .u8 x.a.toNat) ∧ f 1 = some (.int .u8 x.b.toNat) ∧ f 2 = some (.int .u8 x.c.toNat) ∧ f 3 = some (.int .u8 x.d.toNat), fun _ hf h => ⟨hf _ _ h.1, hf _ _ h.2.1, hf _ _ h.2.2.1, hf _ _ h.2.2.2⟩⟩
def q4L (x : Q4) : List Value := [.int .u8 x.a.toNat, .int .u8 x.b.toNat, .int .u8 x.c.toNat, .int .u8 x.d.toNat]
abbrev q4V (x : Q4) : Value := .agg #[.int .u8 x.a.toNat, .int .u8 x.b.toNat, .int .u8 x.c.toNat, .int .u8 x.d.toNat]
theorem q4L_len (x : Q4) : (q4L x).length = 4 := rfl
theorem q4Rep (μ : Mem) (x : Q4) : El.rep μ (fun j => (q4L x)[j]?) x := ⟨rfl, rfl, rfl, rfl⟩
theorem q4Reps (μ : Mem) (xs : List Q4) : RepL μ (xs.flatMap q4L) xs := RepL.flat (enc := q4L) (fun _ => rfl) (by decide) μ (q4Rep μ) xs
theorem q4Enc (μ : Mem) (f : Nat → Option Value) (x : Q4) (h : El.rep μ f x) (j : Nat) (u : Value) (hu : (q4L x)[j]? = some u) : f j = some u := by
  match j, hu with
  | 0, hu => cases hu; exact h.1
  | 1, hu => cases hu; exact h.2.1
  | 2, hu => cases hu; exact h.2.2.1
  | 3, hu => cases hu; exact h.2.2.2
theorem q4One (x : Q4) : ∀ u ∈ q4L x, u.oneCell' = true := by simp [q4L, Value.oneCell']
theorem q4Ones (xs : List Q4) : ∀ u ∈ xs.flatMap q4L, u.oneCell' = true := fun u hu => by
  obtain ⟨p, _, hp⟩ := List.mem_flatMap.1 hu
  exact q4One p u hp
theorem rQ4 : Reads Try.prog 28 Q4 := ⟨by kernel_rfl, by decide, fun h => by
  have ct : Try.prog.cellsOf 28 = 4 := by kernel_rfl
  have c5 : Try.prog.cellsOf 5 = 1 := by kernel_rfl
  obtain ⟨xs, n, _, _, hl, hlen, hf⟩ := DataW.trod_array Try.underlying28 h
  have h0 := hf 0 (by decide)
  rw [List.getElem?_eq_getElem (by rw [hlen]; decide)] at h0
  rw [c5] at h0
  obtain ⟨a0, e0, _, w0⟩ := DataW.trod_int Try.underlying5 h0
  obtain ⟨a0, rfl⟩ := u8_of w0
  have h1 := hf 1 (by decide)
  rw [List.getElem?_eq_getElem (by rw [hlen]; decide)] at h1
  rw [c5] at h1
  obtain ⟨a1, e1, _, w1⟩ := DataW.trod_int Try.underlying5 h1
  obtain ⟨a1, rfl⟩ := u8_of w1
  have h2 := hf 2 (by decide)
  rw [List.getElem?_eq_getElem (by rw [hlen]; decide)] at h2
  rw [c5] at h2
  obtain ⟨a2, e2, _, w2⟩ := DataW.trod_int Try.underlying5 h2
  obtain ⟨a2, rfl⟩ := u8_of w2
  have h3 := hf 3 (by decide)
  rw [List.getElem?_eq_getElem (by rw [hlen]; decide)] at h3
  rw [c5] at h3
  obtain ⟨a3, e3, _, w3⟩ := DataW.trod_int Try.underlying5 h3
  obtain ⟨a3, rfl⟩ := u8_of w3
  exact ⟨⟨a0, a1, a2, a3⟩, hl.trans ct, cell_of_take e0, cell_of_take e1, cell_of_take e2, cell_of_take e3⟩⟩
theorem q4Val {H : Type} {enc : TypeId × Value → H} {W : World} {v : Value} {d : DataW H} {p : List MemPlace} {spare : Nat → Bool} {held : Bool} (h : DataW.Trod enc Try.prog W 0 spare held 28 v d p) : ∃ x : Q4, v = q4V x := by
  obtain ⟨x, l, rfl, hl, hr⟩ := rQ4.val (by decide) h
  refine ⟨x, ?_⟩
  have e : l = q4L x := list_ext hl fun j u hu => q4Enc (memOf W) (fun j => l[j]?) x hr j u hu
  rw [e]; rfl
end Go.Proofs.Ytgnpjhellmfhoaa
