/-
  Data: structures, how they lie in memory, and how a statement's reader finds them.
-/
import Derived.Test.YtgnpjhellmfhoaaTypes
import Derived.Test.YtgnpjhellmfhoaaRead
import Derived.Test.YtgnpjhellmfhoaaSort

namespace Go.Proofs.Ytgnpjhellmfhoaa
open Go.RowKit Sy Go.ChangeShapes Go.WideShapes Go.ChangeAt
set_option maxRecDepth 100000

structure B4 where
  a : UInt8
  b : UInt8
  c : UInt8
  d : UInt8
  deriving DecidableEq, Inhabited
instance : El B4 := ⟨4, fun _ f x => f 0 = some (.int .u8 x.a.toNat) ∧ f 1 = some (.int .u8 x.b.toNat) ∧ f 2 = some (.int .u8 x.c.toNat) ∧ f 3 = some (.int .u8 x.d.toNat), fun _ hf h => ⟨hf _ _ h.1, hf _ _ h.2.1, hf _ _ h.2.2.1, hf _ _ h.2.2.2⟩⟩
def b4L (x : B4) : List Value := [.int .u8 x.a.toNat, .int .u8 x.b.toNat, .int .u8 x.c.toNat, .int .u8 x.d.toNat]
abbrev b4V (x : B4) : Value := .agg #[.int .u8 x.a.toNat, .int .u8 x.b.toNat, .int .u8 x.c.toNat, .int .u8 x.d.toNat]
theorem b4L_len (x : B4) : (b4L x).length = 4 := rfl
theorem b4Rep (μ : Mem) (x : B4) : El.rep μ (fun j => (b4L x)[j]?) x := ⟨rfl, rfl, rfl, rfl⟩
theorem b4Reps (μ : Mem) (xs : List B4) : RepL μ (xs.flatMap b4L) xs := RepL.flat (enc := b4L) (fun _ => rfl) (by decide) μ (b4Rep μ) xs
theorem b4Enc (μ : Mem) (f : Nat → Option Value) (x : B4) (h : El.rep μ f x) (j : Nat) (u : Value) (hu : (b4L x)[j]? = some u) : f j = some u := by
  match j, hu with
  | 0, hu => cases hu; exact h.1
  | 1, hu => cases hu; exact h.2.1
  | 2, hu => cases hu; exact h.2.2.1
  | 3, hu => cases hu; exact h.2.2.2
theorem b4One (x : B4) : ∀ u ∈ b4L x, u.oneCell' = true := by simp [b4L, Value.oneCell']
theorem b4Ones (xs : List B4) : ∀ u ∈ xs.flatMap b4L, u.oneCell' = true := fun u hu => by
  obtain ⟨p, _, hp⟩ := List.mem_flatMap.1 hu
  exact b4One p u hp
theorem rB4 : Reads Try.prog 88 B4 := ⟨by kernel_rfl, by decide, fun h => by
  have ct : Try.prog.cellsOf 88 = 4 := by kernel_rfl
  have c5 : Try.prog.cellsOf 5 = 1 := by kernel_rfl
  obtain ⟨xs, n, _, _, hl, hlen, hf⟩ := DataW.trod_array Try.underlying88 h
  have h0 := hf 0 (by decide)
  rw [List.getElem?_eq_getElem (by rw [hlen]; decide)] at h0
  rw [c5] at h0
  obtain ⟨a0, e0, _, w0⟩ := DataW.trod_int Try.underlying5 h0
  obtain ⟨a0, rfl⟩ := u8_of w0
  have h1 := hf 1 (by decide)
  rw [List.getElem?_eq_getElem (by rw [hlen]; decide)] at h1
  rw [c5] at h1
  obtain ⟨a1, e1, _, w1⟩ := DataW.trod_int Try.underlying5 h1
  obtain ⟨a1, rfl⟩ := u8_of w1
  have h2 := hf 2 (by decide)
  rw [List.getElem?_eq_getElem (by rw [hlen]; decide)] at h2
  rw [c5] at h2
  obtain ⟨a2, e2, _, w2⟩ := DataW.trod_int Try.underlying5 h2
  obtain ⟨a2, rfl⟩ := u8_of w2
  have h3 := hf 3 (by decide)
  rw [List.getElem?_eq_getElem (by rw [hlen]; decide)] at h3
  rw [c5] at h3
  obtain ⟨a3, e3, _, w3⟩ := DataW.trod_int Try.underlying5 h3
  obtain ⟨a3, rfl⟩ := u8_of w3
  exact ⟨⟨a0, a1, a2, a3⟩, hl.trans ct, cell_of_take e0, cell_of_take e1, cell_of_take e2, cell_of_take e3⟩⟩
theorem b4Val {H : Type} {enc : TypeId × Value → H} {W : World} {v : Value} {d : DataW H} {p : List MemPlace} {spare : Nat → Bool} {held : Bool} (h : DataW.Trod enc Try.prog W 0 spare held 88 v d p) : ∃ x : B4, v = b4V x := by
  obtain ⟨x, l, rfl, hl, hr⟩ := rB4.val (by decide) h
  refine ⟨x, ?_⟩
  have e : l = b4L x := list_ext hl fun j u hu => b4Enc (memOf W) (fun j => l[j]?) x hr j u hu
  rw [e]; rfl
structure B3 where
  a : UInt8
  b : UInt8
  c : UInt8
  deriving DecidableEq, Inhabited
instance : El B3 := ⟨3, fun _ f x => f 0 = some (.int .u8 x.a.toNat) ∧ f 1 = some (.int .u8 x.b.toNat) ∧ f 2 = some (.int .u8 x.c.toNat), fun _ hf h => ⟨hf _ _ h.1, hf _ _ h.2.1, hf _ _ h.2.2⟩⟩
def b3L (x : B3) : List Value := [.int .u8 x.a.toNat, .int .u8 x.b.toNat, .int .u8 x.c.toNat]
abbrev b3V (x : B3) : Value := .agg #[.int .u8 x.a.toNat, .int .u8 x.b.toNat, .int .u8 x.c.toNat]
theorem b3L_len (x : B3) : (b3L x).length = 3 := rfl
theorem b3Rep (μ : Mem) (x : B3) : El.rep μ (fun j => (b3L x)[j]?) x := ⟨rfl, rfl, rfl⟩
theorem b3Reps (μ : Mem) (xs : List B3) : RepL μ (xs.flatMap b3L) xs := RepL.flat (enc := b3L) (fun _ => rfl) (by decide) μ (b3Rep μ) xs
theorem b3Enc (μ : Mem) (f : Nat → Option Value) (x : B3) (h : El.rep μ f x) (j : Nat) (u : Value) (hu : (b3L x)[j]? = some u) : f j = some u := by
  match j, hu with
  | 0, hu => cases hu; exact h.1
  | 1, hu => cases hu; exact h.2.1
  | 2, hu => cases hu; exact h.2.2
theorem b3One (x : B3) : ∀ u ∈ b3L x, u.oneCell' = true := by simp [b3L, Value.oneCell']
theorem b3Ones (xs : List B3) : ∀ u ∈ xs.flatMap b3L, u.oneCell' = true := fun u hu => by
  obtain ⟨p, _, hp⟩ := List.mem_flatMap.1 hu
  exact b3One p u hp
theorem rB3 : Reads Try.prog 84 B3 := ⟨by kernel_rfl, by decide, fun h => by
  have ct : Try.prog.cellsOf 84 = 3 := by kernel_rfl
  have c5 : Try.prog.cellsOf 5 = 1 := by kernel_rfl
  obtain ⟨xs, n, _, _, hl, hlen, hf⟩ := DataW.trod_array Try.underlying84 h
  have h0 := hf 0 (by decide)
  rw [List.getElem?_eq_getElem (by rw [hlen]; decide)] at h0
  rw [c5] at h0
  obtain ⟨a0, e0, _, w0⟩ := DataW.trod_int Try.underlying5 h0
  obtain ⟨a0, rfl⟩ := u8_of w0
  have h1 := hf 1 (by decide)
  rw [List.getElem?_eq_getElem (by rw [hlen]; decide)] at h1
  rw [c5] at h1
  obtain ⟨a1, e1, _, w1⟩ := DataW.trod_int Try.underlying5 h1
  obtain ⟨a1, rfl⟩ := u8_of w1
  have h2 := hf 2 (by decide)
  rw [List.getElem?_eq_getElem (by rw [hlen]; decide)] at h2
  rw [c5] at h2
  obtain ⟨a2, e2, _, w2⟩ := DataW.trod_int Try.underlying5 h2
  obtain ⟨a2, rfl⟩ := u8_of w2
  exact ⟨⟨a0, a1, a2⟩, hl.trans ct, cell_of_take e0, cell_of_take e1, cell_of_take e2⟩⟩
theorem b3Val {H : Type} {enc : TypeId × Value → H} {W : World} {v : Value} {d : DataW H} {p : List MemPlace} {spare : Nat → Bool} {held : Bool} (h : DataW.Trod enc Try.prog W 0 spare held 84 v d p) : ∃ x : B3, v = b3V x := by
  obtain ⟨x, l, rfl, hl, hr⟩ := rB3.val (by decide) h
  refine ⟨x, ?_⟩
  have e : l = b3L x := list_ext hl fun j u hu => b3Enc (memOf W) (fun j => l[j]?) x hr j u hu
  rw [e]; rfl
structure B2 where
  a : UInt8
  b : UInt8
  deriving DecidableEq, Inhabited
instance : El B2 := ⟨2, fun _ f x => f 0 = some (.int .u8 x.a.toNat) ∧ f 1 = some (.int .u8 x.b.toNat), fun _ hf h => ⟨hf _ _ h.1, hf _ _ h.2⟩⟩
def b2L (x : B2) : List Value := [.int .u8 x.a.toNat, .int .u8 x.b.toNat]
abbrev b2V (x : B2) : Value := .agg #[.int .u8 x.a.toNat, .int .u8 x.b.toNat]
theorem b2L_len (x : B2) : (b2L x).length = 2 := rfl
theorem b2Rep (μ : Mem) (x : B2) : El.rep μ (fun j => (b2L x)[j]?) x := ⟨rfl, rfl⟩
theorem b2Reps (μ : Mem) (xs : List B2) : RepL μ (xs.flatMap b2L) xs := RepL.flat (enc := b2L) (fun _ => rfl) (by decide) μ (b2Rep μ) xs
theorem b2Enc (μ : Mem) (f : Nat → Option Value) (x : B2) (h : El.rep μ f x) (j : Nat) (u : Value) (hu : (b2L x)[j]? = some u) : f j = some u := by
  match j, hu with
  | 0, hu => cases hu; exact h.1
  | 1, hu => cases hu; exact h.2
theorem b2One (x : B2) : ∀ u ∈ b2L x, u.oneCell' = true := by simp [b2L, Value.oneCell']
theorem b2Ones (xs : List B2) : ∀ u ∈ xs.flatMap b2L, u.oneCell' = true := fun u hu => by
  obtain ⟨p, _, hp⟩ := List.mem_flatMap.1 hu
  exact b2One p u hp
theorem rB2 : Reads Try.prog 62 B2 := ⟨by kernel_rfl, by decide, fun h => by
  have ct : Try.prog.cellsOf 62 = 2 := by kernel_rfl
  have c5 : Try.prog.cellsOf 5 = 1 := by kernel_rfl
  obtain ⟨xs, n, _, _, hl, hlen, hf⟩ := DataW.trod_array Try.underlying62 h
  have h0 := hf 0 (by decide)
  rw [List.getElem?_eq_getElem (by rw [hlen]; decide)] at h0
  rw [c5] at h0
  obtain ⟨a0, e0, _, w0⟩ := DataW.trod_int Try.underlying5 h0
  obtain ⟨a0, rfl⟩ := u8_of w0
  have h1 := hf 1 (by decide)
  rw [List.getElem?_eq_getElem (by rw [hlen]; decide)] at h1
  rw [c5] at h1
  obtain ⟨a1, e1, _, w1⟩ := DataW.trod_int Try.underlying5 h1
  obtain ⟨a1, rfl⟩ := u8_of w1
  exact ⟨⟨a0, a1⟩, hl.trans ct, cell_of_take e0, cell_of_take e1⟩⟩
theorem b2Val {H : Type} {enc : TypeId × Value → H} {W : World} {v : Value} {d : DataW H} {p : List MemPlace} {spare : Nat → Bool} {held : Bool} (h : DataW.Trod enc Try.prog W 0 spare held 62 v d p) : ∃ x : B2, v = b2V x := by
  obtain ⟨x, l, rfl, hl, hr⟩ := rB2.val (by decide) h
  refine ⟨x, ?_⟩
  have e : l = b2L x := list_ext hl fun j u hu => b2Enc (memOf W) (fun j => l[j]?) x hr j u hu
  rw [e]; rfl
structure B5 where
  a : UInt8
  b : UInt8
  c : UInt8
  d : UInt8
  e : UInt8
  deriving DecidableEq, Inhabited
instance : El B5 := ⟨5, fun _ f x => f 0 = some (.int .u8 x.a.toNat) ∧ f 1 = some (.int .u8 x.b.toNat) ∧ f 2 = some (.int .u8 x.c.toNat) ∧ f 3 = some (.int .u8 x.d.toNat) ∧ f 4 = some (.int .u8 x.e.toNat), fun _ hf h => ⟨hf _ _ h.1, hf _ _ h.2.1, hf _ _ h.2.2.1, hf _ _ h.2.2.2.1, hf _ _ h.2.2.2.2⟩⟩
def b5L (x : B5) : List Value := [.int .u8 x.a.toNat, .int .u8 x.b.toNat, .int .u8 x.c.toNat, .int .u8 x.d.toNat, .int .u8 x.e.toNat]
abbrev b5V (x : B5) : Value := .agg #[.int .u8 x.a.toNat, .int .u8 x.b.toNat, .int .u8 x.c.toNat, .int .u8 x.d.toNat, .int .u8 x.e.toNat]
theorem b5L_len (x : B5) : (b5L x).length = 5 := rfl
theorem b5Rep (μ : Mem) (x : B5) : El.rep μ (fun j => (b5L x)[j]?) x := ⟨rfl, rfl, rfl, rfl, rfl⟩
theorem b5Reps (μ : Mem) (xs : List B5) : RepL μ (xs.flatMap b5L) xs := RepL.flat (enc := b5L) (fun _ => rfl) (by decide) μ (b5Rep μ) xs
theorem b5Enc (μ : Mem) (f : Nat → Option Value) (x : B5) (h : El.rep μ f x) (j : Nat) (u : Value) (hu : (b5L x)[j]? = some u) : f j = some u := by
  match j, hu with
  | 0, hu => cases hu; exact h.1
  | 1, hu => cases hu; exact h.2.1
  | 2, hu => cases hu; exact h.2.2.1
  | 3, hu => cases hu; exact h.2.2.2.1
  | 4, hu => cases hu; exact h.2.2.2.2
theorem b5One (x : B5) : ∀ u ∈ b5L x, u.oneCell' = true := by simp [b5L, Value.oneCell']
theorem b5Ones (xs : List B5) : ∀ u ∈ xs.flatMap b5L, u.oneCell' = true := fun u hu => by
  obtain ⟨p, _, hp⟩ := List.mem_flatMap.1 hu
  exact b5One p u hp
theorem rB5 : Reads Try.prog 68 B5 := ⟨by kernel_rfl, by decide, fun h => by
  have ct : Try.prog.cellsOf 68 = 5 := by kernel_rfl
  have c5 : Try.prog.cellsOf 5 = 1 := by kernel_rfl
  obtain ⟨xs, n, _, _, hl, hlen, hf⟩ := DataW.trod_array Try.underlying68 h
  have h0 := hf 0 (by decide)
  rw [List.getElem?_eq_getElem (by rw [hlen]; decide)] at h0
  rw [c5] at h0
  obtain ⟨a0, e0, _, w0⟩ := DataW.trod_int Try.underlying5 h0
  obtain ⟨a0, rfl⟩ := u8_of w0
  have h1 := hf 1 (by decide)
  rw [List.getElem?_eq_getElem (by rw [hlen]; decide)] at h1
  rw [c5] at h1
  obtain ⟨a1, e1, _, w1⟩ := DataW.trod_int Try.underlying5 h1
  obtain ⟨a1, rfl⟩ := u8_of w1
  have h2 := hf 2 (by decide)
  rw [List.getElem?_eq_getElem (by rw [hlen]; decide)] at h2
  rw [c5] at h2
  obtain ⟨a2, e2, _, w2⟩ := DataW.trod_int Try.underlying5 h2
  obtain ⟨a2, rfl⟩ := u8_of w2
  have h3 := hf 3 (by decide)
  rw [List.getElem?_eq_getElem (by rw [hlen]; decide)] at h3
  rw [c5] at h3
  obtain ⟨a3, e3, _, w3⟩ := DataW.trod_int Try.underlying5 h3
  obtain ⟨a3, rfl⟩ := u8_of w3
  have h4 := hf 4 (by decide)
  rw [List.getElem?_eq_getElem (by rw [hlen]; decide)] at h4
  rw [c5] at h4
  obtain ⟨a4, e4, _, w4⟩ := DataW.trod_int Try.underlying5 h4
  obtain ⟨a4, rfl⟩ := u8_of w4
  exact ⟨⟨a0, a1, a2, a3, a4⟩, hl.trans ct, cell_of_take e0, cell_of_take e1, cell_of_take e2, cell_of_take e3, cell_of_take e4⟩⟩
theorem b5Val {H : Type} {enc : TypeId × Value → H} {W : World} {v : Value} {d : DataW H} {p : List MemPlace} {spare : Nat → Bool} {held : Bool} (h : DataW.Trod enc Try.prog W 0 spare held 68 v d p) : ∃ x : B5, v = b5V x := by
  obtain ⟨x, l, rfl, hl, hr⟩ := rB5.val (by decide) h
  refine ⟨x, ?_⟩
  have e : l = b5L x := list_ext hl fun j u hu => b5Enc (memOf W) (fun j => l[j]?) x hr j u hu
  rw [e]; rfl
structure B6 where
  a : UInt8
  b : UInt8
  c : UInt8
  d : UInt8
  e : UInt8
  f : UInt8
  deriving DecidableEq, Inhabited
instance : El B6 := ⟨6, fun _ f x => f 0 = some (.int .u8 x.a.toNat) ∧ f 1 = some (.int .u8 x.b.toNat) ∧ f 2 = some (.int .u8 x.c.toNat) ∧ f 3 = some (.int .u8 x.d.toNat) ∧ f 4 = some (.int .u8 x.e.toNat) ∧ f 5 = some (.int .u8 x.f.toNat), fun _ hf h => ⟨hf _ _ h.1, hf _ _ h.2.1, hf _ _ h.2.2.1, hf _ _ h.2.2.2.1, hf _ _ h.2.2.2.2.1, hf _ _ h.2.2.2.2.2⟩⟩
def b6L (x : B6) : List Value := [.int .u8 x.a.toNat, .int .u8 x.b.toNat, .int .u8 x.c.toNat, .int .u8 x.d.toNat, .int .u8 x.e.toNat, .int .u8 x.f.toNat]
abbrev b6V (x : B6) : Value := .agg #[.int .u8 x.a.toNat, .int .u8 x.b.toNat, .int .u8 x.c.toNat, .int .u8 x.d.toNat, .int .u8 x.e.toNat, .int .u8 x.f.toNat]
theorem b6L_len (x : B6) : (b6L x).length = 6 := rfl
theorem b6Rep (μ : Mem) (x : B6) : El.rep μ (fun j => (b6L x)[j]?) x := ⟨rfl, rfl, rfl, rfl, rfl, rfl⟩
theorem b6Reps (μ : Mem) (xs : List B6) : RepL μ (xs.flatMap b6L) xs := RepL.flat (enc := b6L) (fun _ => rfl) (by decide) μ (b6Rep μ) xs
theorem b6Enc (μ : Mem) (f : Nat → Option Value) (x : B6) (h : El.rep μ f x) (j : Nat) (u : Value) (hu : (b6L x)[j]? = some u) : f j = some u := by
  match j, hu with
  | 0, hu => cases hu; exact h.1
  | 1, hu => cases hu; exact h.2.1
  | 2, hu => cases hu; exact h.2.2.1
  | 3, hu => cases hu; exact h.2.2.2.1
  | 4, hu => cases hu; exact h.2.2.2.2.1
  | 5, hu => cases hu; exact h.2.2.2.2.2
theorem b6One (x : B6) : ∀ u ∈ b6L x, u.oneCell' = true := by simp [b6L, Value.oneCell']
theorem b6Ones (xs : List B6) : ∀ u ∈ xs.flatMap b6L, u.oneCell' = true := fun u hu => by
  obtain ⟨p, _, hp⟩ := List.mem_flatMap.1 hu
  exact b6One p u hp
theorem rB6 : Reads Try.prog 71 B6 := ⟨by kernel_rfl, by decide, fun h => by
  have ct : Try.prog.cellsOf 71 = 6 := by kernel_rfl
  have c5 : Try.prog.cellsOf 5 = 1 := by kernel_rfl
  obtain ⟨xs, n, _, _, hl, hlen, hf⟩ := DataW.trod_array Try.underlying71 h
  have h0 := hf 0 (by decide)
  rw [List.getElem?_eq_getElem (by rw [hlen]; decide)] at h0
  rw [c5] at h0
  obtain ⟨a0, e0, _, w0⟩ := DataW.trod_int Try.underlying5 h0
  obtain ⟨a0, rfl⟩ := u8_of w0
  have h1 := hf 1 (by decide)
  rw [List.getElem?_eq_getElem (by rw [hlen]; decide)] at h1
  rw [c5] at h1
  obtain ⟨a1, e1, _, w1⟩ := DataW.trod_int Try.underlying5 h1
  obtain ⟨a1, rfl⟩ := u8_of w1
  have h2 := hf 2 (by decide)
  rw [List.getElem?_eq_getElem (by rw [hlen]; decide)] at h2
  rw [c5] at h2
  obtain ⟨a2, e2, _, w2⟩ := DataW.trod_int Try.underlying5 h2
  obtain ⟨a2, rfl⟩ := u8_of w2
  have h3 := hf 3 (by decide)
  rw [List.getElem?_eq_getElem (by rw [hlen]; decide)] at h3
  rw [c5] at h3
  obtain ⟨a3, e3, _, w3⟩ := DataW.trod_int Try.underlying5 h3
  obtain ⟨a3, rfl⟩ := u8_of w3
  have h4 := hf 4 (by decide)
  rw [List.getElem?_eq_getElem (by rw [hlen]; decide)] at h4
  rw [c5] at h4
  obtain ⟨a4, e4, _, w4⟩ := DataW.trod_int Try.underlying5 h4
  obtain ⟨a4, rfl⟩ := u8_of w4
  have h5 := hf 5 (by decide)
  rw [List.getElem?_eq_getElem (by rw [hlen]; decide)] at h5
  rw [c5] at h5
  obtain ⟨a5, e5, _, w5⟩ := DataW.trod_int Try.underlying5 h5
  obtain ⟨a5, rfl⟩ := u8_of w5
  exact ⟨⟨a0, a1, a2, a3, a4, a5⟩, hl.trans ct, cell_of_take e0, cell_of_take e1, cell_of_take e2, cell_of_take e3, cell_of_take e4, cell_of_take e5⟩⟩
theorem b6Val {H : Type} {enc : TypeId × Value → H} {W : World} {v : Value} {d : DataW H} {p : List MemPlace} {spare : Nat → Bool} {held : Bool} (h : DataW.Trod enc Try.prog W 0 spare held 71 v d p) : ∃ x : B6, v = b6V x := by
  obtain ⟨x, l, rfl, hl, hr⟩ := rB6.val (by decide) h
  refine ⟨x, ?_⟩
  have e : l = b6L x := list_ext hl fun j u hu => b6Enc (memOf W) (fun j => l[j]?) x hr j u hu
  rw [e]; rfl
structure I3 where
  a : Int
  b : Int
  c : Int
  deriving DecidableEq, Inhabited
instance : El I3 := ⟨3, fun _ f x => f 0 = some (.int .i64 x.a) ∧ f 1 = some (.int .i64 x.b) ∧ f 2 = some (.int .i64 x.c), fun _ hf h => ⟨hf _ _ h.1, hf _ _ h.2.1, hf _ _ h.2.2⟩⟩
def i3L (x : I3) : List Value := [.int .i64 x.a, .int .i64 x.b, .int .i64 x.c]
abbrev i3V (x : I3) : Value := .agg #[.int .i64 x.a, .int .i64 x.b, .int .i64 x.c]
theorem i3L_len (x : I3) : (i3L x).length = 3 := rfl
theorem i3Rep (μ : Mem) (x : I3) : El.rep μ (fun j => (i3L x)[j]?) x := ⟨rfl, rfl, rfl⟩
theorem i3Reps (μ : Mem) (xs : List I3) : RepL μ (xs.flatMap i3L) xs := RepL.flat (enc := i3L) (fun _ => rfl) (by decide) μ (i3Rep μ) xs
theorem i3Enc (μ : Mem) (f : Nat → Option Value) (x : I3) (h : El.rep μ f x) (j : Nat) (u : Value) (hu : (i3L x)[j]? = some u) : f j = some u := by
  match j, hu with
  | 0, hu => cases hu; exact h.1
  | 1, hu => cases hu; exact h.2.1
  | 2, hu => cases hu; exact h.2.2
theorem i3One (x : I3) : ∀ u ∈ i3L x, u.oneCell' = true := by simp [i3L, Value.oneCell']
theorem i3Ones (xs : List I3) : ∀ u ∈ xs.flatMap i3L, u.oneCell' = true := fun u hu => by
  obtain ⟨p, _, hp⟩ := List.mem_flatMap.1 hu
  exact i3One p u hp
theorem rI3 : Reads Try.prog 74 I3 := ⟨by kernel_rfl, by decide, fun h => by
  have ct : Try.prog.cellsOf 74 = 3 := by kernel_rfl
  have c3 : Try.prog.cellsOf 3 = 1 := by kernel_rfl
  obtain ⟨xs, n, _, _, hl, hlen, hf⟩ := DataW.trod_array Try.underlying74 h
  have h0 := hf 0 (by decide)
  rw [List.getElem?_eq_getElem (by rw [hlen]; decide)] at h0
  rw [c3] at h0
  obtain ⟨a0, e0, _, w0⟩ := DataW.trod_int Try.underlying3 h0
  have h1 := hf 1 (by decide)
  rw [List.getElem?_eq_getElem (by rw [hlen]; decide)] at h1
  rw [c3] at h1
  obtain ⟨a1, e1, _, w1⟩ := DataW.trod_int Try.underlying3 h1
  have h2 := hf 2 (by decide)
  rw [List.getElem?_eq_getElem (by rw [hlen]; decide)] at h2
  rw [c3] at h2
  obtain ⟨a2, e2, _, w2⟩ := DataW.trod_int Try.underlying3 h2
  exact ⟨⟨a0, a1, a2⟩, hl.trans ct, cell_of_take e0, cell_of_take e1, cell_of_take e2⟩⟩
theorem i3Val {H : Type} {enc : TypeId × Value → H} {W : World} {v : Value} {d : DataW H} {p : List MemPlace} {spare : Nat → Bool} {held : Bool} (h : DataW.Trod enc Try.prog W 0 spare held 74 v d p) : ∃ x : I3, v = i3V x := by
  obtain ⟨x, l, rfl, hl, hr⟩ := rI3.val (by decide) h
  refine ⟨x, ?_⟩
  have e : l = i3L x := list_ext hl fun j u hu => i3Enc (memOf W) (fun j => l[j]?) x hr j u hu
  rw [e]; rfl
structure I2 where
  a : Int
  b : Int
  deriving DecidableEq, Inhabited
instance : El I2 := ⟨2, fun _ f x => f 0 = some (.int .i64 x.a) ∧ f 1 = some (.int .i64 x.b), fun _ hf h => ⟨hf _ _ h.1, hf _ _ h.2⟩⟩
def i2L (x : I2) : List Value := [.int .i64 x.a, .int .i64 x.b]
abbrev i2V (x : I2) : Value := .agg #[.int .i64 x.a, .int .i64 x.b]
theorem i2L_len (x : I2) : (i2L x).length = 2 := rfl
theorem i2Rep (μ : Mem) (x : I2) : El.rep μ (fun j => (i2L x)[j]?) x := ⟨rfl, rfl⟩
theorem i2Reps (μ : Mem) (xs : List I2) : RepL μ (xs.flatMap i2L) xs := RepL.flat (enc := i2L) (fun _ => rfl) (by decide) μ (i2Rep μ) xs
theorem i2Enc (μ : Mem) (f : Nat → Option Value) (x : I2) (h : El.rep μ f x) (j : Nat) (u : Value) (hu : (i2L x)[j]? = some u) : f j = some u := by
  match j, hu with
  | 0, hu => cases hu; exact h.1
  | 1, hu => cases hu; exact h.2
theorem i2One (x : I2) : ∀ u ∈ i2L x, u.oneCell' = true := by simp [i2L, Value.oneCell']
theorem i2Ones (xs : List I2) : ∀ u ∈ xs.flatMap i2L, u.oneCell' = true := fun u hu => by
  obtain ⟨p, _, hp⟩ := List.mem_flatMap.1 hu
  exact i2One p u hp
theorem rI2 : Reads Try.prog 124 I2 := ⟨by kernel_rfl, by decide, fun h => by
  have ct : Try.prog.cellsOf 124 = 2 := by kernel_rfl
  have c3 : Try.prog.cellsOf 3 = 1 := by kernel_rfl
  obtain ⟨xs, n, _, _, hl, hlen, hf⟩ := DataW.trod_array Try.underlying124 h
  have h0 := hf 0 (by decide)
  rw [List.getElem?_eq_getElem (by rw [hlen]; decide)] at h0
  rw [c3] at h0
  obtain ⟨a0, e0, _, w0⟩ := DataW.trod_int Try.underlying3 h0
  have h1 := hf 1 (by decide)
  rw [List.getElem?_eq_getElem (by rw [hlen]; decide)] at h1
  rw [c3] at h1
  obtain ⟨a1, e1, _, w1⟩ := DataW.trod_int Try.underlying3 h1
  exact ⟨⟨a0, a1⟩, hl.trans ct, cell_of_take e0, cell_of_take e1⟩⟩
theorem i2Val {H : Type} {enc : TypeId × Value → H} {W : World} {v : Value} {d : DataW H} {p : List MemPlace} {spare : Nat → Bool} {held : Bool} (h : DataW.Trod enc Try.prog W 0 spare held 124 v d p) : ∃ x : I2, v = i2V x := by
  obtain ⟨x, l, rfl, hl, hr⟩ := rI2.val (by decide) h
  refine ⟨x, ?_⟩
  have e : l = i2L x := list_ext hl fun j u hu => i2Enc (memOf W) (fun j => l[j]?) x hr j u hu
  rw [e]; rfl
structure Pr where
  A : Int
  B : Int
  N : Int
  deriving DecidableEq, Inhabited
instance : El Pr := ⟨3, fun _ f x => f 0 = some (.int .i64 x.A) ∧ f 1 = some (.int .i64 x.B) ∧ f 2 = some (.int .i64 x.N), fun _ hf h => ⟨hf _ _ h.1, hf _ _ h.2.1, hf _ _ h.2.2⟩⟩
def prL (x : Pr) : List Value := [.int .i64 x.A, .int .i64 x.B, .int .i64 x.N]
abbrev prV (x : Pr) : Value := .agg #[.int .i64 x.A, .int .i64 x.B, .int .i64 x.N]
theorem prL_len (x : Pr) : (prL x).length = 3 := rfl
theorem prRep (μ : Mem) (x : Pr) : El.rep μ (fun j => (prL x)[j]?) x := ⟨rfl, rfl, rfl⟩
theorem prReps (μ : Mem) (xs : List Pr) : RepL μ (xs.flatMap prL) xs := RepL.flat (enc := prL) (fun _ => rfl) (by decide) μ (prRep μ) xs
theorem prEnc (μ : Mem) (f : Nat → Option Value) (x : Pr) (h : El.rep μ f x) (j : Nat) (u : Value) (hu : (prL x)[j]? = some u) : f j = some u := by
  match j, hu with
  | 0, hu => cases hu; exact h.1
  | 1, hu => cases hu; exact h.2.1
  | 2, hu => cases hu; exact h.2.2
theorem prOne (x : Pr) : ∀ u ∈ prL x, u.oneCell' = true := by simp [prL, Value.oneCell']
theorem prOnes (xs : List Pr) : ∀ u ∈ xs.flatMap prL, u.oneCell' = true := fun u hu => by
  obtain ⟨p, _, hp⟩ := List.mem_flatMap.1 hu
  exact prOne p u hp
theorem rPr : Reads Try.prog 87 Pr := ⟨by kernel_rfl, by decide, fun h => by
  have ct : Try.prog.cellsOf 87 = 3 := by kernel_rfl
  have c3 : Try.prog.cellsOf 3 = 1 := by kernel_rfl
  obtain ⟨xs, n, _, _, hl, hlen, hf⟩ := DataW.trod_struct Try.underlying87 h
  have h0 := hf 0 _ rfl
  rw [List.getElem?_eq_getElem (by rw [hlen]; decide)] at h0
  obtain ⟨a0, e0, _, w0⟩ := DataW.trod_int Try.underlying3 h0
  change List.take (Try.prog.cellsOf 3) (List.drop 0 _) = _ at e0
  rw [c3] at e0
  have h1 := hf 1 _ rfl
  rw [List.getElem?_eq_getElem (by rw [hlen]; decide)] at h1
  obtain ⟨a1, e1, _, w1⟩ := DataW.trod_int Try.underlying3 h1
  change List.take (Try.prog.cellsOf 3) (List.drop 1 _) = _ at e1
  rw [c3] at e1
  have h2 := hf 2 _ rfl
  rw [List.getElem?_eq_getElem (by rw [hlen]; decide)] at h2
  obtain ⟨a2, e2, _, w2⟩ := DataW.trod_int Try.underlying3 h2
  change List.take (Try.prog.cellsOf 3) (List.drop 2 _) = _ at e2
  rw [c3] at e2
  exact ⟨⟨a0, a1, a2⟩, hl.trans ct, cell_of_take e0, cell_of_take e1, cell_of_take e2⟩⟩
theorem prVal {H : Type} {enc : TypeId × Value → H} {W : World} {v : Value} {d : DataW H} {p : List MemPlace} {spare : Nat → Bool} {held : Bool} (h : DataW.Trod enc Try.prog W 0 spare held 87 v d p) : ∃ x : Pr, v = prV x := by
  obtain ⟨x, l, rfl, hl, hr⟩ := rPr.val (by decide) h
  refine ⟨x, ?_⟩
  have e : l = prL x := list_ext hl fun j u hu => prEnc (memOf W) (fun j => l[j]?) x hr j u hu
  rw [e]; rfl
structure Edge where
  From : Int
  To : Int
  Word : Int
  Cost : Int
  deriving DecidableEq, Inhabited
instance : El Edge := ⟨4, fun _ f x => f 0 = some (.int .i64 x.From) ∧ f 1 = some (.int .i64 x.To) ∧ f 2 = some (.int .i64 x.Word) ∧ f 3 = some (.int .i64 x.Cost), fun _ hf h => ⟨hf _ _ h.1, hf _ _ h.2.1, hf _ _ h.2.2.1, hf _ _ h.2.2.2⟩⟩
def edgeL (x : Edge) : List Value := [.int .i64 x.From, .int .i64 x.To, .int .i64 x.Word, .int .i64 x.Cost]
abbrev edgeV (x : Edge) : Value := .agg #[.int .i64 x.From, .int .i64 x.To, .int .i64 x.Word, .int .i64 x.Cost]
theorem edgeL_len (x : Edge) : (edgeL x).length = 4 := rfl
theorem edgeRep (μ : Mem) (x : Edge) : El.rep μ (fun j => (edgeL x)[j]?) x := ⟨rfl, rfl, rfl, rfl⟩
theorem edgeReps (μ : Mem) (xs : List Edge) : RepL μ (xs.flatMap edgeL) xs := RepL.flat (enc := edgeL) (fun _ => rfl) (by decide) μ (edgeRep μ) xs
theorem edgeEnc (μ : Mem) (f : Nat → Option Value) (x : Edge) (h : El.rep μ f x) (j : Nat) (u : Value) (hu : (edgeL x)[j]? = some u) : f j = some u := by
  match j, hu with
  | 0, hu => cases hu; exact h.1
  | 1, hu => cases hu; exact h.2.1
  | 2, hu => cases hu; exact h.2.2.1
  | 3, hu => cases hu; exact h.2.2.2
theorem edgeOne (x : Edge) : ∀ u ∈ edgeL x, u.oneCell' = true := by simp [edgeL, Value.oneCell']
theorem edgeOnes (xs : List Edge) : ∀ u ∈ xs.flatMap edgeL, u.oneCell' = true := fun u hu => by
  obtain ⟨p, _, hp⟩ := List.mem_flatMap.1 hu
  exact edgeOne p u hp
theorem rEdge : Reads Try.prog 43 Edge := ⟨by kernel_rfl, by decide, fun h => by
  have ct : Try.prog.cellsOf 43 = 4 := by kernel_rfl
  have c3 : Try.prog.cellsOf 3 = 1 := by kernel_rfl
  obtain ⟨xs, n, _, _, hl, hlen, hf⟩ := DataW.trod_struct Try.underlying43 h
  have h0 := hf 0 _ rfl
  rw [List.getElem?_eq_getElem (by rw [hlen]; decide)] at h0
  obtain ⟨a0, e0, _, w0⟩ := DataW.trod_int Try.underlying3 h0
  change List.take (Try.prog.cellsOf 3) (List.drop 0 _) = _ at e0
  rw [c3] at e0
  have h1 := hf 1 _ rfl
  rw [List.getElem?_eq_getElem (by rw [hlen]; decide)] at h1
  obtain ⟨a1, e1, _, w1⟩ := DataW.trod_int Try.underlying3 h1
  change List.take (Try.prog.cellsOf 3) (List.drop 1 _) = _ at e1
  rw [c3] at e1
  have h2 := hf 2 _ rfl
  rw [List.getElem?_eq_getElem (by rw [hlen]; decide)] at h2
  obtain ⟨a2, e2, _, w2⟩ := DataW.trod_int Try.underlying3 h2
  change List.take (Try.prog.cellsOf 3) (List.drop 2 _) = _ at e2
  rw [c3] at e2
  have h3 := hf 3 _ rfl
  rw [List.getElem?_eq_getElem (by rw [hlen]; decide)] at h3
  obtain ⟨a3, e3, _, w3⟩ := DataW.trod_int Try.underlying3 h3
  change List.take (Try.prog.cellsOf 3) (List.drop 3 _) = _ at e3
  rw [c3] at e3
  exact ⟨⟨a0, a1, a2, a3⟩, hl.trans ct, cell_of_take e0, cell_of_take e1, cell_of_take e2, cell_of_take e3⟩⟩
theorem edgeVal {H : Type} {enc : TypeId × Value → H} {W : World} {v : Value} {d : DataW H} {p : List MemPlace} {spare : Nat → Bool} {held : Bool} (h : DataW.Trod enc Try.prog W 0 spare held 43 v d p) : ∃ x : Edge, v = edgeV x := by
  obtain ⟨x, l, rfl, hl, hr⟩ := rEdge.val (by decide) h
  refine ⟨x, ?_⟩
  have e : l = edgeL x := list_ext hl fun j u hu => edgeEnc (memOf W) (fun j => l[j]?) x hr j u hu
  rw [e]; rfl
structure Link where
  From : Int
  To : Int
  Label : Int
  Cost : Int
  deriving DecidableEq, Inhabited
instance : El Link := ⟨4, fun _ f x => f 0 = some (.int .i64 x.From) ∧ f 1 = some (.int .i64 x.To) ∧ f 2 = some (.int .i64 x.Label) ∧ f 3 = some (.int .i64 x.Cost), fun _ hf h => ⟨hf _ _ h.1, hf _ _ h.2.1, hf _ _ h.2.2.1, hf _ _ h.2.2.2⟩⟩
def linkL (x : Link) : List Value := [.int .i64 x.From, .int .i64 x.To, .int .i64 x.Label, .int .i64 x.Cost]
abbrev linkV (x : Link) : Value := .agg #[.int .i64 x.From, .int .i64 x.To, .int .i64 x.Label, .int .i64 x.Cost]
theorem linkL_len (x : Link) : (linkL x).length = 4 := rfl
theorem linkRep (μ : Mem) (x : Link) : El.rep μ (fun j => (linkL x)[j]?) x := ⟨rfl, rfl, rfl, rfl⟩
theorem linkReps (μ : Mem) (xs : List Link) : RepL μ (xs.flatMap linkL) xs := RepL.flat (enc := linkL) (fun _ => rfl) (by decide) μ (linkRep μ) xs
theorem linkEnc (μ : Mem) (f : Nat → Option Value) (x : Link) (h : El.rep μ f x) (j : Nat) (u : Value) (hu : (linkL x)[j]? = some u) : f j = some u := by
  match j, hu with
  | 0, hu => cases hu; exact h.1
  | 1, hu => cases hu; exact h.2.1
  | 2, hu => cases hu; exact h.2.2.1
  | 3, hu => cases hu; exact h.2.2.2
theorem linkOne (x : Link) : ∀ u ∈ linkL x, u.oneCell' = true := by simp [linkL, Value.oneCell']
theorem linkOnes (xs : List Link) : ∀ u ∈ xs.flatMap linkL, u.oneCell' = true := fun u hu => by
  obtain ⟨p, _, hp⟩ := List.mem_flatMap.1 hu
  exact linkOne p u hp
theorem rLink : Reads Try.prog 66 Link := ⟨by kernel_rfl, by decide, fun h => by
  have ct : Try.prog.cellsOf 66 = 4 := by kernel_rfl
  have c3 : Try.prog.cellsOf 3 = 1 := by kernel_rfl
  obtain ⟨xs, n, _, _, hl, hlen, hf⟩ := DataW.trod_struct Try.underlying66 h
  have h0 := hf 0 _ rfl
  rw [List.getElem?_eq_getElem (by rw [hlen]; decide)] at h0
  obtain ⟨a0, e0, _, w0⟩ := DataW.trod_int Try.underlying3 h0
  change List.take (Try.prog.cellsOf 3) (List.drop 0 _) = _ at e0
  rw [c3] at e0
  have h1 := hf 1 _ rfl
  rw [List.getElem?_eq_getElem (by rw [hlen]; decide)] at h1
  obtain ⟨a1, e1, _, w1⟩ := DataW.trod_int Try.underlying3 h1
  change List.take (Try.prog.cellsOf 3) (List.drop 1 _) = _ at e1
  rw [c3] at e1
  have h2 := hf 2 _ rfl
  rw [List.getElem?_eq_getElem (by rw [hlen]; decide)] at h2
  obtain ⟨a2, e2, _, w2⟩ := DataW.trod_int Try.underlying3 h2
  change List.take (Try.prog.cellsOf 3) (List.drop 2 _) = _ at e2
  rw [c3] at e2
  have h3 := hf 3 _ rfl
  rw [List.getElem?_eq_getElem (by rw [hlen]; decide)] at h3
  obtain ⟨a3, e3, _, w3⟩ := DataW.trod_int Try.underlying3 h3
  change List.take (Try.prog.cellsOf 3) (List.drop 3 _) = _ at e3
  rw [c3] at e3
  exact ⟨⟨a0, a1, a2, a3⟩, hl.trans ct, cell_of_take e0, cell_of_take e1, cell_of_take e2, cell_of_take e3⟩⟩
theorem linkVal {H : Type} {enc : TypeId × Value → H} {W : World} {v : Value} {d : DataW H} {p : List MemPlace} {spare : Nat → Bool} {held : Bool} (h : DataW.Trod enc Try.prog W 0 spare held 66 v d p) : ∃ x : Link, v = linkV x := by
  obtain ⟨x, l, rfl, hl, hr⟩ := rLink.val (by decide) h
  refine ⟨x, ?_⟩
  have e : l = linkL x := list_ext hl fun j u hu => linkEnc (memOf W) (fun j => l[j]?) x hr j u hu
  rw [e]; rfl
structure Cand where
  Links : (List Int)
  Cost : Int

instance : El Cand := ⟨2, fun μ f x => (∃ ad c, f 0 = some (.slice ad x.Links.length c) ∧ Sl μ ad c x.Links) ∧ f 1 = some (.int .i64 x.Cost), fun hm hf h => ⟨(let ⟨ad, c, a, b⟩ := h.1; ⟨ad, c, hf _ _ a, b.mono hm⟩), hf _ _ h.2⟩⟩
theorem r3 : Reads Try.prog 3 Int := Reads.int Try.underlying3 (by kernel_rfl)
theorem rCand : Reads Try.prog 58 Cand := ⟨by kernel_rfl, by decide, fun h => by
  have ct : Try.prog.cellsOf 58 = 2 := by kernel_rfl
  have c31 : Try.prog.cellsOf 31 = 1 := by kernel_rfl
  have c3 : Try.prog.cellsOf 3 = 1 := by kernel_rfl
  obtain ⟨xs, n, _, _, hl, hlen, hf⟩ := DataW.trod_struct Try.underlying58 h
  have h0 := hf 0 _ rfl
  rw [List.getElem?_eq_getElem (by rw [hlen]; decide)] at h0
  obtain ⟨ad0, k0, a0, e0, s0⟩ := r3.slice Try.underlying31 h0
  change List.take (Try.prog.cellsOf 31) (List.drop 0 _) = _ at e0
  rw [c31] at e0
  have h1 := hf 1 _ rfl
  rw [List.getElem?_eq_getElem (by rw [hlen]; decide)] at h1
  obtain ⟨a1, e1, _, w1⟩ := DataW.trod_int Try.underlying3 h1
  change List.take (Try.prog.cellsOf 3) (List.drop 1 _) = _ at e1
  rw [c3] at e1
  exact ⟨⟨a0, a1⟩, hl.trans ct, ⟨ad0, k0, cell_of_take e0, s0⟩, cell_of_take e1⟩⟩
structure Nd where
  Place : Int
  Word : Int
  deriving DecidableEq, Inhabited
instance : El Nd := ⟨2, fun _ f x => f 0 = some (.int .i64 x.Place) ∧ f 1 = some (.int .i64 x.Word), fun _ hf h => ⟨hf _ _ h.1, hf _ _ h.2⟩⟩
def ndL (x : Nd) : List Value := [.int .i64 x.Place, .int .i64 x.Word]
abbrev ndV (x : Nd) : Value := .agg #[.int .i64 x.Place, .int .i64 x.Word]
theorem ndL_len (x : Nd) : (ndL x).length = 2 := rfl
theorem ndRep (μ : Mem) (x : Nd) : El.rep μ (fun j => (ndL x)[j]?) x := ⟨rfl, rfl⟩
theorem ndReps (μ : Mem) (xs : List Nd) : RepL μ (xs.flatMap ndL) xs := RepL.flat (enc := ndL) (fun _ => rfl) (by decide) μ (ndRep μ) xs
theorem ndEnc (μ : Mem) (f : Nat → Option Value) (x : Nd) (h : El.rep μ f x) (j : Nat) (u : Value) (hu : (ndL x)[j]? = some u) : f j = some u := by
  match j, hu with
  | 0, hu => cases hu; exact h.1
  | 1, hu => cases hu; exact h.2
theorem ndOne (x : Nd) : ∀ u ∈ ndL x, u.oneCell' = true := by simp [ndL, Value.oneCell']
theorem ndOnes (xs : List Nd) : ∀ u ∈ xs.flatMap ndL, u.oneCell' = true := fun u hu => by
  obtain ⟨p, _, hp⟩ := List.mem_flatMap.1 hu
  exact ndOne p u hp
theorem rNd : Reads Try.prog 97 Nd := ⟨by kernel_rfl, by decide, fun h => by
  have ct : Try.prog.cellsOf 97 = 2 := by kernel_rfl
  have c3 : Try.prog.cellsOf 3 = 1 := by kernel_rfl
  obtain ⟨xs, n, _, _, hl, hlen, hf⟩ := DataW.trod_struct Try.underlying97 h
  have h0 := hf 0 _ rfl
  rw [List.getElem?_eq_getElem (by rw [hlen]; decide)] at h0
  obtain ⟨a0, e0, _, w0⟩ := DataW.trod_int Try.underlying3 h0
  change List.take (Try.prog.cellsOf 3) (List.drop 0 _) = _ at e0
  rw [c3] at e0
  have h1 := hf 1 _ rfl
  rw [List.getElem?_eq_getElem (by rw [hlen]; decide)] at h1
  obtain ⟨a1, e1, _, w1⟩ := DataW.trod_int Try.underlying3 h1
  change List.take (Try.prog.cellsOf 3) (List.drop 1 _) = _ at e1
  rw [c3] at e1
  exact ⟨⟨a0, a1⟩, hl.trans ct, cell_of_take e0, cell_of_take e1⟩⟩
theorem ndVal {H : Type} {enc : TypeId × Value → H} {W : World} {v : Value} {d : DataW H} {p : List MemPlace} {spare : Nat → Bool} {held : Bool} (h : DataW.Trod enc Try.prog W 0 spare held 97 v d p) : ∃ x : Nd, v = ndV x := by
  obtain ⟨x, l, rfl, hl, hr⟩ := rNd.val (by decide) h
  refine ⟨x, ?_⟩
  have e : l = ndL x := list_ext hl fun j u hu => ndEnc (memOf W) (fun j => l[j]?) x hr j u hu
  rw [e]; rfl
structure Lat where
  N : Int
  Edges : (List Edge)

instance : El Lat := ⟨2, fun μ f x => f 0 = some (.int .i64 x.N) ∧ (∃ ad c, f 1 = some (.slice ad x.Edges.length c) ∧ Sl μ ad c x.Edges), fun hm hf h => ⟨hf _ _ h.1, (let ⟨ad, c, a, b⟩ := h.2; ⟨ad, c, hf _ _ a, b.mono hm⟩)⟩⟩
theorem rLat : Reads Try.prog 38 Lat := ⟨by kernel_rfl, by decide, fun h => by
  have ct : Try.prog.cellsOf 38 = 2 := by kernel_rfl
  have c3 : Try.prog.cellsOf 3 = 1 := by kernel_rfl
  have c36 : Try.prog.cellsOf 36 = 1 := by kernel_rfl
  obtain ⟨xs, n, _, _, hl, hlen, hf⟩ := DataW.trod_struct Try.underlying38 h
  have h0 := hf 0 _ rfl
  rw [List.getElem?_eq_getElem (by rw [hlen]; decide)] at h0
  obtain ⟨a0, e0, _, w0⟩ := DataW.trod_int Try.underlying3 h0
  change List.take (Try.prog.cellsOf 3) (List.drop 0 _) = _ at e0
  rw [c3] at e0
  have h1 := hf 1 _ rfl
  rw [List.getElem?_eq_getElem (by rw [hlen]; decide)] at h1
  obtain ⟨ad1, k1, a1, e1, s1⟩ := rEdge.slice Try.underlying36 h1
  change List.take (Try.prog.cellsOf 36) (List.drop 1 _) = _ at e1
  rw [c36] at e1
  exact ⟨⟨a0, a1⟩, hl.trans ct, cell_of_take e0, ⟨ad1, k1, cell_of_take e1, s1⟩⟩⟩
structure Mdl where
  Words : (List ByteArray)
  Counts : (List Int)
  Pairs : (List Pr)
  Back : Int

instance : El Mdl := ⟨4, fun μ f x => (∃ ad c, f 0 = some (.slice ad x.Words.length c) ∧ Sl μ ad c x.Words) ∧ (∃ ad c, f 1 = some (.slice ad x.Counts.length c) ∧ Sl μ ad c x.Counts) ∧ (∃ ad c, f 2 = some (.slice ad x.Pairs.length c) ∧ Sl μ ad c x.Pairs) ∧ f 3 = some (.int .i64 x.Back), fun hm hf h => ⟨(let ⟨ad, c, a, b⟩ := h.1; ⟨ad, c, hf _ _ a, b.mono hm⟩), (let ⟨ad, c, a, b⟩ := h.2.1; ⟨ad, c, hf _ _ a, b.mono hm⟩), (let ⟨ad, c, a, b⟩ := h.2.2.1; ⟨ad, c, hf _ _ a, b.mono hm⟩), hf _ _ h.2.2.2⟩⟩
theorem r9 : Reads Try.prog 9 ByteArray := Reads.string Try.underlying9 (by kernel_rfl)
theorem rMdl : Reads Try.prog 34 Mdl := ⟨by kernel_rfl, by decide, fun h => by
  have ct : Try.prog.cellsOf 34 = 4 := by kernel_rfl
  have c30 : Try.prog.cellsOf 30 = 1 := by kernel_rfl
  have c31 : Try.prog.cellsOf 31 = 1 := by kernel_rfl
  have c32 : Try.prog.cellsOf 32 = 1 := by kernel_rfl
  have c3 : Try.prog.cellsOf 3 = 1 := by kernel_rfl
  obtain ⟨xs, n, _, _, hl, hlen, hf⟩ := DataW.trod_struct Try.underlying34 h
  have h0 := hf 0 _ rfl
  rw [List.getElem?_eq_getElem (by rw [hlen]; decide)] at h0
  obtain ⟨ad0, k0, a0, e0, s0⟩ := r9.slice Try.underlying30 h0
  change List.take (Try.prog.cellsOf 30) (List.drop 0 _) = _ at e0
  rw [c30] at e0
  have h1 := hf 1 _ rfl
  rw [List.getElem?_eq_getElem (by rw [hlen]; decide)] at h1
  obtain ⟨ad1, k1, a1, e1, s1⟩ := r3.slice Try.underlying31 h1
  change List.take (Try.prog.cellsOf 31) (List.drop 1 _) = _ at e1
  rw [c31] at e1
  have h2 := hf 2 _ rfl
  rw [List.getElem?_eq_getElem (by rw [hlen]; decide)] at h2
  obtain ⟨ad2, k2, a2, e2, s2⟩ := rPr.slice Try.underlying32 h2
  change List.take (Try.prog.cellsOf 32) (List.drop 2 _) = _ at e2
  rw [c32] at e2
  have h3 := hf 3 _ rfl
  rw [List.getElem?_eq_getElem (by rw [hlen]; decide)] at h3
  obtain ⟨a3, e3, _, w3⟩ := DataW.trod_int Try.underlying3 h3
  change List.take (Try.prog.cellsOf 3) (List.drop 3 _) = _ at e3
  rw [c3] at e3
  exact ⟨⟨a0, a1, a2, a3⟩, hl.trans ct, ⟨ad0, k0, cell_of_take e0, s0⟩, ⟨ad1, k1, cell_of_take e1, s1⟩, ⟨ad2, k2, cell_of_take e2, s2⟩, cell_of_take e3⟩⟩
structure Grf where
  N : Int
  Links : (List Link)

instance : El Grf := ⟨2, fun μ f x => f 0 = some (.int .i64 x.N) ∧ (∃ ad c, f 1 = some (.slice ad x.Links.length c) ∧ Sl μ ad c x.Links), fun hm hf h => ⟨hf _ _ h.1, (let ⟨ad, c, a, b⟩ := h.2; ⟨ad, c, hf _ _ a, b.mono hm⟩)⟩⟩
theorem rGrf : Reads Try.prog 46 Grf := ⟨by kernel_rfl, by decide, fun h => by
  have ct : Try.prog.cellsOf 46 = 2 := by kernel_rfl
  have c3 : Try.prog.cellsOf 3 = 1 := by kernel_rfl
  have c44 : Try.prog.cellsOf 44 = 1 := by kernel_rfl
  obtain ⟨xs, n, _, _, hl, hlen, hf⟩ := DataW.trod_struct Try.underlying46 h
  have h0 := hf 0 _ rfl
  rw [List.getElem?_eq_getElem (by rw [hlen]; decide)] at h0
  obtain ⟨a0, e0, _, w0⟩ := DataW.trod_int Try.underlying3 h0
  change List.take (Try.prog.cellsOf 3) (List.drop 0 _) = _ at e0
  rw [c3] at e0
  have h1 := hf 1 _ rfl
  rw [List.getElem?_eq_getElem (by rw [hlen]; decide)] at h1
  obtain ⟨ad1, k1, a1, e1, s1⟩ := rLink.slice Try.underlying44 h1
  change List.take (Try.prog.cellsOf 44) (List.drop 1 _) = _ at e1
  rw [c44] at e1
  exact ⟨⟨a0, a1⟩, hl.trans ct, cell_of_take e0, ⟨ad1, k1, cell_of_take e1, s1⟩⟩⟩
structure Built where
  G : Grf
  Last : (List Int)
  E : Int

instance : El Built := ⟨4, fun μ f x => El.rep μ (fun j => f (0 + j)) x.G ∧ (∃ ad c, f 2 = some (.slice ad x.Last.length c) ∧ Sl μ ad c x.Last) ∧ f 3 = some (.int .i64 x.E), fun hm hf h => ⟨El.mono hm (fun _ _ hv => hf _ _ hv) h.1, (let ⟨ad, c, a, b⟩ := h.2.1; ⟨ad, c, hf _ _ a, b.mono hm⟩), hf _ _ h.2.2⟩⟩
theorem rBuilt : Reads Try.prog 49 Built := ⟨by kernel_rfl, by decide, fun h => by
  have ct : Try.prog.cellsOf 49 = 4 := by kernel_rfl
  have c46 : Try.prog.cellsOf 46 = 2 := by kernel_rfl
  have c31 : Try.prog.cellsOf 31 = 1 := by kernel_rfl
  have c47 : Try.prog.cellsOf 47 = 1 := by kernel_rfl
  obtain ⟨xs, n, _, _, hl, hlen, hf⟩ := DataW.trod_struct Try.underlying49 h
  have h0 := hf 0 _ rfl
  rw [List.getElem?_eq_getElem (by rw [hlen]; decide)] at h0
  obtain ⟨a0, _, s0⟩ := rGrf.read h0
  have h1 := hf 1 _ rfl
  rw [List.getElem?_eq_getElem (by rw [hlen]; decide)] at h1
  obtain ⟨ad1, k1, a1, e1, s1⟩ := r3.slice Try.underlying31 h1
  change List.take (Try.prog.cellsOf 31) (List.drop 2 _) = _ at e1
  rw [c31] at e1
  have h2 := hf 2 _ rfl
  rw [List.getElem?_eq_getElem (by rw [hlen]; decide)] at h2
  obtain ⟨a2, e2, _, w2⟩ := DataW.trod_int Try.underlying47 h2
  change List.take (Try.prog.cellsOf 47) (List.drop 3 _) = _ at e2
  rw [c47] at e2
  exact ⟨⟨a0, a1, a2⟩, hl.trans ct, part_of s0, ⟨ad1, k1, cell_of_take e1, s1⟩, cell_of_take e2⟩⟩
structure Asked where
  X : Lat
  M : Mdl
  Prev : Int

instance : El Asked := ⟨7, fun μ f x => El.rep μ (fun j => f (0 + j)) x.X ∧ El.rep μ (fun j => f (2 + j)) x.M ∧ f 6 = some (.int .i64 x.Prev), fun hm hf h => ⟨El.mono hm (fun _ _ hv => hf _ _ hv) h.1, El.mono hm (fun _ _ hv => hf _ _ hv) h.2.1, hf _ _ h.2.2⟩⟩
theorem rAsked : Reads Try.prog 55 Asked := ⟨by kernel_rfl, by decide, fun h => by
  have ct : Try.prog.cellsOf 55 = 7 := by kernel_rfl
  have c38 : Try.prog.cellsOf 38 = 2 := by kernel_rfl
  have c34 : Try.prog.cellsOf 34 = 4 := by kernel_rfl
  have c3 : Try.prog.cellsOf 3 = 1 := by kernel_rfl
  obtain ⟨xs, n, _, _, hl, hlen, hf⟩ := DataW.trod_struct Try.underlying55 h
  have h0 := hf 0 _ rfl
  rw [List.getElem?_eq_getElem (by rw [hlen]; decide)] at h0
  obtain ⟨a0, _, s0⟩ := rLat.read h0
  have h1 := hf 1 _ rfl
  rw [List.getElem?_eq_getElem (by rw [hlen]; decide)] at h1
  obtain ⟨a1, _, s1⟩ := rMdl.read h1
  have h2 := hf 2 _ rfl
  rw [List.getElem?_eq_getElem (by rw [hlen]; decide)] at h2
  obtain ⟨a2, e2, _, w2⟩ := DataW.trod_int Try.underlying3 h2
  change List.take (Try.prog.cellsOf 3) (List.drop 6 _) = _ at e2
  rw [c3] at e2
  exact ⟨⟨a0, a1, a2⟩, hl.trans ct, part_of s0, part_of s1, cell_of_take e2⟩⟩
structure Raw where
  Words : (List (List UInt8))
  Counts : (List UInt8)
  Uses : (List B3)
  Back : UInt8

instance : El Raw := ⟨4, fun μ f x => (∃ ad c, f 0 = some (.slice ad x.Words.length c) ∧ Sl μ ad c x.Words) ∧ (∃ ad c, f 1 = some (.slice ad x.Counts.length c) ∧ Sl μ ad c x.Counts) ∧ (∃ ad c, f 2 = some (.slice ad x.Uses.length c) ∧ Sl μ ad c x.Uses) ∧ f 3 = some (.int .u8 x.Back.toNat), fun hm hf h => ⟨(let ⟨ad, c, a, b⟩ := h.1; ⟨ad, c, hf _ _ a, b.mono hm⟩), (let ⟨ad, c, a, b⟩ := h.2.1; ⟨ad, c, hf _ _ a, b.mono hm⟩), (let ⟨ad, c, a, b⟩ := h.2.2.1; ⟨ad, c, hf _ _ a, b.mono hm⟩), hf _ _ h.2.2.2⟩⟩
theorem r5 : Reads Try.prog 5 UInt8 := Reads.u8 Try.underlying5 (by kernel_rfl)
theorem r24 : Reads Try.prog 24 (List UInt8) := Reads.slices r5 Try.underlying24 (by kernel_rfl)
theorem rRaw : Reads Try.prog 27 Raw := ⟨by kernel_rfl, by decide, fun h => by
  have ct : Try.prog.cellsOf 27 = 4 := by kernel_rfl
  have c23 : Try.prog.cellsOf 23 = 1 := by kernel_rfl
  have c24 : Try.prog.cellsOf 24 = 1 := by kernel_rfl
  have c25 : Try.prog.cellsOf 25 = 1 := by kernel_rfl
  have c5 : Try.prog.cellsOf 5 = 1 := by kernel_rfl
  obtain ⟨xs, n, _, _, hl, hlen, hf⟩ := DataW.trod_struct Try.underlying27 h
  have h0 := hf 0 _ rfl
  rw [List.getElem?_eq_getElem (by rw [hlen]; decide)] at h0
  obtain ⟨ad0, k0, a0, e0, s0⟩ := r24.slice Try.underlying23 h0
  change List.take (Try.prog.cellsOf 23) (List.drop 0 _) = _ at e0
  rw [c23] at e0
  have h1 := hf 1 _ rfl
  rw [List.getElem?_eq_getElem (by rw [hlen]; decide)] at h1
  obtain ⟨ad1, k1, a1, e1, s1⟩ := r5.slice Try.underlying24 h1
  change List.take (Try.prog.cellsOf 24) (List.drop 1 _) = _ at e1
  rw [c24] at e1
  have h2 := hf 2 _ rfl
  rw [List.getElem?_eq_getElem (by rw [hlen]; decide)] at h2
  obtain ⟨ad2, k2, a2, e2, s2⟩ := rB3.slice Try.underlying25 h2
  change List.take (Try.prog.cellsOf 25) (List.drop 2 _) = _ at e2
  rw [c25] at e2
  have h3 := hf 3 _ rfl
  rw [List.getElem?_eq_getElem (by rw [hlen]; decide)] at h3
  obtain ⟨a3, e3, _, w3⟩ := DataW.trod_int Try.underlying5 h3
  obtain ⟨a3, rfl⟩ := u8_of w3
  change List.take (Try.prog.cellsOf 5) (List.drop 3 _) = _ at e3
  rw [c5] at e3
  exact ⟨⟨a0, a1, a2, a3⟩, hl.trans ct, ⟨ad0, k0, cell_of_take e0, s0⟩, ⟨ad1, k1, cell_of_take e1, s1⟩, ⟨ad2, k2, cell_of_take e2, s2⟩, cell_of_take e3⟩⟩
end Go.Proofs.Ytgnpjhellmfhoaa
