/-
  Data: structures, how they lie in memory, and how a statement's reader finds them.
-/
import Derived.Test.YtphgjongflkolaaTypes
import Derived.Test.YtphgjongflkolaaRead
import Derived.Test.YtphgjongflkolaaSort
import Derived.Test.YtphgjongflkolaaData
namespace Go.Proofs.Ytphgjongflkolaa
open Go.RowKit Sy Go.ChangeShapes Go.WideShapes Go.ChangeAt
set_option maxRecDepth 100000

structure J3 where
  a : Int
  b : Int
  c : Int
  deriving DecidableEq, Inhabited
instance : El J3 := ⟨3, fun _ f x => (f 0 = some (.int .i16 x.a) ∧ -32768 ≤ x.a ∧ x.a ≤ 32767) ∧ (f 1 = some (.int .i16 x.b) ∧ -32768 ≤ x.b ∧ x.b ≤ 32767) ∧ (f 2 = some (.int .i16 x.c) ∧ -32768 ≤ x.c ∧ x.c ≤ 32767), fun _ hf h => ⟨⟨hf _ _ h.1.1, h.1.2⟩, ⟨hf _ _ h.2.1.1, h.2.1.2⟩, ⟨hf _ _ h.2.2.1, h.2.2.2⟩⟩⟩
def j3L (x : J3) : List Value := [.int .i16 x.a, .int .i16 x.b, .int .i16 x.c]
abbrev j3V (x : J3) : Value := .agg #[.int .i16 x.a, .int .i16 x.b, .int .i16 x.c]
def J3.ok (x : J3) : Prop := (-32768 ≤ x.a ∧ x.a ≤ 32767) ∧ (-32768 ≤ x.b ∧ x.b ≤ 32767) ∧ (-32768 ≤ x.c ∧ x.c ≤ 32767)
theorem j3Enc (μ : Mem) (f : Nat → Option Value) (x : J3) (h : El.rep μ f x) : (∀ (j : Nat) (u : Value), (j3L x)[j]? = some u → f j = some u) ∧ x.ok := by
  refine ⟨fun j u hu => ?_, ⟨h.1.2, h.2.1.2, h.2.2.2⟩⟩
  match j, hu with
  | 0, hu => cases hu; exact h.1.1
  | 1, hu => cases hu; exact h.2.1.1
  | 2, hu => cases hu; exact h.2.2.1
theorem rJ3 : Reads Try.prog 25 J3 := ⟨by kernel_rfl, by decide, fun h => by
  have ct : Try.prog.cellsOf 25 = 3 := by kernel_rfl
  have c24 : Try.prog.cellsOf 24 = 1 := by kernel_rfl
  obtain ⟨xs, n, _, _, hl, hlen, hf⟩ := DataW.trod_array Try.underlying25 h
  have h0 := hf 0 (by decide)
  rw [List.getElem?_eq_getElem (by rw [hlen]; decide)] at h0
  rw [c24] at h0
  obtain ⟨a0, e0, _, w0⟩ := DataW.trod_int Try.underlying24 h0
  have h1 := hf 1 (by decide)
  rw [List.getElem?_eq_getElem (by rw [hlen]; decide)] at h1
  rw [c24] at h1
  obtain ⟨a1, e1, _, w1⟩ := DataW.trod_int Try.underlying24 h1
  have h2 := hf 2 (by decide)
  rw [List.getElem?_eq_getElem (by rw [hlen]; decide)] at h2
  rw [c24] at h2
  obtain ⟨a2, e2, _, w2⟩ := DataW.trod_int Try.underlying24 h2
  exact ⟨⟨a0, a1, a2⟩, hl.trans ct, ⟨cell_of_take e0, small_of (by decide) (by decide) w0⟩, ⟨cell_of_take e1, small_of (by decide) (by decide) w1⟩, ⟨cell_of_take e2, small_of (by decide) (by decide) w2⟩⟩⟩
theorem j3Val {H : Type} {enc : TypeId × Value → H} {W : World} {v : Value} {d : DataW H} {p : List MemPlace} {spare : Nat → Bool} {held : Bool} (h : DataW.Trod enc Try.prog W 0 spare held 25 v d p) : ∃ x : J3, v = j3V x ∧ x.ok := by
  obtain ⟨x, l, rfl, hl, hr⟩ := rJ3.val (by decide) h
  obtain ⟨h1, h2⟩ := j3Enc (memOf W) (fun j => l[j]?) x hr
  refine ⟨x, ?_, h2⟩
  have e : l = j3L x := list_ext hl h1
  rw [e]; rfl
structure J4 where
  a : Int
  b : Int
  c : Int
  d : Int
  deriving DecidableEq, Inhabited
instance : El J4 := ⟨4, fun _ f x => (f 0 = some (.int .i16 x.a) ∧ -32768 ≤ x.a ∧ x.a ≤ 32767) ∧ (f 1 = some (.int .i16 x.b) ∧ -32768 ≤ x.b ∧ x.b ≤ 32767) ∧ (f 2 = some (.int .i16 x.c) ∧ -32768 ≤ x.c ∧ x.c ≤ 32767) ∧ (f 3 = some (.int .i16 x.d) ∧ -32768 ≤ x.d ∧ x.d ≤ 32767), fun _ hf h => ⟨⟨hf _ _ h.1.1, h.1.2⟩, ⟨hf _ _ h.2.1.1, h.2.1.2⟩, ⟨hf _ _ h.2.2.1.1, h.2.2.1.2⟩, ⟨hf _ _ h.2.2.2.1, h.2.2.2.2⟩⟩⟩
def j4L (x : J4) : List Value := [.int .i16 x.a, .int .i16 x.b, .int .i16 x.c, .int .i16 x.d]
abbrev j4V (x : J4) : Value := .agg #[.int .i16 x.a, .int .i16 x.b, .int .i16 x.c, .int .i16 x.d]
def J4.ok (x : J4) : Prop := (-32768 ≤ x.a ∧ x.a ≤ 32767) ∧ (-32768 ≤ x.b ∧ x.b ≤ 32767) ∧ (-32768 ≤ x.c ∧ x.c ≤ 32767) ∧ (-32768 ≤ x.d ∧ x.d ≤ 32767)
theorem j4Enc (μ : Mem) (f : Nat → Option Value) (x : J4) (h : El.rep μ f x) : (∀ (j : Nat) (u : Value), (j4L x)[j]? = some u → f j = some u) ∧ x.ok := by
  refine ⟨fun j u hu => ?_, ⟨h.1.2, h.2.1.2, h.2.2.1.2, h.2.2.2.2⟩⟩
  match j, hu with
  | 0, hu => cases hu; exact h.1.1
  | 1, hu => cases hu; exact h.2.1.1
  | 2, hu => cases hu; exact h.2.2.1.1
  | 3, hu => cases hu; exact h.2.2.2.1
theorem rJ4 : Reads Try.prog 52 J4 := ⟨by kernel_rfl, by decide, fun h => by
  have ct : Try.prog.cellsOf 52 = 4 := by kernel_rfl
  have c24 : Try.prog.cellsOf 24 = 1 := by kernel_rfl
  obtain ⟨xs, n, _, _, hl, hlen, hf⟩ := DataW.trod_array Try.underlying52 h
  have h0 := hf 0 (by decide)
  rw [List.getElem?_eq_getElem (by rw [hlen]; decide)] at h0
  rw [c24] at h0
  obtain ⟨a0, e0, _, w0⟩ := DataW.trod_int Try.underlying24 h0
  have h1 := hf 1 (by decide)
  rw [List.getElem?_eq_getElem (by rw [hlen]; decide)] at h1
  rw [c24] at h1
  obtain ⟨a1, e1, _, w1⟩ := DataW.trod_int Try.underlying24 h1
  have h2 := hf 2 (by decide)
  rw [List.getElem?_eq_getElem (by rw [hlen]; decide)] at h2
  rw [c24] at h2
  obtain ⟨a2, e2, _, w2⟩ := DataW.trod_int Try.underlying24 h2
  have h3 := hf 3 (by decide)
  rw [List.getElem?_eq_getElem (by rw [hlen]; decide)] at h3
  rw [c24] at h3
  obtain ⟨a3, e3, _, w3⟩ := DataW.trod_int Try.underlying24 h3
  exact ⟨⟨a0, a1, a2, a3⟩, hl.trans ct, ⟨cell_of_take e0, small_of (by decide) (by decide) w0⟩, ⟨cell_of_take e1, small_of (by decide) (by decide) w1⟩, ⟨cell_of_take e2, small_of (by decide) (by decide) w2⟩, ⟨cell_of_take e3, small_of (by decide) (by decide) w3⟩⟩⟩
theorem j4Val {H : Type} {enc : TypeId × Value → H} {W : World} {v : Value} {d : DataW H} {p : List MemPlace} {spare : Nat → Bool} {held : Bool} (h : DataW.Trod enc Try.prog W 0 spare held 52 v d p) : ∃ x : J4, v = j4V x ∧ x.ok := by
  obtain ⟨x, l, rfl, hl, hr⟩ := rJ4.val (by decide) h
  obtain ⟨h1, h2⟩ := j4Enc (memOf W) (fun j => l[j]?) x hr
  refine ⟨x, ?_, h2⟩
  have e : l = j4L x := list_ext hl h1
  rw [e]; rfl
structure B3 where
  a : UInt8
  b : UInt8
  c : UInt8
  deriving DecidableEq, Inhabited
instance : El B3 := ⟨3, fun _ f x => f 0 = some (.int .u8 x.a.toNat) ∧ f 1 = some (.int .u8 x.b.toNat) ∧ f 2 = some (.int .u8 x.c.toNat), fun _ hf h => ⟨hf _ _ h.1, hf _ _ h.2.1, hf _ _ h.2.2⟩⟩
def b3L (x : B3) : List Value := [.int .u8 x.a.toNat, .int .u8 x.b.toNat, .int .u8 x.c.toNat]
abbrev b3V (x : B3) : Value := .agg #[.int .u8 x.a.toNat, .int .u8 x.b.toNat, .int .u8 x.c.toNat]
theorem b3L_len (x : B3) : (b3L x).length = 3 := rfl
theorem b3Rep (μ : Mem) (x : B3) : El.rep μ (fun j => (b3L x)[j]?) x := ⟨rfl, rfl, rfl⟩
theorem b3Reps (μ : Mem) (xs : List B3) : RepL μ (xs.flatMap b3L) xs := RepL.flat (enc := b3L) (fun _ => rfl) (by decide) μ (b3Rep μ) xs
theorem b3Enc (μ : Mem) (f : Nat → Option Value) (x : B3) (h : El.rep μ f x) (j : Nat) (u : Value) (hu : (b3L x)[j]? = some u) : f j = some u := by
  match j, hu with
  | 0, hu => cases hu; exact h.1
  | 1, hu => cases hu; exact h.2.1
  | 2, hu => cases hu; exact h.2.2
theorem b3One (x : B3) : ∀ u ∈ b3L x, u.oneCell' = true := by simp [b3L, Value.oneCell']
theorem b3Ones (xs : List B3) : ∀ u ∈ xs.flatMap b3L, u.oneCell' = true := fun u hu => by
  obtain ⟨p, _, hp⟩ := List.mem_flatMap.1 hu
  exact b3One p u hp
theorem rB3 : Reads Try.prog 70 B3 := ⟨by kernel_rfl, by decide, fun h => by
  have ct : Try.prog.cellsOf 70 = 3 := by kernel_rfl
  have c5 : Try.prog.cellsOf 5 = 1 := by kernel_rfl
  obtain ⟨xs, n, _, _, hl, hlen, hf⟩ := DataW.trod_array Try.underlying70 h
  have h0 := hf 0 (by decide)
  rw [List.getElem?_eq_getElem (by rw [hlen]; decide)] at h0
  rw [c5] at h0
  obtain ⟨a0, e0, _, w0⟩ := DataW.trod_int Try.underlying5 h0
  obtain ⟨a0, rfl⟩ := u8_of w0
  have h1 := hf 1 (by decide)
  rw [List.getElem?_eq_getElem (by rw [hlen]; decide)] at h1
  rw [c5] at h1
  obtain ⟨a1, e1, _, w1⟩ := DataW.trod_int Try.underlying5 h1
  obtain ⟨a1, rfl⟩ := u8_of w1
  have h2 := hf 2 (by decide)
  rw [List.getElem?_eq_getElem (by rw [hlen]; decide)] at h2
  rw [c5] at h2
  obtain ⟨a2, e2, _, w2⟩ := DataW.trod_int Try.underlying5 h2
  obtain ⟨a2, rfl⟩ := u8_of w2
  exact ⟨⟨a0, a1, a2⟩, hl.trans ct, cell_of_take e0, cell_of_take e1, cell_of_take e2⟩⟩
theorem b3Val {H : Type} {enc : TypeId × Value → H} {W : World} {v : Value} {d : DataW H} {p : List MemPlace} {spare : Nat → Bool} {held : Bool} (h : DataW.Trod enc Try.prog W 0 spare held 70 v d p) : ∃ x : B3, v = b3V x := by
  obtain ⟨x, l, rfl, hl, hr⟩ := rB3.val (by decide) h
  refine ⟨x, ?_⟩
  have e : l = b3L x := list_ext hl fun j u hu => b3Enc (memOf W) (fun j => l[j]?) x hr j u hu
  rw [e]; rfl
structure B4 where
  a : UInt8
  b : UInt8
  c : UInt8
  d : UInt8
  deriving DecidableEq, Inhabited
instance : El B4 := ⟨4, fun _ f x => f 0 = some (.int .u8 x.a.toNat) ∧ f 1 = some (.int .u8 x.b.toNat) ∧ f 2 = some (.int .u8 x.c.toNat) ∧ f 3 = some (.int .u8 x.d.toNat), fun _ hf h => ⟨hf _ _ h.1, hf _ _ h.2.1, hf _ _ h.2.2.1, hf _ _ h.2.2.2⟩⟩
def b4L (x : B4) : List Value := [.int .u8 x.a.toNat, .int .u8 x.b.toNat, .int .u8 x.c.toNat, .int .u8 x.d.toNat]
abbrev b4V (x : B4) : Value := .agg #[.int .u8 x.a.toNat, .int .u8 x.b.toNat, .int .u8 x.c.toNat, .int .u8 x.d.toNat]
theorem b4L_len (x : B4) : (b4L x).length = 4 := rfl
theorem b4Rep (μ : Mem) (x : B4) : El.rep μ (fun j => (b4L x)[j]?) x := ⟨rfl, rfl, rfl, rfl⟩
theorem b4Reps (μ : Mem) (xs : List B4) : RepL μ (xs.flatMap b4L) xs := RepL.flat (enc := b4L) (fun _ => rfl) (by decide) μ (b4Rep μ) xs
theorem b4Enc (μ : Mem) (f : Nat → Option Value) (x : B4) (h : El.rep μ f x) (j : Nat) (u : Value) (hu : (b4L x)[j]? = some u) : f j = some u := by
  match j, hu with
  | 0, hu => cases hu; exact h.1
  | 1, hu => cases hu; exact h.2.1
  | 2, hu => cases hu; exact h.2.2.1
  | 3, hu => cases hu; exact h.2.2.2
theorem b4One (x : B4) : ∀ u ∈ b4L x, u.oneCell' = true := by simp [b4L, Value.oneCell']
theorem b4Ones (xs : List B4) : ∀ u ∈ xs.flatMap b4L, u.oneCell' = true := fun u hu => by
  obtain ⟨p, _, hp⟩ := List.mem_flatMap.1 hu
  exact b4One p u hp
theorem rB4 : Reads Try.prog 74 B4 := ⟨by kernel_rfl, by decide, fun h => by
  have ct : Try.prog.cellsOf 74 = 4 := by kernel_rfl
  have c5 : Try.prog.cellsOf 5 = 1 := by kernel_rfl
  obtain ⟨xs, n, _, _, hl, hlen, hf⟩ := DataW.trod_array Try.underlying74 h
  have h0 := hf 0 (by decide)
  rw [List.getElem?_eq_getElem (by rw [hlen]; decide)] at h0
  rw [c5] at h0
  obtain ⟨a0, e0, _, w0⟩ := DataW.trod_int Try.underlying5 h0
  obtain ⟨a0, rfl⟩ := u8_of w0
  have h1 := hf 1 (by decide)
  rw [List.getElem?_eq_getElem (by rw [hlen]; decide)] at h1
  rw [c5] at h1
  obtain ⟨a1, e1, _, w1⟩ := DataW.trod_int Try.underlying5 h1
  obtain ⟨a1, rfl⟩ := u8_of w1
  have h2 := hf 2 (by decide)
  rw [List.getElem?_eq_getElem (by rw [hlen]; decide)] at h2
  rw [c5] at h2
  obtain ⟨a2, e2, _, w2⟩ := DataW.trod_int Try.underlying5 h2
  obtain ⟨a2, rfl⟩ := u8_of w2
  have h3 := hf 3 (by decide)
  rw [List.getElem?_eq_getElem (by rw [hlen]; decide)] at h3
  rw [c5] at h3
  obtain ⟨a3, e3, _, w3⟩ := DataW.trod_int Try.underlying5 h3
  obtain ⟨a3, rfl⟩ := u8_of w3
  exact ⟨⟨a0, a1, a2, a3⟩, hl.trans ct, cell_of_take e0, cell_of_take e1, cell_of_take e2, cell_of_take e3⟩⟩
theorem b4Val {H : Type} {enc : TypeId × Value → H} {W : World} {v : Value} {d : DataW H} {p : List MemPlace} {spare : Nat → Bool} {held : Bool} (h : DataW.Trod enc Try.prog W 0 spare held 74 v d p) : ∃ x : B4, v = b4V x := by
  obtain ⟨x, l, rfl, hl, hr⟩ := rB4.val (by decide) h
  refine ⟨x, ?_⟩
  have e : l = b4L x := list_ext hl fun j u hu => b4Enc (memOf W) (fun j => l[j]?) x hr j u hu
  rw [e]; rfl
structure B6 where
  a : UInt8
  b : UInt8
  c : UInt8
  d : UInt8
  e : UInt8
  f : UInt8
  deriving DecidableEq, Inhabited
instance : El B6 := ⟨6, fun _ f x => f 0 = some (.int .u8 x.a.toNat) ∧ f 1 = some (.int .u8 x.b.toNat) ∧ f 2 = some (.int .u8 x.c.toNat) ∧ f 3 = some (.int .u8 x.d.toNat) ∧ f 4 = some (.int .u8 x.e.toNat) ∧ f 5 = some (.int .u8 x.f.toNat), fun _ hf h => ⟨hf _ _ h.1, hf _ _ h.2.1, hf _ _ h.2.2.1, hf _ _ h.2.2.2.1, hf _ _ h.2.2.2.2.1, hf _ _ h.2.2.2.2.2⟩⟩
def b6L (x : B6) : List Value := [.int .u8 x.a.toNat, .int .u8 x.b.toNat, .int .u8 x.c.toNat, .int .u8 x.d.toNat, .int .u8 x.e.toNat, .int .u8 x.f.toNat]
abbrev b6V (x : B6) : Value := .agg #[.int .u8 x.a.toNat, .int .u8 x.b.toNat, .int .u8 x.c.toNat, .int .u8 x.d.toNat, .int .u8 x.e.toNat, .int .u8 x.f.toNat]
theorem b6L_len (x : B6) : (b6L x).length = 6 := rfl
theorem b6Rep (μ : Mem) (x : B6) : El.rep μ (fun j => (b6L x)[j]?) x := ⟨rfl, rfl, rfl, rfl, rfl, rfl⟩
theorem b6Reps (μ : Mem) (xs : List B6) : RepL μ (xs.flatMap b6L) xs := RepL.flat (enc := b6L) (fun _ => rfl) (by decide) μ (b6Rep μ) xs
theorem b6Enc (μ : Mem) (f : Nat → Option Value) (x : B6) (h : El.rep μ f x) (j : Nat) (u : Value) (hu : (b6L x)[j]? = some u) : f j = some u := by
  match j, hu with
  | 0, hu => cases hu; exact h.1
  | 1, hu => cases hu; exact h.2.1
  | 2, hu => cases hu; exact h.2.2.1
  | 3, hu => cases hu; exact h.2.2.2.1
  | 4, hu => cases hu; exact h.2.2.2.2.1
  | 5, hu => cases hu; exact h.2.2.2.2.2
theorem b6One (x : B6) : ∀ u ∈ b6L x, u.oneCell' = true := by simp [b6L, Value.oneCell']
theorem b6Ones (xs : List B6) : ∀ u ∈ xs.flatMap b6L, u.oneCell' = true := fun u hu => by
  obtain ⟨p, _, hp⟩ := List.mem_flatMap.1 hu
  exact b6One p u hp
theorem rB6 : Reads Try.prog 76 B6 := ⟨by kernel_rfl, by decide, fun h => by
  have ct : Try.prog.cellsOf 76 = 6 := by kernel_rfl
  have c5 : Try.prog.cellsOf 5 = 1 := by kernel_rfl
  obtain ⟨xs, n, _, _, hl, hlen, hf⟩ := DataW.trod_array Try.underlying76 h
  have h0 := hf 0 (by decide)
  rw [List.getElem?_eq_getElem (by rw [hlen]; decide)] at h0
  rw [c5] at h0
  obtain ⟨a0, e0, _, w0⟩ := DataW.trod_int Try.underlying5 h0
  obtain ⟨a0, rfl⟩ := u8_of w0
  have h1 := hf 1 (by decide)
  rw [List.getElem?_eq_getElem (by rw [hlen]; decide)] at h1
  rw [c5] at h1
  obtain ⟨a1, e1, _, w1⟩ := DataW.trod_int Try.underlying5 h1
  obtain ⟨a1, rfl⟩ := u8_of w1
  have h2 := hf 2 (by decide)
  rw [List.getElem?_eq_getElem (by rw [hlen]; decide)] at h2
  rw [c5] at h2
  obtain ⟨a2, e2, _, w2⟩ := DataW.trod_int Try.underlying5 h2
  obtain ⟨a2, rfl⟩ := u8_of w2
  have h3 := hf 3 (by decide)
  rw [List.getElem?_eq_getElem (by rw [hlen]; decide)] at h3
  rw [c5] at h3
  obtain ⟨a3, e3, _, w3⟩ := DataW.trod_int Try.underlying5 h3
  obtain ⟨a3, rfl⟩ := u8_of w3
  have h4 := hf 4 (by decide)
  rw [List.getElem?_eq_getElem (by rw [hlen]; decide)] at h4
  rw [c5] at h4
  obtain ⟨a4, e4, _, w4⟩ := DataW.trod_int Try.underlying5 h4
  obtain ⟨a4, rfl⟩ := u8_of w4
  have h5 := hf 5 (by decide)
  rw [List.getElem?_eq_getElem (by rw [hlen]; decide)] at h5
  rw [c5] at h5
  obtain ⟨a5, e5, _, w5⟩ := DataW.trod_int Try.underlying5 h5
  obtain ⟨a5, rfl⟩ := u8_of w5
  exact ⟨⟨a0, a1, a2, a3, a4, a5⟩, hl.trans ct, cell_of_take e0, cell_of_take e1, cell_of_take e2, cell_of_take e3, cell_of_take e4, cell_of_take e5⟩⟩
theorem b6Val {H : Type} {enc : TypeId × Value → H} {W : World} {v : Value} {d : DataW H} {p : List MemPlace} {spare : Nat → Bool} {held : Bool} (h : DataW.Trod enc Try.prog W 0 spare held 76 v d p) : ∃ x : B6, v = b6V x := by
  obtain ⟨x, l, rfl, hl, hr⟩ := rB6.val (by decide) h
  refine ⟨x, ?_⟩
  have e : l = b6L x := list_ext hl fun j u hu => b6Enc (memOf W) (fun j => l[j]?) x hr j u hu
  rw [e]; rfl
end Go.Proofs.Ytphgjongflkolaa
