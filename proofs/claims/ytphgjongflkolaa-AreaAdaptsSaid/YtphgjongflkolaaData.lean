/-
  Data: structures, how they lie in memory, and how a statement's reader finds them.
-/
import Derived.Test.YtphgjongflkolaaTypes
import Derived.Test.YtphgjongflkolaaRead
import Derived.Test.YtphgjongflkolaaSort

namespace Go.Proofs.Ytphgjongflkolaa
open Go.RowKit Sy Go.ChangeShapes Go.WideShapes Go.ChangeAt
set_option maxRecDepth 100000

structure Pt where
  X : Int
  Y : Int
  deriving DecidableEq, Inhabited
instance : El Pt := ⟨2, fun _ f x => f 0 = some (.int .i64 x.X) ∧ f 1 = some (.int .i64 x.Y), fun _ hf h => ⟨hf _ _ h.1, hf _ _ h.2⟩⟩
def ptL (x : Pt) : List Value := [.int .i64 x.X, .int .i64 x.Y]
abbrev ptV (x : Pt) : Value := .agg #[.int .i64 x.X, .int .i64 x.Y]
theorem ptL_len (x : Pt) : (ptL x).length = 2 := rfl
theorem ptRep (μ : Mem) (x : Pt) : El.rep μ (fun j => (ptL x)[j]?) x := ⟨rfl, rfl⟩
theorem ptReps (μ : Mem) (xs : List Pt) : RepL μ (xs.flatMap ptL) xs := RepL.flat (enc := ptL) (fun _ => rfl) (by decide) μ (ptRep μ) xs
theorem ptEnc (μ : Mem) (f : Nat → Option Value) (x : Pt) (h : El.rep μ f x) (j : Nat) (u : Value) (hu : (ptL x)[j]? = some u) : f j = some u := by
  match j, hu with
  | 0, hu => cases hu; exact h.1
  | 1, hu => cases hu; exact h.2
theorem ptOne (x : Pt) : ∀ u ∈ ptL x, u.oneCell' = true := by simp [ptL, Value.oneCell']
theorem ptOnes (xs : List Pt) : ∀ u ∈ xs.flatMap ptL, u.oneCell' = true := fun u hu => by
  obtain ⟨p, _, hp⟩ := List.mem_flatMap.1 hu
  exact ptOne p u hp
theorem rPt : Reads Try.prog 36 Pt := ⟨by kernel_rfl, by decide, fun h => by
  have ct : Try.prog.cellsOf 36 = 2 := by kernel_rfl
  have c3 : Try.prog.cellsOf 3 = 1 := by kernel_rfl
  obtain ⟨xs, n, _, _, hl, hlen, hf⟩ := DataW.trod_struct Try.underlying36 h
  have h0 := hf 0 _ rfl
  rw [List.getElem?_eq_getElem (by rw [hlen]; decide)] at h0
  obtain ⟨a0, e0, _, w0⟩ := DataW.trod_int Try.underlying3 h0
  change List.take (Try.prog.cellsOf 3) (List.drop 0 _) = _ at e0
  rw [c3] at e0
  have h1 := hf 1 _ rfl
  rw [List.getElem?_eq_getElem (by rw [hlen]; decide)] at h1
  obtain ⟨a1, e1, _, w1⟩ := DataW.trod_int Try.underlying3 h1
  change List.take (Try.prog.cellsOf 3) (List.drop 1 _) = _ at e1
  rw [c3] at e1
  exact ⟨⟨a0, a1⟩, hl.trans ct, cell_of_take e0, cell_of_take e1⟩⟩
theorem ptVal {H : Type} {enc : TypeId × Value → H} {W : World} {v : Value} {d : DataW H} {p : List MemPlace} {spare : Nat → Bool} {held : Bool} (h : DataW.Trod enc Try.prog W 0 spare held 36 v d p) : ∃ x : Pt, v = ptV x := by
  obtain ⟨x, l, rfl, hl, hr⟩ := rPt.val (by decide) h
  refine ⟨x, ?_⟩
  have e : l = ptL x := list_ext hl fun j u hu => ptEnc (memOf W) (fun j => l[j]?) x hr j u hu
  rw [e]; rfl
structure B2 where
  a : UInt8
  b : UInt8
  deriving DecidableEq, Inhabited
instance : El B2 := ⟨2, fun _ f x => f 0 = some (.int .u8 x.a.toNat) ∧ f 1 = some (.int .u8 x.b.toNat), fun _ hf h => ⟨hf _ _ h.1, hf _ _ h.2⟩⟩
def b2L (x : B2) : List Value := [.int .u8 x.a.toNat, .int .u8 x.b.toNat]
abbrev b2V (x : B2) : Value := .agg #[.int .u8 x.a.toNat, .int .u8 x.b.toNat]
theorem b2L_len (x : B2) : (b2L x).length = 2 := rfl
theorem b2Rep (μ : Mem) (x : B2) : El.rep μ (fun j => (b2L x)[j]?) x := ⟨rfl, rfl⟩
theorem b2Reps (μ : Mem) (xs : List B2) : RepL μ (xs.flatMap b2L) xs := RepL.flat (enc := b2L) (fun _ => rfl) (by decide) μ (b2Rep μ) xs
theorem b2Enc (μ : Mem) (f : Nat → Option Value) (x : B2) (h : El.rep μ f x) (j : Nat) (u : Value) (hu : (b2L x)[j]? = some u) : f j = some u := by
  match j, hu with
  | 0, hu => cases hu; exact h.1
  | 1, hu => cases hu; exact h.2
theorem b2One (x : B2) : ∀ u ∈ b2L x, u.oneCell' = true := by simp [b2L, Value.oneCell']
theorem b2Ones (xs : List B2) : ∀ u ∈ xs.flatMap b2L, u.oneCell' = true := fun u hu => by
  obtain ⟨p, _, hp⟩ := List.mem_flatMap.1 hu
  exact b2One p u hp
theorem rB2 : Reads Try.prog 63 B2 := ⟨by kernel_rfl, by decide, fun h => by
  have ct : Try.prog.cellsOf 63 = 2 := by kernel_rfl
  have c5 : Try.prog.cellsOf 5 = 1 := by kernel_rfl
  obtain ⟨xs, n, _, _, hl, hlen, hf⟩ := DataW.trod_array Try.underlying63 h
  have h0 := hf 0 (by decide)
  rw [List.getElem?_eq_getElem (by rw [hlen]; decide)] at h0
  rw [c5] at h0
  obtain ⟨a0, e0, _, w0⟩ := DataW.trod_int Try.underlying5 h0
  obtain ⟨a0, rfl⟩ := u8_of w0
  have h1 := hf 1 (by decide)
  rw [List.getElem?_eq_getElem (by rw [hlen]; decide)] at h1
  rw [c5] at h1
  obtain ⟨a1, e1, _, w1⟩ := DataW.trod_int Try.underlying5 h1
  obtain ⟨a1, rfl⟩ := u8_of w1
  exact ⟨⟨a0, a1⟩, hl.trans ct, cell_of_take e0, cell_of_take e1⟩⟩
theorem b2Val {H : Type} {enc : TypeId × Value → H} {W : World} {v : Value} {d : DataW H} {p : List MemPlace} {spare : Nat → Bool} {held : Bool} (h : DataW.Trod enc Try.prog W 0 spare held 63 v d p) : ∃ x : B2, v = b2V x := by
  obtain ⟨x, l, rfl, hl, hr⟩ := rB2.val (by decide) h
  refine ⟨x, ?_⟩
  have e : l = b2L x := list_ext hl fun j u hu => b2Enc (memOf W) (fun j => l[j]?) x hr j u hu
  rw [e]; rfl
structure I3 where
  a : Int
  b : Int
  c : Int
  deriving DecidableEq, Inhabited
instance : El I3 := ⟨3, fun _ f x => (f 0 = some (.int .i8 x.a) ∧ -128 ≤ x.a ∧ x.a ≤ 127) ∧ (f 1 = some (.int .i8 x.b) ∧ -128 ≤ x.b ∧ x.b ≤ 127) ∧ (f 2 = some (.int .i8 x.c) ∧ -128 ≤ x.c ∧ x.c ≤ 127), fun _ hf h => ⟨⟨hf _ _ h.1.1, h.1.2⟩, ⟨hf _ _ h.2.1.1, h.2.1.2⟩, ⟨hf _ _ h.2.2.1, h.2.2.2⟩⟩⟩
theorem rI3 : Reads Try.prog 84 I3 := ⟨by kernel_rfl, by decide, fun h => by
  have ct : Try.prog.cellsOf 84 = 3 := by kernel_rfl
  have c83 : Try.prog.cellsOf 83 = 1 := by kernel_rfl
  obtain ⟨xs, n, _, _, hl, hlen, hf⟩ := DataW.trod_array Try.underlying84 h
  have h0 := hf 0 (by decide)
  rw [List.getElem?_eq_getElem (by rw [hlen]; decide)] at h0
  rw [c83] at h0
  obtain ⟨a0, e0, _, w0⟩ := DataW.trod_int Try.underlying83 h0
  have h1 := hf 1 (by decide)
  rw [List.getElem?_eq_getElem (by rw [hlen]; decide)] at h1
  rw [c83] at h1
  obtain ⟨a1, e1, _, w1⟩ := DataW.trod_int Try.underlying83 h1
  have h2 := hf 2 (by decide)
  rw [List.getElem?_eq_getElem (by rw [hlen]; decide)] at h2
  rw [c83] at h2
  obtain ⟨a2, e2, _, w2⟩ := DataW.trod_int Try.underlying83 h2
  exact ⟨⟨a0, a1, a2⟩, hl.trans ct, ⟨cell_of_take e0, small_of (by decide) (by decide) w0⟩, ⟨cell_of_take e1, small_of (by decide) (by decide) w1⟩, ⟨cell_of_take e2, small_of (by decide) (by decide) w2⟩⟩⟩
structure Area where
  Key : UInt8
  X0 : Int
  Y0 : Int
  X1 : Int
  Y1 : Int
  deriving DecidableEq, Inhabited
instance : El Area := ⟨5, fun _ f x => f 0 = some (.int .u8 x.Key.toNat) ∧ f 1 = some (.int .i64 x.X0) ∧ f 2 = some (.int .i64 x.Y0) ∧ f 3 = some (.int .i64 x.X1) ∧ f 4 = some (.int .i64 x.Y1), fun _ hf h => ⟨hf _ _ h.1, hf _ _ h.2.1, hf _ _ h.2.2.1, hf _ _ h.2.2.2.1, hf _ _ h.2.2.2.2⟩⟩
def areaL (x : Area) : List Value := [.int .u8 x.Key.toNat, .int .i64 x.X0, .int .i64 x.Y0, .int .i64 x.X1, .int .i64 x.Y1]
abbrev areaV (x : Area) : Value := .agg #[.int .u8 x.Key.toNat, .int .i64 x.X0, .int .i64 x.Y0, .int .i64 x.X1, .int .i64 x.Y1]
theorem areaL_len (x : Area) : (areaL x).length = 5 := rfl
theorem areaRep (μ : Mem) (x : Area) : El.rep μ (fun j => (areaL x)[j]?) x := ⟨rfl, rfl, rfl, rfl, rfl⟩
theorem areaReps (μ : Mem) (xs : List Area) : RepL μ (xs.flatMap areaL) xs := RepL.flat (enc := areaL) (fun _ => rfl) (by decide) μ (areaRep μ) xs
theorem areaEnc (μ : Mem) (f : Nat → Option Value) (x : Area) (h : El.rep μ f x) (j : Nat) (u : Value) (hu : (areaL x)[j]? = some u) : f j = some u := by
  match j, hu with
  | 0, hu => cases hu; exact h.1
  | 1, hu => cases hu; exact h.2.1
  | 2, hu => cases hu; exact h.2.2.1
  | 3, hu => cases hu; exact h.2.2.2.1
  | 4, hu => cases hu; exact h.2.2.2.2
theorem areaOne (x : Area) : ∀ u ∈ areaL x, u.oneCell' = true := by simp [areaL, Value.oneCell']
theorem areaOnes (xs : List Area) : ∀ u ∈ xs.flatMap areaL, u.oneCell' = true := fun u hu => by
  obtain ⟨p, _, hp⟩ := List.mem_flatMap.1 hu
  exact areaOne p u hp
theorem rArea : Reads Try.prog 57 Area := ⟨by kernel_rfl, by decide, fun h => by
  have ct : Try.prog.cellsOf 57 = 5 := by kernel_rfl
  have c5 : Try.prog.cellsOf 5 = 1 := by kernel_rfl
  have c3 : Try.prog.cellsOf 3 = 1 := by kernel_rfl
  obtain ⟨xs, n, _, _, hl, hlen, hf⟩ := DataW.trod_struct Try.underlying57 h
  have h0 := hf 0 _ rfl
  rw [List.getElem?_eq_getElem (by rw [hlen]; decide)] at h0
  obtain ⟨a0, e0, _, w0⟩ := DataW.trod_int Try.underlying5 h0
  obtain ⟨a0, rfl⟩ := u8_of w0
  change List.take (Try.prog.cellsOf 5) (List.drop 0 _) = _ at e0
  rw [c5] at e0
  have h1 := hf 1 _ rfl
  rw [List.getElem?_eq_getElem (by rw [hlen]; decide)] at h1
  obtain ⟨a1, e1, _, w1⟩ := DataW.trod_int Try.underlying3 h1
  change List.take (Try.prog.cellsOf 3) (List.drop 1 _) = _ at e1
  rw [c3] at e1
  have h2 := hf 2 _ rfl
  rw [List.getElem?_eq_getElem (by rw [hlen]; decide)] at h2
  obtain ⟨a2, e2, _, w2⟩ := DataW.trod_int Try.underlying3 h2
  change List.take (Try.prog.cellsOf 3) (List.drop 2 _) = _ at e2
  rw [c3] at e2
  have h3 := hf 3 _ rfl
  rw [List.getElem?_eq_getElem (by rw [hlen]; decide)] at h3
  obtain ⟨a3, e3, _, w3⟩ := DataW.trod_int Try.underlying3 h3
  change List.take (Try.prog.cellsOf 3) (List.drop 3 _) = _ at e3
  rw [c3] at e3
  have h4 := hf 4 _ rfl
  rw [List.getElem?_eq_getElem (by rw [hlen]; decide)] at h4
  obtain ⟨a4, e4, _, w4⟩ := DataW.trod_int Try.underlying3 h4
  change List.take (Try.prog.cellsOf 3) (List.drop 4 _) = _ at e4
  rw [c3] at e4
  exact ⟨⟨a0, a1, a2, a3, a4⟩, hl.trans ct, cell_of_take e0, cell_of_take e1, cell_of_take e2, cell_of_take e3, cell_of_take e4⟩⟩
theorem areaVal {H : Type} {enc : TypeId × Value → H} {W : World} {v : Value} {d : DataW H} {p : List MemPlace} {spare : Nat → Bool} {held : Bool} (h : DataW.Trod enc Try.prog W 0 spare held 57 v d p) : ∃ x : Area, v = areaV x := by
  obtain ⟨x, l, rfl, hl, hr⟩ := rArea.val (by decide) h
  refine ⟨x, ?_⟩
  have e : l = areaL x := list_ext hl fun j u hu => areaEnc (memOf W) (fun j => l[j]?) x hr j u hu
  rw [e]; rfl
structure Tpl where
  Key : UInt8
  P : (List Pt)

instance : El Tpl := ⟨2, fun μ f x => f 0 = some (.int .u8 x.Key.toNat) ∧ (∃ ad c, f 1 = some (.slice ad x.P.length c) ∧ Sl μ ad c x.P), fun hm hf h => ⟨hf _ _ h.1, (let ⟨ad, c, a, b⟩ := h.2; ⟨ad, c, hf _ _ a, b.mono hm⟩)⟩⟩
theorem rTpl : Reads Try.prog 55 Tpl := ⟨by kernel_rfl, by decide, fun h => by
  have ct : Try.prog.cellsOf 55 = 2 := by kernel_rfl
  have c5 : Try.prog.cellsOf 5 = 1 := by kernel_rfl
  have c53 : Try.prog.cellsOf 53 = 1 := by kernel_rfl
  obtain ⟨xs, n, _, _, hl, hlen, hf⟩ := DataW.trod_struct Try.underlying55 h
  have h0 := hf 0 _ rfl
  rw [List.getElem?_eq_getElem (by rw [hlen]; decide)] at h0
  obtain ⟨a0, e0, _, w0⟩ := DataW.trod_int Try.underlying5 h0
  obtain ⟨a0, rfl⟩ := u8_of w0
  change List.take (Try.prog.cellsOf 5) (List.drop 0 _) = _ at e0
  rw [c5] at e0
  have h1 := hf 1 _ rfl
  rw [List.getElem?_eq_getElem (by rw [hlen]; decide)] at h1
  obtain ⟨ad1, k1, a1, e1, s1⟩ := rPt.slice Try.underlying53 h1
  change List.take (Try.prog.cellsOf 53) (List.drop 1 _) = _ at e1
  rw [c53] at e1
  exact ⟨⟨a0, a1⟩, hl.trans ct, cell_of_take e0, ⟨ad1, k1, cell_of_take e1, s1⟩⟩⟩
structure ChordKey where
  Keys : ByteArray
  Key : UInt8

instance : El ChordKey := ⟨2, fun _ f x => f 0 = some (.string x.Keys) ∧ f 1 = some (.int .u8 x.Key.toNat), fun _ hf h => ⟨hf _ _ h.1, hf _ _ h.2⟩⟩
def chordKeyL (x : ChordKey) : List Value := [.string x.Keys, .int .u8 x.Key.toNat]
abbrev chordKeyV (x : ChordKey) : Value := .agg #[.string x.Keys, .int .u8 x.Key.toNat]
theorem chordKeyL_len (x : ChordKey) : (chordKeyL x).length = 2 := rfl
theorem chordKeyRep (μ : Mem) (x : ChordKey) : El.rep μ (fun j => (chordKeyL x)[j]?) x := ⟨rfl, rfl⟩
theorem chordKeyReps (μ : Mem) (xs : List ChordKey) : RepL μ (xs.flatMap chordKeyL) xs := RepL.flat (enc := chordKeyL) (fun _ => rfl) (by decide) μ (chordKeyRep μ) xs
theorem chordKeyEnc (μ : Mem) (f : Nat → Option Value) (x : ChordKey) (h : El.rep μ f x) (j : Nat) (u : Value) (hu : (chordKeyL x)[j]? = some u) : f j = some u := by
  match j, hu with
  | 0, hu => cases hu; exact h.1
  | 1, hu => cases hu; exact h.2
theorem chordKeyOne (x : ChordKey) : ∀ u ∈ chordKeyL x, u.oneCell' = true := by simp [chordKeyL, Value.oneCell']
theorem chordKeyOnes (xs : List ChordKey) : ∀ u ∈ xs.flatMap chordKeyL, u.oneCell' = true := fun u hu => by
  obtain ⟨p, _, hp⟩ := List.mem_flatMap.1 hu
  exact chordKeyOne p u hp
theorem rChordKey : Reads Try.prog 60 ChordKey := ⟨by kernel_rfl, by decide, fun h => by
  have ct : Try.prog.cellsOf 60 = 2 := by kernel_rfl
  have c9 : Try.prog.cellsOf 9 = 1 := by kernel_rfl
  have c5 : Try.prog.cellsOf 5 = 1 := by kernel_rfl
  obtain ⟨xs, n, _, _, hl, hlen, hf⟩ := DataW.trod_struct Try.underlying60 h
  have h0 := hf 0 _ rfl
  rw [List.getElem?_eq_getElem (by rw [hlen]; decide)] at h0
  obtain ⟨a0, e0, _, _⟩ := DataW.trod_string Try.underlying9 h0
  change List.take (Try.prog.cellsOf 9) (List.drop 0 _) = _ at e0
  rw [c9] at e0
  have h1 := hf 1 _ rfl
  rw [List.getElem?_eq_getElem (by rw [hlen]; decide)] at h1
  obtain ⟨a1, e1, _, w1⟩ := DataW.trod_int Try.underlying5 h1
  obtain ⟨a1, rfl⟩ := u8_of w1
  change List.take (Try.prog.cellsOf 5) (List.drop 1 _) = _ at e1
  rw [c5] at e1
  exact ⟨⟨a0, a1⟩, hl.trans ct, cell_of_take e0, cell_of_take e1⟩⟩
theorem chordKeyVal {H : Type} {enc : TypeId × Value → H} {W : World} {v : Value} {d : DataW H} {p : List MemPlace} {spare : Nat → Bool} {held : Bool} (h : DataW.Trod enc Try.prog W 0 spare held 60 v d p) : ∃ x : ChordKey, v = chordKeyV x := by
  obtain ⟨x, l, rfl, hl, hr⟩ := rChordKey.val (by decide) h
  refine ⟨x, ?_⟩
  have e : l = chordKeyL x := list_ext hl fun j u hu => chordKeyEnc (memOf W) (fun j => l[j]?) x hr j u hu
  rw [e]; rfl
structure Ch where
  Key : UInt8
  Cost : Int
  deriving DecidableEq, Inhabited
instance : El Ch := ⟨2, fun _ f x => f 0 = some (.int .u8 x.Key.toNat) ∧ f 1 = some (.int .i64 x.Cost), fun _ hf h => ⟨hf _ _ h.1, hf _ _ h.2⟩⟩
def chL (x : Ch) : List Value := [.int .u8 x.Key.toNat, .int .i64 x.Cost]
abbrev chV (x : Ch) : Value := .agg #[.int .u8 x.Key.toNat, .int .i64 x.Cost]
theorem chL_len (x : Ch) : (chL x).length = 2 := rfl
theorem chRep (μ : Mem) (x : Ch) : El.rep μ (fun j => (chL x)[j]?) x := ⟨rfl, rfl⟩
theorem chReps (μ : Mem) (xs : List Ch) : RepL μ (xs.flatMap chL) xs := RepL.flat (enc := chL) (fun _ => rfl) (by decide) μ (chRep μ) xs
theorem chEnc (μ : Mem) (f : Nat → Option Value) (x : Ch) (h : El.rep μ f x) (j : Nat) (u : Value) (hu : (chL x)[j]? = some u) : f j = some u := by
  match j, hu with
  | 0, hu => cases hu; exact h.1
  | 1, hu => cases hu; exact h.2
theorem chOne (x : Ch) : ∀ u ∈ chL x, u.oneCell' = true := by simp [chL, Value.oneCell']
theorem chOnes (xs : List Ch) : ∀ u ∈ xs.flatMap chL, u.oneCell' = true := fun u hu => by
  obtain ⟨p, _, hp⟩ := List.mem_flatMap.1 hu
  exact chOne p u hp
theorem rCh : Reads Try.prog 67 Ch := ⟨by kernel_rfl, by decide, fun h => by
  have ct : Try.prog.cellsOf 67 = 2 := by kernel_rfl
  have c5 : Try.prog.cellsOf 5 = 1 := by kernel_rfl
  have c3 : Try.prog.cellsOf 3 = 1 := by kernel_rfl
  obtain ⟨xs, n, _, _, hl, hlen, hf⟩ := DataW.trod_struct Try.underlying67 h
  have h0 := hf 0 _ rfl
  rw [List.getElem?_eq_getElem (by rw [hlen]; decide)] at h0
  obtain ⟨a0, e0, _, w0⟩ := DataW.trod_int Try.underlying5 h0
  obtain ⟨a0, rfl⟩ := u8_of w0
  change List.take (Try.prog.cellsOf 5) (List.drop 0 _) = _ at e0
  rw [c5] at e0
  have h1 := hf 1 _ rfl
  rw [List.getElem?_eq_getElem (by rw [hlen]; decide)] at h1
  obtain ⟨a1, e1, _, w1⟩ := DataW.trod_int Try.underlying3 h1
  change List.take (Try.prog.cellsOf 3) (List.drop 1 _) = _ at e1
  rw [c3] at e1
  exact ⟨⟨a0, a1⟩, hl.trans ct, cell_of_take e0, cell_of_take e1⟩⟩
theorem chVal {H : Type} {enc : TypeId × Value → H} {W : World} {v : Value} {d : DataW H} {p : List MemPlace} {spare : Nat → Bool} {held : Bool} (h : DataW.Trod enc Try.prog W 0 spare held 67 v d p) : ∃ x : Ch, v = chV x := by
  obtain ⟨x, l, rfl, hl, hr⟩ := rCh.val (by decide) h
  refine ⟨x, ?_⟩
  have e : l = chL x := list_ext hl fun j u hu => chEnc (memOf W) (fun j => l[j]?) x hr j u hu
  rw [e]; rfl
structure Tap where
  Key : UInt8
  DX : Int
  DY : Int
  N : Int
  deriving DecidableEq, Inhabited
instance : El Tap := ⟨4, fun _ f x => f 0 = some (.int .u8 x.Key.toNat) ∧ f 1 = some (.int .i64 x.DX) ∧ f 2 = some (.int .i64 x.DY) ∧ f 3 = some (.int .i64 x.N), fun _ hf h => ⟨hf _ _ h.1, hf _ _ h.2.1, hf _ _ h.2.2.1, hf _ _ h.2.2.2⟩⟩
def tapL (x : Tap) : List Value := [.int .u8 x.Key.toNat, .int .i64 x.DX, .int .i64 x.DY, .int .i64 x.N]
abbrev tapV (x : Tap) : Value := .agg #[.int .u8 x.Key.toNat, .int .i64 x.DX, .int .i64 x.DY, .int .i64 x.N]
theorem tapL_len (x : Tap) : (tapL x).length = 4 := rfl
theorem tapRep (μ : Mem) (x : Tap) : El.rep μ (fun j => (tapL x)[j]?) x := ⟨rfl, rfl, rfl, rfl⟩
theorem tapReps (μ : Mem) (xs : List Tap) : RepL μ (xs.flatMap tapL) xs := RepL.flat (enc := tapL) (fun _ => rfl) (by decide) μ (tapRep μ) xs
theorem tapEnc (μ : Mem) (f : Nat → Option Value) (x : Tap) (h : El.rep μ f x) (j : Nat) (u : Value) (hu : (tapL x)[j]? = some u) : f j = some u := by
  match j, hu with
  | 0, hu => cases hu; exact h.1
  | 1, hu => cases hu; exact h.2.1
  | 2, hu => cases hu; exact h.2.2.1
  | 3, hu => cases hu; exact h.2.2.2
theorem tapOne (x : Tap) : ∀ u ∈ tapL x, u.oneCell' = true := by simp [tapL, Value.oneCell']
theorem tapOnes (xs : List Tap) : ∀ u ∈ xs.flatMap tapL, u.oneCell' = true := fun u hu => by
  obtain ⟨p, _, hp⟩ := List.mem_flatMap.1 hu
  exact tapOne p u hp
theorem rTap : Reads Try.prog 82 Tap := ⟨by kernel_rfl, by decide, fun h => by
  have ct : Try.prog.cellsOf 82 = 4 := by kernel_rfl
  have c5 : Try.prog.cellsOf 5 = 1 := by kernel_rfl
  have c3 : Try.prog.cellsOf 3 = 1 := by kernel_rfl
  obtain ⟨xs, n, _, _, hl, hlen, hf⟩ := DataW.trod_struct Try.underlying82 h
  have h0 := hf 0 _ rfl
  rw [List.getElem?_eq_getElem (by rw [hlen]; decide)] at h0
  obtain ⟨a0, e0, _, w0⟩ := DataW.trod_int Try.underlying5 h0
  obtain ⟨a0, rfl⟩ := u8_of w0
  change List.take (Try.prog.cellsOf 5) (List.drop 0 _) = _ at e0
  rw [c5] at e0
  have h1 := hf 1 _ rfl
  rw [List.getElem?_eq_getElem (by rw [hlen]; decide)] at h1
  obtain ⟨a1, e1, _, w1⟩ := DataW.trod_int Try.underlying3 h1
  change List.take (Try.prog.cellsOf 3) (List.drop 1 _) = _ at e1
  rw [c3] at e1
  have h2 := hf 2 _ rfl
  rw [List.getElem?_eq_getElem (by rw [hlen]; decide)] at h2
  obtain ⟨a2, e2, _, w2⟩ := DataW.trod_int Try.underlying3 h2
  change List.take (Try.prog.cellsOf 3) (List.drop 2 _) = _ at e2
  rw [c3] at e2
  have h3 := hf 3 _ rfl
  rw [List.getElem?_eq_getElem (by rw [hlen]; decide)] at h3
  obtain ⟨a3, e3, _, w3⟩ := DataW.trod_int Try.underlying3 h3
  change List.take (Try.prog.cellsOf 3) (List.drop 3 _) = _ at e3
  rw [c3] at e3
  exact ⟨⟨a0, a1, a2, a3⟩, hl.trans ct, cell_of_take e0, cell_of_take e1, cell_of_take e2, cell_of_take e3⟩⟩
theorem tapVal {H : Type} {enc : TypeId × Value → H} {W : World} {v : Value} {d : DataW H} {p : List MemPlace} {spare : Nat → Bool} {held : Bool} (h : DataW.Trod enc Try.prog W 0 spare held 82 v d p) : ∃ x : Tap, v = tapV x := by
  obtain ⟨x, l, rfl, hl, hr⟩ := rTap.val (by decide) h
  refine ⟨x, ?_⟩
  have e : l = tapL x := list_ext hl fun j u hu => tapEnc (memOf W) (fun j => l[j]?) x hr j u hu
  rw [e]; rfl
structure Brd where
  Areas : (List Area)
  Templates : (List Tpl)
  Chords : (List ChordKey)

instance : El Brd := ⟨3, fun μ f x => (∃ ad c, f 0 = some (.slice ad x.Areas.length c) ∧ Sl μ ad c x.Areas) ∧ (∃ ad c, f 1 = some (.slice ad x.Templates.length c) ∧ Sl μ ad c x.Templates) ∧ (∃ ad c, f 2 = some (.slice ad x.Chords.length c) ∧ Sl μ ad c x.Chords), fun hm hf h => ⟨(let ⟨ad, c, a, b⟩ := h.1; ⟨ad, c, hf _ _ a, b.mono hm⟩), (let ⟨ad, c, a, b⟩ := h.2.1; ⟨ad, c, hf _ _ a, b.mono hm⟩), (let ⟨ad, c, a, b⟩ := h.2.2; ⟨ad, c, hf _ _ a, b.mono hm⟩)⟩⟩
theorem rBrd : Reads Try.prog 31 Brd := ⟨by kernel_rfl, by decide, fun h => by
  have ct : Try.prog.cellsOf 31 = 3 := by kernel_rfl
  have c27 : Try.prog.cellsOf 27 = 1 := by kernel_rfl
  have c28 : Try.prog.cellsOf 28 = 1 := by kernel_rfl
  have c29 : Try.prog.cellsOf 29 = 1 := by kernel_rfl
  obtain ⟨xs, n, _, _, hl, hlen, hf⟩ := DataW.trod_struct Try.underlying31 h
  have h0 := hf 0 _ rfl
  rw [List.getElem?_eq_getElem (by rw [hlen]; decide)] at h0
  obtain ⟨ad0, k0, a0, e0, s0⟩ := rArea.slice Try.underlying27 h0
  change List.take (Try.prog.cellsOf 27) (List.drop 0 _) = _ at e0
  rw [c27] at e0
  have h1 := hf 1 _ rfl
  rw [List.getElem?_eq_getElem (by rw [hlen]; decide)] at h1
  obtain ⟨ad1, k1, a1, e1, s1⟩ := rTpl.slice Try.underlying28 h1
  change List.take (Try.prog.cellsOf 28) (List.drop 1 _) = _ at e1
  rw [c28] at e1
  have h2 := hf 2 _ rfl
  rw [List.getElem?_eq_getElem (by rw [hlen]; decide)] at h2
  obtain ⟨ad2, k2, a2, e2, s2⟩ := rChordKey.slice Try.underlying29 h2
  change List.take (Try.prog.cellsOf 29) (List.drop 2 _) = _ at e2
  rw [c29] at e2
  exact ⟨⟨a0, a1, a2⟩, hl.trans ct, ⟨ad0, k0, cell_of_take e0, s0⟩, ⟨ad1, k1, cell_of_take e1, s1⟩, ⟨ad2, k2, cell_of_take e2, s2⟩⟩⟩
end Go.Proofs.Ytphgjongflkolaa
