/-
  Strokes: what the statements' reader finds among the arguments.
-/
import Derived.Test.YthbglfjajifkoaaStG
import Derived.Test.YthbglfjajifkoaaRead
import Derived.Test.YthbglfjajifkoaaChecked
namespace Go.Proofs.Ythbglfjajifkoaa
open Go.RowKit Sy Go.ChangeShapes Go.WideShapes Go.ChangeAt

theorem own : ownKnob Try.prog.godebug = none := by kernel_rfl
theorem laidOut : laidOutB Try.prog = true := by kernel_rfl

theorem cells2 {α : Type} {cs : List α} (h : cs.length = 2) {x y : α} (h0 : (cs.drop 0).take 1 = [x]) (h1 : (cs.drop 1).take 1 = [y]) : cs = [x, y] := by
  match cs, h with
  | [a, b], _ => simp at h0 h1; rw [h0, h1]
set_option maxRecDepth 100000 in
theorem rPt : Reads Try.prog 46 Pt := ⟨by kernel_rfl, by decide, fun h => by
  have c1 : Try.prog.cellsOf 3 = 1 := by kernel_rfl
  have c2 : Try.prog.cellsOf 46 = 2 := by kernel_rfl
  obtain ⟨y0, y1, n, _, hl, h0, h1⟩ := trod_struct2 Try.underlying46 h
  obtain ⟨a, ea, _, _⟩ := DataW.trod_int Try.underlying3 h0
  obtain ⟨b, eb, _, _⟩ := DataW.trod_int Try.underlying3 h1
  rw [c1] at ea eb
  have e := cells2 (hl.trans c2) ea eb
  subst e
  exact ⟨⟨a, b⟩, rfl, rfl, rfl⟩⟩
set_option maxRecDepth 100000 in
theorem rB2 : Reads Try.prog 48 B2 := ⟨by kernel_rfl, by decide, fun h => by
  have c1 : Try.prog.cellsOf 5 = 1 := by kernel_rfl
  have c2 : Try.prog.cellsOf 48 = 2 := by kernel_rfl
  obtain ⟨xs, m, _, _, hl, hxl, hi⟩ := DataW.trod_array Try.underlying48 h
  have h0 := hi 0 (by omega)
  have h1 := hi 1 (by omega)
  rw [List.getElem?_eq_getElem (by omega), c1] at h0 h1
  obtain ⟨a, ea, _, wa⟩ := DataW.trod_int Try.underlying5 h0
  obtain ⟨b, eb, _, wb⟩ := DataW.trod_int Try.underlying5 h1
  obtain ⟨a, rfl⟩ := u8_of wa
  obtain ⟨b, rfl⟩ := u8_of wb
  have e := cells2 (hl.trans c2) ea eb
  subst e
  exact ⟨⟨a, b⟩, rfl, rfl, rfl⟩⟩
set_option maxRecDepth 100000 in
theorem rRaw : Reads Try.prog 59 Raw := ⟨by kernel_rfl, by decide, fun h => by
  have c1 : Try.prog.cellsOf 5 = 1 := by kernel_rfl
  have c2 : Try.prog.cellsOf 59 = 2 := by kernel_rfl
  have c3 : Try.prog.cellsOf 23 = 1 := by kernel_rfl
  obtain ⟨y0, y1, n, _, hl, h0, h1⟩ := trod_struct2 Try.underlying59 h
  obtain ⟨a, ea, _, wa⟩ := DataW.trod_int Try.underlying5 h0
  obtain ⟨ad, cap, xs, eb, hsl⟩ := rB2.slice Try.underlying23 h1
  obtain ⟨a, rfl⟩ := u8_of wa
  rw [c1] at ea
  rw [c3] at eb
  have e := cells2 (hl.trans c2) ea eb
  subst e
  exact ⟨⟨a, xs⟩, rfl, rfl, ad, cap, rfl, hsl⟩⟩
theorem rU8 : Reads Try.prog 5 UInt8 := Reads.u8 Try.underlying5 (by kernel_rfl)
end Go.Proofs.Ythbglfjajifkoaa
