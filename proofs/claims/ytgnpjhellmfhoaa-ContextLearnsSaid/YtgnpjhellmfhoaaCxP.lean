/-
  Context: the edges that begin at a place; the links of a graph, in plain Lean.
-/
import Derived.Test.YtgnpjhellmfhoaaCxO
namespace Go.Proofs.Ytgnpjhellmfhoaa
open Go.RowKit Sy

def frCmp (p : Int) (e : Edge) : Int := e.From - p
theorem frCmp_mono {l : List Edge} (h : l.Pairwise fun a b => edLess a b = true) (p : Int) : l.Pairwise fun a b => 0 ≤ frCmp p a → 0 ≤ frCmp p b := h.imp fun {a b} h => by
  rw [edLess_iff] at h; unfold frCmp; omega
def lo (x : Lat) (p : Int) : Nat := lbL (frCmp p) x.Edges
theorem lo_le (x : Lat) (p : Int) : lo x p ≤ x.Edges.length := lbL_le _ _
theorem from11_c (e : Edge) (p : Int) (h : 0 ≤ e.From ∧ e.From ≤ 40) (hp : 0 ≤ p ∧ p ≤ 41) (w : World) : Calls Try.prog 78 #[edgeV e, .int .i64 p] w (RetS w (.int .i64 (frCmp p e))) := by
  have hS := St.start w (fun _ => none) (fun _ _ h => by cases h)
  refine calls_start 9 [edgeV e, .int .i64 p] Try.func78 rfl Try.ntmps78 rfl rfl ?_
  refine CW.seq fun K1 hK1 => ?_
  refine CW.region [0, 1] rfl ?_
  refine LW.hv rfl rfl rfl rfl (Hv.boxS hS rfl rfl) fun v w2 ⟨b2, hv, hb2, hS⟩ => ?_
  subst hv
  refine LW.ex rfl rfl rfl rfl (Ex.assign rfl) hS.rd ?_
  refine LW.nil fun aa ha => hK1 _ _ _ ?_ aa ha
  refine CW.seq fun K2 hK2 => ?_
  refine CW.region [0, 1, 2, 3, 4] rfl ?_
  refine LW.ex rfl rfl rfl rfl (Ex.fieldO 0 Try.underlying43 rfl rfl ti3 rfl) hS.rd ?_
  refine LW.ex rfl rfl rfl rfl (Ex.load1 ti3 rfl rfl (by first | exact obT rfl | exact Rd.imm ‹_› | exact slT ‹_›)) hS.rd ?_
  refine LW.ex rfl rfl rfl rfl (Ex.move rfl) hS.rd ?_
  refine LW.ex rfl rfl rfl rfl (Ex.sub rfl rfl (w64 (by omega) (by omega))) hS.rd ?_
  refine LW.ex rfl rfl rfl rfl (Ex.assign rfl) hS.rd ?_
  refine LW.nil fun aa ha => hK2 _ _ _ ?_ aa ha
  refine CW.ret fun aa ha => ?_
  refine ret_one ha Try.results78 rfl ?_
  exact hS.retS
theorem from1_c (x : Lat) (hx : okX x = true) (p : Int) (hp : 0 ≤ p ∧ p ≤ 41) (b2 : Nat) (a3 : Option Addr) (c3 : Nat) (μ : Mem) (w : World) (hμ : Imm μ w) (hb : μ.cell b2 (0 + 1) = some (.slice a3 x.Edges.length c3)) (hl : Sl μ a3 c3 x.Edges) :
    Calls Try.prog 76 #[.int .i64 p, .pointer (some ⟨b2, 0, none⟩)] w (RetS w (.int .i64 (lo x p : Nat))) := by
  obtain ⟨⟨hN0, hN1, hE⟩, hed, hso⟩ := okX_edges hx
  have hS := St.start w μ hμ
  refine calls_start 14 [.int .i64 p, .pointer (some ⟨b2, 0, none⟩)] Try.func76 rfl Try.ntmps76 rfl rfl ?_
  refine CW.seq fun K3 hK3 => ?_
  refine CW.region [0] rfl ?_
  refine LW.ex rfl rfl rfl rfl (Ex.assign rfl) hS.rd ?_
  refine LW.nil fun aa ha => hK3 _ _ _ ?_ aa ha
  refine CW.seq fun K4 hK4 => ?_
  refine CW.region [0, 1, 2, 3, 4, 5, 6, 7, 8] rfl ?_
  refine LW.ex rfl rfl rfl rfl (Ex.fieldO 1 Try.underlying38 rfl rfl ti36 rfl) hS.rd ?_
  refine LW.ex rfl rfl rfl rfl (Ex.load1 ti36 rfl rfl (by first | exact obT rfl | exact Rd.imm ‹_› | exact slT ‹_›)) hS.rd ?_
  refine LW.ex rfl rfl rfl rfl (Ex.move rfl) hS.rd ?_
  refine LW.hv rfl rfl rfl rfl (Hv.callS hS rfl rfl rfl cb77 (bsearchEd_c x.Edges (.int .i64 p) 78 #[] (frCmp p) cb78 _ _ μ _ hS.imm hl (by omega) (frCmp_mono hso p) (fun e he w' _ => from11_c e p (by have := hed e he; omega) hp w'))) fun v w10 ⟨hv, hS⟩ => ?_
  subst hv
  refine LW.ex rfl rfl rfl rfl (Ex.move rfl) hS.rd ?_
  refine LW.ex rfl rfl rfl rfl (Ex.extract rfl rfl) hS.rd ?_
  refine LW.ex rfl rfl rfl rfl (Ex.extract rfl rfl) hS.rd ?_
  refine LW.ex rfl rfl rfl rfl (Ex.assign rfl) hS.rd ?_
  refine LW.ex rfl rfl rfl rfl (Ex.assign rfl) hS.rd ?_
  refine LW.nil fun aa ha => hK4 _ _ _ ?_ aa ha
  refine CW.seq fun K5 hK5 => ?_
  refine CW.region [0, 1] rfl ?_
  refine LW.ex rfl rfl rfl rfl (Ex.move rfl) hS.rd ?_
  refine LW.ex rfl rfl rfl rfl (Ex.assign rfl) hS.rd ?_
  refine LW.nil fun aa ha => hK5 _ _ _ ?_ aa ha
  refine CW.ret fun aa ha => ?_
  refine ret_one ha Try.results76 rfl ?_
  unfold lo; exact hS.retS
theorem lo_mono (x : Lat) (p : Int) : lo x p ≤ lo x (p + 1) := by
  unfold lo lbL
  exact List.countP_mono_left fun e _ h => by rw [decide_eq_true_eq] at *; unfold frCmp at *; omega
theorem lo_from {x : Lat} (hx : okX x = true) (p : Int) {i : Nat} (hi : i < x.Edges.length) : x.Edges[i].From = p ↔ lo x p ≤ i ∧ i < lo x (p + 1) := by
  obtain ⟨_, _, hso⟩ := okX_edges hx
  have h1 := lbL_lt (frCmp_mono hso p) hi
  have h2 := lbL_lt (frCmp_mono hso (p + 1)) hi
  unfold lo
  rw [← Nat.not_lt, h1, h2]
  unfold frCmp
  omega
set_option maxRecDepth 100000 in
theorem from_c (x : Lat) (hx : okX x = true) (p : Int) (hp : 0 ≤ p ∧ p ≤ 40) (a3 : Option Addr) (c3 : Nat) (μ : Mem) (w : World) (hμ : Imm μ w) (hl : Sl μ a3 c3 x.Edges) :
    Calls Try.prog 56 #[.agg #[.int .i64 x.N, .slice a3 x.Edges.length c3], .int .i64 p] w (RetS w (.tuple #[.slice (if c3 = lo x p then a3 else a3.map (·.add (lo x p * 4))) (lo x (p + 1) - lo x p) (c3 - lo x p), .int .i64 (lo x p : Nat)])) := by
  have h1 := lo_mono x p
  have h2 := lo_le x (p + 1)
  have h3 := hl.1
  have hS := St.start w μ hμ
  refine calls_start 21 [.agg #[.int .i64 x.N, .slice a3 x.Edges.length c3], .int .i64 p] Try.func56 rfl Try.ntmps56 rfl rfl ?_
  refine CW.seq fun K6 hK6 => ?_
  refine CW.region [0, 1, 2] rfl ?_
  refine LW.hv rfl rfl rfl rfl (Hv.boxS hS rfl rfl) fun v w2 ⟨b2, hv, hb2, hS⟩ => ?_
  subst hv
  refine LW.ex rfl rfl rfl rfl (Ex.assign rfl) hS.rd ?_
  refine LW.ex rfl rfl rfl rfl (Ex.assign rfl) hS.rd ?_
  refine LW.nil fun aa ha => hK6 _ _ _ ?_ aa ha
  refine CW.seq fun K7 hK7 => ?_
  refine CW.region [0, 1] rfl ?_
  refine LW.ex rfl rfl rfl rfl (Ex.makeFunc rfl) hS.rd ?_
  refine LW.ex rfl rfl rfl rfl (Ex.assign rfl) hS.rd ?_
  refine LW.nil fun aa ha => hK7 _ _ _ ?_ aa ha
  refine CW.seq fun K8 hK8 => ?_
  refine CW.region [0, 1, 2, 3] rfl ?_
  refine LW.ex rfl rfl rfl rfl (Ex.move rfl) hS.rd ?_
  refine LW.ex rfl rfl rfl rfl (Ex.move rfl) hS.rd ?_
  refine LW.hv rfl rfl rfl rfl (Hv.callS hS rfl rfl rfl cb76 (from1_c x hx p (by omega) b2 a3 c3 (memOf _) _ (imm_memOf _) (memOf_cell (Rd.obj (k := 0) rfl rfl _ hS.rd)) (hl.mono hS.imm.ext))) fun v w11 ⟨hv, hS⟩ => ?_
  subst hv
  refine LW.ex rfl rfl rfl rfl (Ex.assign rfl) hS.rd ?_
  refine LW.nil fun aa ha => hK8 _ _ _ ?_ aa ha
  refine CW.seq fun K9 hK9 => ?_
  have hS := hS.drew
  refine CW.draw 11 (.ex 0 <| .ex 1 <| .ex 2 <| .ex 3 <| .ex 4 <| .ex 5 <| .ex 8 <| .one 6 <| .ex 7 <| .ex 9 <| .ex 10 <| .done) [] (Rd _ _) mixed (by kernel_rfl) rfl rfl hS.rd ?_
  refine PW.ex rfl rfl rfl rfl (Ex.fieldO 1 Try.underlying38 rfl rfl ti36 rfl) ?_
  refine PW.ex rfl rfl rfl rfl (Ex.load1 ti36 rfl rfl (by first | exact obT rfl | exact Rd.imm ‹_› | exact slT ‹_›)) ?_
  refine PW.ex rfl rfl rfl rfl (Ex.move rfl) ?_
  refine PW.ex rfl rfl rfl rfl (Ex.move rfl) ?_
  refine PW.ex rfl rfl rfl rfl (Ex.move rfl) ?_
  refine PW.ex rfl rfl rfl rfl (Ex.add rfl rfl (by first | exact inc64 (by omega) | exact addN (by omega) | exact w64 (by omega) (by omega))) ?_
  refine PW.ex rfl rfl rfl rfl (Ex.move rfl) ?_
  refine PW.hv rfl rfl rfl rfl (Hv.callS hS rfl rfl rfl cb76 (from1_c x hx (p + 1) (by omega) b2 a3 c3 (memOf _) _ (imm_memOf _) (memOf_cell (Rd.obj (k := 0) rfl rfl _ hS.rd)) (hl.mono hS.imm.ext))) (fun _ _ h => h.2.rd) fun v w18 ⟨hv, hS⟩ => ?_
  subst hv
  refine PW.ex rfl rfl rfl rfl (Ex.sliceLH Try.underlying36 ti43 rfl rfl rfl rfl rfl h1 (by omega)) ?_
  refine PW.ex rfl rfl rfl rfl (Ex.assign rfl) ?_
  refine PW.ex rfl rfl rfl rfl (Ex.assign rfl) ?_
  refine PW.nil ?_
  refine LW.nil fun aa ha => hK9 _ _ _ ?_ aa ha
  refine CW.ret fun aa ha => ?_
  refine ret_two ha Try.results56 rfl rfl ?_
  exact hS.retS

/-! ### Links -/
def toN (l : List I2) (x : Lat) (e : Edge) : Nat := if e.To < x.N then l.findIdx (fun z => decide (z = ⟨e.To, e.Word⟩)) else l.length - 1
def edAt (x : Lat) (i : Nat) : Edge := x.Edges[i]?.getD default
noncomputable def mkLink (x : Lat) (m : Mdl) (l : List I2) (nI : Nat) (z : I2) (i : Nat) : Link := ⟨nI, toN l x (edAt x i), i, (edAt x i).Cost + pairC m z.b (edAt x i).Word⟩
noncomputable def linksOf (x : Lat) (m : Mdl) (l : List I2) (nI : Nat) (z : I2) : List Link := ((List.range x.Edges.length).filter fun i => decide ((edAt x i).From = z.a)).map (mkLink x m l nI z)
noncomputable def linksTo (x : Lat) (m : Mdl) (l : List I2) (n : Nat) : List Link := (l.zipIdx.take n).flatMap fun p => linksOf x m l p.2 p.1
theorem edAt_of {x : Lat} {i : Nat} (h : i < x.Edges.length) : edAt x i = x.Edges[i] := by unfold edAt; rw [List.getElem?_eq_getElem h]; rfl
theorem linksTo_succ (x : Lat) (m : Mdl) (l : List I2) {n : Nat} (h : n < l.length) : linksTo x m l (n + 1) = linksTo x m l n ++ linksOf x m l n l[n] := by
  unfold linksTo
  rw [List.take_succ_eq_append_getElem (by rw [List.length_zipIdx]; exact h), List.flatMap_append, List.getElem_zipIdx]
  simp
theorem filter_range {n a b : Nat} (hab : a ≤ b) (hb : b ≤ n) : (List.range n).filter (fun i => decide (a ≤ i ∧ i < b)) = List.range' a (b - a) := by
  have e : List.range n = List.range' 0 a ++ (List.range' a (b - a) ++ List.range' b (n - b)) := by
    rw [List.range_eq_range']
    have h1 : List.range' a (b - a) ++ List.range' b (n - b) = List.range' a (n - a) := by
      have := List.range'_append_1 (s := a) (m := b - a) (n := n - b)
      rw [show a + (b - a) = b by omega, show b - a + (n - b) = n - a by omega] at this
      exact this
    rw [h1]
    have := List.range'_append_1 (s := 0) (m := a) (n := n - a)
    rw [Nat.zero_add, show a + (n - a) = n by omega] at this
    exact this.symm
  rw [e, List.filter_append, List.filter_append]
  rw [List.filter_eq_nil_iff.2, List.filter_eq_self.2, List.filter_eq_nil_iff.2, List.nil_append, List.append_nil]
  · intro i hi; rw [List.mem_range'_1] at hi; simp only [decide_eq_true_eq]; omega
  · intro i hi; rw [List.mem_range'_1] at hi; simp only [decide_eq_true_eq]; omega
  · intro i hi; rw [List.mem_range'_1] at hi; simp only [decide_eq_true_eq]; omega
theorem linksOf_range {x : Lat} (hx : okX x = true) (m : Mdl) (l : List I2) (nI : Nat) (z : I2) : linksOf x m l nI z = (List.range' (lo x z.a) (lo x (z.a + 1) - lo x z.a)).map (mkLink x m l nI z) := by
  unfold linksOf
  congr 1
  rw [← filter_range (lo_mono x z.a) (lo_le x (z.a + 1))]
  refine List.filter_congr fun i hi => ?_
  rw [List.mem_range] at hi
  rw [edAt_of hi]
  exact decide_eq_decide.2 (lo_from hx z.a hi)
noncomputable def graphR (x : Lat) (m : Mdl) (p : Int) : Grf := ⟨(nodesL x m.Words.length p).length, linksTo x m (nodesL x m.Words.length p) (nodesL x m.Words.length p).length⟩
noncomputable def buildR (x : Lat) (m : Mdl) (p : Int) : Built := if okM m = true then if fitsC x m.Words.length p = true then ⟨graphR x m p, (nodesL x m.Words.length p).map (·.b), 0⟩ else ⟨⟨0, []⟩, [], 1⟩ else ⟨⟨0, []⟩, [], 110⟩
end Go.Proofs.Ytgnpjhellmfhoaa

