/-
  Context: what a way costs without pairs.
-/
import Derived.Test.YtgnpjhellmfhoaaCxZ
namespace Go.Proofs.Ytgnpjhellmfhoaa
open Go.RowKit Sy

def plainM (m : Mdl) : Mdl := ⟨m.Words, m.Counts, [], 0⟩
theorem plainM_ok {m : Mdl} (h : MdlOk m) : MdlOk (plainM m) :=
  ⟨h.n1, h.n2, h.nc, h.words, h.c0, h.cs, Nat.zero_le _, List.Pairwise.nil, (fun p hp => by cases hp), (fun a => by show (0 : Int) ≤ _; decide), Int.le_refl _, by show (0 : Int) ≤ 1000; decide⟩
theorem pairC_plain (m : Mdl) (p w : Int) : pairC (plainM m) p w = wordC m w := by
  unfold pairC
  split
  · rfl
  · show 0 + wordC m w = wordC m w
    omega
/-- What the edges and the words of a way cost alone. -/
def psum (x : Lat) (m : Mdl) : List Nat → Int
  | [] => 0
  | k :: r => (edAt x k).Cost + wordC m (edAt x k).Word + psum x m r
theorem wsum_plain (x : Lat) (m : Mdl) : ∀ (es : List Nat) (p : Int), wsum x (plainM m) p es = psum x m es
  | [], _ => rfl
  | k :: r, p => by rw [wsum, psum, pairC_plain, wsum_plain x m r]
theorem psum_snoc (x : Lat) (m : Mdl) (k : Nat) : ∀ es : List Nat, psum x m (es ++ [k]) = psum x m es + ((edAt x k).Cost + wordC m (edAt x k).Word)
  | [] => by show _ + 0 = 0 + _; omega
  | e :: r => by rw [List.cons_append, psum, psum_snoc x m k r, psum]; omega
theorem psum_take {x : Lat} {m : Mdl} {es : List Nat} {j : Nat} (h : j < es.length) : psum x m (es.take (j + 1)) = psum x m (es.take j) + ((edAt x es[j]).Cost + wordC m (edAt x es[j]).Word) := by
  rw [List.take_succ_eq_append_getElem h, psum_snoc]
theorem isWay_in {x : Lat} : ∀ (es : List Nat) (a : Int), isWay x a es → ∀ k ∈ es, k < x.Edges.length
  | [], _, _, k, hk => by cases hk
  | e :: r, a, h, k, hk => by
    rcases List.mem_cons.1 hk with rfl | hk
    · exact h.1
    · exact isWay_in r _ h.2.2 k hk
theorem costR_plain {x : Lat} {m : Mdl} {p : Int} {es : List Nat} (hm : MdlOk m) (hx : okX x = true) (hw : wordsIn x m.Words.length = true) (hp : -1 ≤ p ∧ p < m.Words.length) (h : isWay x 0 es) :
    costR x (plainM m) p (es.map fun (k : Nat) => (k : Int)) = (psum x m es, true) := by
  unfold costR
  rw [if_pos (okM_yes (plainM_ok hm)), if_pos (show fitsC x (plainM m).Words.length p = true from fitsC_iff.2 ⟨hx, hp, hw⟩), costGo_way x _ es 0 p 0 h, wsum_plain, Int.zero_add]
theorem rword_p (m : Mdl) (h : MdlOk m) (v : Int) (hv0 : 0 ≤ v) (hv1 : v < m.Words.length) (a0 a1 : Option Addr) (c0 c1 : Nat) (μ : Mem) (w : World) (hμ : Imm μ w) (hm0 : Sl μ a0 c0 m.Words) (hm1 : Sl μ a1 c1 m.Counts) :
    Calls Try.prog 22 #[.agg #[.slice a0 m.Words.length c0, .slice a1 m.Counts.length c1, .slice none 0 0, .int .i64 0], .int .i64 v] w (RetS w (.int .i64 (wordC m v))) :=
  rword_c (plainM m) (plainM_ok h) v hv0 hv1 a0 a1 none c0 c1 0 μ w hμ hm0 hm1 (Sl.nil _ _ _ (by simp [maxLen]))
theorem ccost_p (x : Lat) (m : Mdl) (p : Int) (es : List Int) (S : Int) (hS : costR x (plainM m) p es = (S, true)) (hws : ∀ s ∈ m.Words, s.size ≤ 9223372036854775807) (hsm : ∀ e ∈ x.Edges, -1099511627776 ≤ e.To ∧ e.To ≤ 1099511627776) (hes : es.length ≤ 1000000)
    (a0 a1 a3 a4 : Option Addr) (c0 c1 c3 c4 : Nat) (μ : Mem) (w : World) (hμ : Imm μ w) (hxl : Sl μ a3 c3 x.Edges) (hm0 : Sl μ a0 c0 m.Words) (hm1 : Sl μ a1 c1 m.Counts) (hel : Sl μ a4 c4 es) :
    Calls Try.prog 15 #[.agg #[.int .i64 x.N, .slice a3 x.Edges.length c3], .agg #[.slice a0 m.Words.length c0, .slice a1 m.Counts.length c1, .slice none 0 0, .int .i64 0], .int .i64 p, .slice a4 es.length c4] w (RetS w (.tuple #[.int .i64 S, .bool true])) := by
  have h := ccost_c x (plainM m) p es hws hsm hes a0 a1 none a3 a4 c0 c1 0 c3 c4 μ w hμ hxl hm0 hm1 (Sl.nil _ _ _ (by simp [maxLen])) hel
  rw [hS] at h
  exact h
end Go.Proofs.Ytgnpjhellmfhoaa

