/-
  Context: the reference's ways: in plain Lean, and the walk.
-/
import Derived.Test.YtgnpjhellmfhoaaCxW
import Derived.Test.YtgnpjhellmfhoaaCxS
namespace Go.Proofs.Ytgnpjhellmfhoaa
open Go.RowKit Sy

def fitAt (x : Lat) (at_ : Int) (k : Nat) : List Nat := (List.range k).filter fun i => decide ((edAt x i).From = at_)
def pickI (l : List UInt8) (i n : Nat) : Nat := match l[i]? with | some c => c.toNat % n | none => 0
def wayGo (x : Lat) (l : List UInt8) : Nat → Nat → Int → List Nat × Bool
  | 0, _, _ => ([], true)
  | f + 1, i, at_ => if at_ < x.N then
      (if (fitAt x at_ x.Edges.length).length = 0 then ([], false) else
        (((fitAt x at_ x.Edges.length)[pickI l i (fitAt x at_ x.Edges.length).length]?.getD 0) :: (wayGo x l f (i + 1) (edAt x ((fitAt x at_ x.Edges.length)[pickI l i (fitAt x at_ x.Edges.length).length]?.getD 0)).To).1,
          (wayGo x l f (i + 1) (edAt x ((fitAt x at_ x.Edges.length)[pickI l i (fitAt x at_ x.Edges.length).length]?.getD 0)).To).2))
    else ([], true)
def wayR (x : Lat) (l : List UInt8) : List Nat × Bool := wayGo x l 40 0 0
theorem fitAt_succ (x : Lat) (a : Int) (k : Nat) : fitAt x a (k + 1) = fitAt x a k ++ if (edAt x k).From = a then [k] else [] := filter_succ x k a
theorem fitAt_mem {x : Lat} {a : Int} {k i : Nat} (h : i ∈ fitAt x a k) : i < k ∧ (edAt x i).From = a := by
  unfold fitAt at h
  rw [List.mem_filter, List.mem_range, decide_eq_true_eq] at h
  exact h
theorem fitAt_len (x : Lat) (a : Int) (k : Nat) : (fitAt x a k).length ≤ k := by unfold fitAt; exact Nat.le_trans (List.length_filter_le _ _) (by simp)
theorem pickI_lt (l : List UInt8) (i : Nat) {n : Nat} (hn : 0 < n) : pickI l i n < n := by
  unfold pickI; split
  · exact Nat.mod_lt _ hn
  · exact hn
def natV (k : Nat) : Value := .int .i64 k
theorem RepL.nats (μ : Mem) (l : List Nat) : RepL μ (l.map natV) (l.map fun (k : Nat) => (k : Int)) := by
  have := RepL.ints μ (l.map fun (k : Nat) => (k : Int))
  rw [List.map_map] at this
  exact this
def u8V (c : UInt8) : Value := .int .u8 (c.toNat : Int)
set_option maxRecDepth 100000 in
set_option maxHeartbeats 2000000 in
theorem way_m {w0 w : World} {μ : Mem} {Lr : List Own} {bL n cx : Nat} {ax : Option Addr} (x : Lat) (l : List UInt8) (hS : St w0 w μ (Own.obj bL (l.map u8V) 5 :: Own.sl ax n cx 43 4 (x.Edges.flatMap edgeL) :: Lr)) (hn : n = x.Edges.length) (hE : x.Edges.length ≤ 1000) (hll : l.length ≤ 1000000) :
    Calls Try.prog 12 #[.agg #[.int .i64 x.N, .slice ax n cx], .slice (some ⟨bL, 0, none⟩) l.length l.length] w (RetM fun v w' => ∃ ad c, v = .tuple #[.slice ad (wayR x l).1.length c, .bool (wayR x l).2] ∧
      St w0 w' μ (Own.sl ad (wayR x l).1.length c 3 1 ((wayR x l).1.map natV) :: Own.obj bL (l.map u8V) 5 :: Own.sl ax n cx 43 4 (x.Edges.flatMap edgeL) :: Lr)) := by
  subst hn
  have hcap := (hS.sl_cap 1 rfl).1
  refine calls_start 76 [.agg #[.int .i64 x.N, .slice ax x.Edges.length cx], .slice (some ⟨bL, 0, none⟩) l.length l.length] Try.func12 rfl Try.ntmps12 rfl rfl ?_
  refine CW.seq fun K1 hK1 => ?_
  refine CW.region [0, 1, 2] rfl ?_
  refine LW.hv rfl rfl rfl rfl (Hv.boxS hS rfl rfl) fun v w2 ⟨b2, hv, hb2, hS⟩ => ?_
  subst hv
  refine LW.ex rfl rfl rfl rfl (Ex.assign rfl) hS.rd ?_
  refine LW.ex rfl rfl rfl rfl (Ex.assign rfl) hS.rd ?_
  refine LW.nil fun aa ha => hK1 _ _ _ ?_ aa ha
  refine CW.seq fun K2 hK2 => ?_
  refine CW.region [0, 1, 2] rfl ?_
  refine LW.hv rfl rfl rfl rfl (Hv.buildSl hS Try.underlying31 ti3 rfl rfl rfl rfl rfl rfl) fun v w12 ⟨b12, hv, hb12, hS⟩ => ?_
  subst hv
  refine LW.ex rfl rfl rfl rfl (Ex.assign rfl) hS.rd ?_
  refine LW.ex rfl rfl rfl rfl (Ex.assign rfl) hS.rd ?_
  refine LW.nil fun aa ha => hK2 _ _ _ ?_ aa ha
  refine CW.seq fun K3 hK3 => ?_
  refine CW.seq fun K4 hK4 => ?_
  refine CW.region [0] rfl ?_
  refine LW.ex rfl rfl rfl rfl (Ex.assign rfl) hS.rd ?_
  refine LW.nil fun aa ha => hK4 _ _ _ ?_ aa ha
  refine CW.block ?_
  have hS : St w0 _ μ (_ :: _) := hS.row_sl (k := 0) rfl 0 1 rfl (by simp [maxLen])
  refine CW.loop (fun qq frm wl3 => ∃ (i : Nat) (at_ : Int) (ad : Option Addr) (c : Nat) (out : List Nat), i ≤ 40 ∧ out.length = i ∧ qq = 40 - i ∧ frm = [(1, .slice (some ⟨bL, 0, none⟩) l.length l.length), (2, .pointer (some ⟨b2, 0, none⟩)), (6, .int .i64 at_), (7, .slice ad i c), (8, .int .i64 i)] ∧ St w0 wl3 μ (Own.sl ad i c 3 1 (out.map natV) :: Own.obj b2 [.int .i64 x.N, .slice ax x.Edges.length cx] 38 :: Own.obj bL (l.map u8V) 5 :: Own.sl ax x.Edges.length cx 43 4 (x.Edges.flatMap edgeL) :: Lr) ∧ (wayR x l = (out ++ (wayGo x l (40 - i) i at_).1, (wayGo x l (40 - i) i at_).2))) _ ⟨0, 0, some ⟨b12, 0, none⟩, 0, [], (by first | omega | (simp; done) | (simp; omega)), (by first | omega | (simp; done) | (simp; omega)), rfl, rfl, hS, rfl⟩ ⟨rfl, rfl, rfl, rfl, rfl, trivial⟩ ?_
  clear hS
  rintro qq frm wl3 ⟨i, at_, ad, c, out, hi, hoi, hq, rfl, hS, he⟩
  refine CW.seq fun K5 hK5 => ?_
  refine CW.seq fun K6 hK6 => ?_
  refine CW.region [0, 1, 2, 3, 4, 5, 6, 7] rfl ?_
  refine LW.ex rfl rfl rfl rfl (Ex.move rfl) hS.rd ?_
  refine LW.ex rfl rfl rfl rfl (Ex.lss rfl rfl rfl) hS.rd ?_
  refine LW.splitB (fun h3_1 => ?_) (fun h3_1 => ?_)
  · have h3_1 := of_decide_eq_true h3_1
    refine LW.ex rfl rfl rfl rfl (Ex.move rfl) hS.rd ?_
    refine LW.ex rfl rfl rfl rfl (Ex.move rfl) hS.rd ?_
    refine LW.ex rfl rfl rfl rfl (Ex.fieldO 0 Try.underlying38 rfl rfl ti3 rfl) hS.rd ?_
    refine LW.ex rfl rfl rfl rfl (Ex.load1 ti3 rfl rfl (by first | exact obT rfl | exact Rd.imm ‹_› | exact slT ‹_›)) hS.rd ?_
    refine LW.ex rfl rfl rfl rfl (Ex.lss rfl rfl rfl) hS.rd ?_
    refine LW.splitB (fun h3_6 => ?_) (fun h3_6 => ?_)
    · have h3_6 := of_decide_eq_true h3_6
      refine LW.ex rfl rfl rfl rfl (by first | exact Ex.pick_yes rfl rfl | exact Ex.pick_no rfl rfl) hS.rd ?_
      refine LW.nil fun aa ha => hK6 _ _ _ ?_ aa ha
      refine CW.yes rfl ?_
      refine CW.skip fun aa ha => hK5 _ _ _ ?_ aa ha
      refine CW.seq fun K7 hK7 => ?_
      refine CW.block ?_
      refine CW.seq fun K8 hK8 => ?_
      obtain ⟨f, hf⟩ : ∃ f, 40 - i = f + 1 := ⟨40 - i - 1, by omega⟩
      rw [hf, wayGo, if_pos (by omega)] at he
      refine CW.region [0, 1] rfl ?_
      refine LW.hv rfl rfl rfl rfl (Hv.buildSl hS Try.underlying31 ti3 rfl rfl rfl rfl rfl rfl) fun v w23 ⟨b23, hv, hb23, hS⟩ => ?_
      subst hv
      refine LW.ex rfl rfl rfl rfl (Ex.assign rfl) hS.rd ?_
      refine LW.nil fun aa ha => hK8 _ _ _ ?_ aa ha
      refine CW.seq fun K9 hK9 => ?_
      refine CW.seq fun K10 hK10 => ?_
      refine CW.region [0] rfl ?_
      refine LW.ex rfl rfl rfl rfl (Ex.assign rfl) hS.rd ?_
      refine LW.nil fun aa ha => hK10 _ _ _ ?_ aa ha
      refine CW.block ?_
      have hS : St w0 _ μ (_ :: _) := hS.row_sl (k := 0) rfl 0 1 rfl (by simp [maxLen])
      refine CW.loop (fun qq frm wl7 => ∃ (k : Nat) (ad9 : Option Addr) (c9 : Nat) (n9 : Nat) (fs : List Nat), k ≤ x.Edges.length ∧ n9 = fs.length ∧ n9 ≤ k ∧ qq = x.Edges.length - k ∧ frm = [(1, .slice (some ⟨bL, 0, none⟩) l.length l.length), (2, .pointer (some ⟨b2, 0, none⟩)), (6, .int .i64 at_), (7, .slice ad i c), (8, .int .i64 i), (9, .slice ad9 n9 c9), (10, .int .i64 k)] ∧ St w0 wl7 μ (Own.sl ad9 n9 c9 3 1 (fs.map natV) :: Own.sl ad i c 3 1 (out.map natV) :: Own.obj b2 [.int .i64 x.N, .slice ax x.Edges.length cx] 38 :: Own.obj bL (l.map u8V) 5 :: Own.sl ax x.Edges.length cx 43 4 (x.Edges.flatMap edgeL) :: Lr) ∧ (fs = fitAt x at_ k)) _ ⟨0, some ⟨b23, 0, none⟩, 0, 0, [], (by first | omega | (simp; done) | (simp; omega)), (by first | omega | (simp; done) | (simp; omega)), (by first | omega | (simp; done) | (simp; omega)), rfl, rfl, hS, rfl⟩ ⟨rfl, rfl, rfl, rfl, rfl, rfl, rfl, trivial⟩ ?_
      clear hS
      rintro qq frm wl7 ⟨k, ad9, c9, n9, fs, hk, hn9, hn9b, hq, rfl, hS, hfs⟩
      refine CW.seq fun K11 hK11 => ?_
      refine CW.seq fun K12 hK12 => ?_
      refine CW.region [0, 1, 2, 3, 4] rfl ?_
      refine LW.ex rfl rfl rfl rfl (Ex.move rfl) hS.rd ?_
      refine LW.ex rfl rfl rfl rfl (Ex.fieldO 1 Try.underlying38 rfl rfl ti36 rfl) hS.rd ?_
      refine LW.ex rfl rfl rfl rfl (Ex.load1 ti36 rfl rfl (by first | exact obT rfl | exact Rd.imm ‹_› | exact slT ‹_›)) hS.rd ?_
      refine LW.ex rfl rfl rfl rfl (Ex.lenSl rfl Try.underlying36 rfl) hS.rd ?_
      refine LW.ex rfl rfl rfl rfl (Ex.lss rfl rfl rfl) hS.rd ?_
      refine LW.splitB (fun h7_4 => ?_) (fun h7_4 => ?_)
      · have h7_4 := of_decide_eq_true h7_4
        refine LW.nil fun aa ha => hK12 _ _ _ ?_ aa ha
        refine CW.yes rfl ?_
        refine CW.skip fun aa ha => hK11 _ _ _ ?_ aa ha
        refine CW.seq fun K13 hK13 => ?_
        refine CW.block ?_
        refine CW.seq fun K14 hK14 => ?_
        have hk2 : k < x.Edges.length := by omega
        have hsc := fitAt_succ x at_ k
        rw [edAt_of hk2] at hsc
        obtain ⟨gx, rfl⟩ := hS.sl_some 4 rfl (by omega)
        have f0 := flat2 edgeL_len x.Edges k 0 hk2 (by omega) (v := .int .i64 x.Edges[k].From) rfl
        refine CW.region [0, 1, 2, 3, 4, 5, 6, 7] rfl ?_
        refine LW.ex rfl rfl rfl rfl (Ex.fieldO 1 Try.underlying38 rfl rfl ti36 rfl) hS.rd ?_
        refine LW.ex rfl rfl rfl rfl (Ex.load1 ti36 rfl rfl (by first | exact obT rfl | exact Rd.imm ‹_› | exact slT ‹_›)) hS.rd ?_
        refine LW.ex rfl rfl rfl rfl (Ex.move rfl) hS.rd ?_
        refine LW.ex rfl rfl rfl rfl (Ex.indexSl Try.underlying36 ti43 rfl rfl rfl (by omega)) hS.rd ?_
        refine LW.ex rfl rfl rfl rfl (Ex.fieldO 0 Try.underlying43 rfl rfl ti3 rfl) hS.rd ?_
        refine LW.ex rfl rfl rfl rfl (Ex.load1 ti3 rfl rfl (slT (v := .int .i64 x.Edges[k].From) (by rw [Nat.zero_add]; exact f0))) hS.rd ?_
        refine LW.ex rfl rfl rfl rfl (Ex.move rfl) hS.rd ?_
        refine LW.ex rfl rfl rfl rfl (Ex.eql rfl rfl rfl) hS.rd ?_
        refine LW.splitB (fun h9_7 => ?_) (fun h9_7 => ?_)
        · have h9_7 := of_decide_eq_true h9_7
          rw [if_pos (by omega)] at hsc
          refine LW.nil fun aa ha => hK14 _ _ _ ?_ aa ha
          refine CW.yes rfl ?_
          refine CW.region [0, 1, 2, 3, 4] rfl ?_
          refine LW.ex rfl rfl rfl rfl (Ex.move rfl) hS.rd ?_
          refine LW.ex rfl rfl rfl rfl (Ex.move rfl) hS.rd ?_
          refine LW.hv rfl rfl rfl rfl (Hv.buildSl hS Try.underlying31 ti3 rfl rfl rfl rfl rfl rfl) fun v w41 ⟨b41, hv, hb41, hS⟩ => ?_
          subst hv
          refine LW.hv rfl rfl rfl rfl (Hv.append (k := 1) rfl Try.underlying31 ti3 rfl hS rfl rfl rfl rfl (Rd.objAll (k := 0) rfl hS.rd) (by simp [Value.oneCell']) (by unfold maxLen; omega) (by omega)) fun v w42 ⟨ad42, c42, hv, hS⟩ => ?_
          subst hv
          dsimp only [List.set] at hS
          have hS := hS.drop 0 rfl
          dsimp only [List.eraseIdx] at hS
          rw [show fs.map natV ++ [Value.int .i64 k] = (fs ++ [k]).map natV by rw [List.map_append]; rfl] at hS
          refine LW.ex rfl rfl rfl rfl (Ex.assign rfl) hS.rd ?_
          refine LW.nil fun aa ha => hK13 _ _ _ ?_ aa ha
          refine CW.region [0, 1, 2] rfl ?_
          refine LW.ex rfl rfl rfl rfl (Ex.move rfl) hS.rd ?_
          refine LW.ex rfl rfl rfl rfl (Ex.add rfl rfl (by first | exact inc64 (by omega) | exact addN (by omega) | exact w64 (by omega) (by omega))) hS.rd ?_
          refine LW.ex rfl rfl rfl rfl (Ex.assign rfl) hS.rd ?_
          refine LW.nil fun aa ha => ?_
          refine ⟨_, _, ?m7, ⟨k + 1, ad42, c42, n9 + 1, fs ++ [k], (by first | omega | (simp; done) | (simp; omega)), (by first | omega | (simp; done) | (simp; omega)), (by first | omega | (simp; done) | (simp; omega)), rfl, rfl, hS, by rw [hsc, hfs]⟩, ha.sub ⟨rfl, rfl, rfl, rfl, rfl, rfl, rfl, trivial⟩⟩
          case m7 => omega
        · have h9_7 := of_decide_eq_false h9_7
          rw [if_neg (by omega)] at hsc
          refine LW.nil fun aa ha => hK14 _ _ _ ?_ aa ha
          refine CW.no rfl ?_
          refine CW.skip fun aa ha => hK13 _ _ _ ?_ aa ha
          refine CW.region [0, 1, 2] rfl ?_
          refine LW.ex rfl rfl rfl rfl (Ex.move rfl) hS.rd ?_
          refine LW.ex rfl rfl rfl rfl (Ex.add rfl rfl (by first | exact inc64 (by omega) | exact addN (by omega) | exact w64 (by omega) (by omega))) hS.rd ?_
          refine LW.ex rfl rfl rfl rfl (Ex.assign rfl) hS.rd ?_
          refine LW.nil fun aa ha => ?_
          refine ⟨_, _, ?m7, ⟨k + 1, ad9, c9, n9, fs, (by first | omega | (simp; done) | (simp; omega)), (by first | omega | (simp; done) | (simp; omega)), (by first | omega | (simp; done) | (simp; omega)), rfl, rfl, hS, by rw [hsc, hfs, List.append_nil]⟩, ha.sub ⟨rfl, rfl, rfl, rfl, rfl, rfl, rfl, trivial⟩⟩
          case m7 => omega
      · have h7_4 := of_decide_eq_false h7_4
        refine LW.nil fun aa ha => hK12 _ _ _ ?_ aa ha
        refine CW.no rfl ?_
        refine CW.exit fun aa ha => hK9 _ _ _ ?_ aa ha
        refine CW.seq fun K15 hK15 => ?_
        refine CW.seq fun K16 hK16 => ?_
        have hke : k = x.Edges.length := by omega
        rw [hke] at hfs
        rw [← hfs] at he
        refine CW.region [0, 1, 2] rfl ?_
        refine LW.ex rfl rfl rfl rfl (Ex.move rfl) hS.rd ?_
        refine LW.ex rfl rfl rfl rfl (Ex.lenSl rfl Try.underlying31 rfl) hS.rd ?_
        refine LW.ex rfl rfl rfl rfl (Ex.eql rfl rfl rfl) hS.rd ?_
        refine LW.splitB (fun h11_2 => ?_) (fun h11_2 => ?_)
        · have h11_2 := of_decide_eq_true h11_2
          refine LW.nil fun aa ha => hK16 _ _ _ ?_ aa ha
          refine CW.yes rfl ?_
          refine CW.seq fun K17 hK17 => ?_
          refine CW.region [0, 1, 2] rfl ?_
          refine LW.ex rfl rfl rfl rfl (Ex.move rfl) hS.rd ?_
          refine LW.ex rfl rfl rfl rfl (Ex.assign rfl) hS.rd ?_
          refine LW.ex rfl rfl rfl rfl (Ex.assign rfl) hS.rd ?_
          refine LW.nil fun aa ha => hK17 _ _ _ ?_ aa ha
          refine CW.ret fun aa ha => ?_
          refine ret_two ha Try.results12 rfl rfl ?_
          rw [if_pos (by omega)] at he
          have e : wayR x l = (out, false) := by rw [he]; simp
          have hS := (hS.drop 0 rfl).drop 1 rfl
          dsimp only [List.eraseIdx] at hS
          rw [e]; refine ⟨_, rfl, ad, c, by simp only [hoi], ?_⟩
          simp only [hoi]; exact hS
        · have h11_2 := of_decide_eq_false h11_2
          refine LW.nil fun aa ha => hK16 _ _ _ ?_ aa ha
          refine CW.no rfl ?_
          refine CW.skip fun aa ha => hK15 _ _ _ ?_ aa ha
          refine CW.seq fun K18 hK18 => ?_
          refine CW.region [0] rfl ?_
          refine LW.ex rfl rfl rfl rfl (Ex.assign rfl) hS.rd ?_
          refine LW.nil fun aa ha => hK18 _ _ _ ?_ aa ha
          refine CW.seq fun K19 hK19 => ?_
          rw [if_neg (by omega)] at he
          have hpl := pickI_lt l i (n := fs.length) (by omega)
          obtain ⟨j, hj⟩ : ∃ j, j = pickI l i fs.length := ⟨_, rfl⟩
          rw [← hj] at hpl he
          rw [List.getElem?_eq_getElem hpl] at he
          simp only [Option.getD_some] at he
          have hfm := fitAt_mem (x := x) (a := at_) (k := x.Edges.length) (i := fs[j]) (by rw [← hfs]; exact List.getElem_mem hpl)
          obtain ⟨hfm1, hfm2⟩ := hfm
          rw [edAt_of hfm1] at he
          obtain ⟨g9, rfl⟩ := hS.sl_some 0 rfl (by omega)
          have hg0 : (fs.map natV)[j]? = some (natV fs[j]) := by rw [List.getElem?_map, List.getElem?_eq_getElem hpl]; rfl
          obtain ⟨e, hee⟩ : ∃ e, e = fs[j] := ⟨_, rfl⟩
          rw [← hee] at hg0
          have hJ14 : ∀ (wj : World) , St w0 wj μ (Own.sl (some ⟨g9, 0, none⟩) n9 c9 3 1 (fs.map natV) :: Own.sl ad i c 3 1 (out.map natV) :: Own.obj b2 [.int .i64 x.N, .slice ax x.Edges.length cx] 38 :: Own.obj bL (l.map u8V) 5 :: Own.sl ax x.Edges.length cx 43 4 (x.Edges.flatMap edgeL) :: Lr) → KW K19 76 [(1, .slice (some ⟨bL, 0, none⟩) l.length l.length), (2, .pointer (some ⟨b2, 0, none⟩)), (7, .slice ad i c), (8, .int .i64 i), (9, .slice (some ⟨g9, 0, none⟩) n9 c9), (11, .int .i64 j)] wj := by
            intro wj  hS 
            refine hK19 _ _ _ ?_
            refine CW.seq fun K20 hK20 => ?_
            refine CW.region [0, 1, 2, 3, 4, 5, 6, 7] rfl ?_
            refine LW.ex rfl rfl rfl rfl (Ex.move rfl) hS.rd ?_
            refine LW.ex rfl rfl rfl rfl (Ex.move rfl) hS.rd ?_
            refine LW.ex rfl rfl rfl rfl (Ex.move rfl) hS.rd ?_
            refine LW.ex rfl rfl rfl rfl (Ex.indexSl Try.underlying31 ti3 rfl rfl rfl (by omega)) hS.rd ?_
            refine LW.ex rfl rfl rfl rfl (Ex.load1 ti3 rfl rfl (slT (v := Value.int .i64 (e : Int)) (by rw [Nat.zero_add, Nat.mul_one]; exact hg0))) hS.rd ?_
            refine LW.hv rfl rfl rfl rfl (Hv.buildSl hS Try.underlying31 ti3 rfl rfl rfl rfl rfl rfl) fun v w64 ⟨b64, hv, hb64, hS⟩ => ?_
            subst hv
            refine LW.hv rfl rfl rfl rfl (Hv.append (k := 2) rfl Try.underlying31 ti3 rfl hS rfl rfl rfl rfl (Rd.objAll (k := 0) rfl hS.rd) (by simp [Value.oneCell']) (by unfold maxLen; omega) (by omega)) fun v w65 ⟨ad65, c65, hv, hS⟩ => ?_
            subst hv
            dsimp only [List.set] at hS
            have hS := hS.drop 0 rfl
            dsimp only [List.eraseIdx] at hS
            rw [show out.map natV ++ [Value.int .i64 e] = (out ++ [e]).map natV by rw [List.map_append]; rfl] at hS
            refine LW.ex rfl rfl rfl rfl (Ex.assign rfl) hS.rd ?_
            refine LW.nil fun aa ha => hK20 _ _ _ ?_ aa ha
            have he2 : e < x.Edges.length := by rw [hee]; exact hfm1
            obtain ⟨gx, rfl⟩ := hS.sl_some 4 rfl (by omega)
            have f1 := flat2 edgeL_len x.Edges e 1 he2 (by omega) (v := .int .i64 x.Edges[e].To) rfl
            have hS := hS.drew
            refine CW.draw 10 (.ex 0 <| .ex 1 <| .ex 2 <| .ex 3 <| .ex 4 <| .ex 5 <| .ex 6 <| .ex 7 <| .ex 8 <| .ex 9 <| .done) [] (Rd _ _) mixed (by kernel_rfl) rfl rfl hS.rd ?_
            refine PW.ex rfl rfl rfl rfl (Ex.fieldO 1 Try.underlying38 rfl rfl ti36 rfl) ?_
            refine PW.ex rfl rfl rfl rfl (Ex.load1 ti36 rfl rfl (by first | exact obT rfl | exact Rd.imm ‹_› | exact slT ‹_›)) ?_
            refine PW.ex rfl rfl rfl rfl (Ex.move rfl) ?_
            refine PW.ex rfl rfl rfl rfl (Ex.move rfl) ?_
            refine PW.ex rfl rfl rfl rfl (Ex.indexSl Try.underlying31 ti3 rfl rfl rfl (by omega)) ?_
            refine PW.ex rfl rfl rfl rfl (Ex.load1 ti3 rfl rfl (slT (v := Value.int .i64 (e : Int)) (by rw [Nat.zero_add, Nat.mul_one]; exact hg0))) ?_
            refine PW.ex rfl rfl rfl rfl (Ex.indexSl Try.underlying36 ti43 rfl rfl rfl (by omega)) ?_
            refine PW.ex rfl rfl rfl rfl (Ex.fieldO 1 Try.underlying43 rfl rfl ti3 rfl) ?_
            refine PW.ex rfl rfl rfl rfl (Ex.load1 ti3 rfl rfl (slT (v := .int .i64 x.Edges[e].To) (by rw [Nat.zero_add]; exact f1))) ?_
            refine PW.ex rfl rfl rfl rfl (Ex.assign rfl) ?_
            refine PW.nil ?_
            refine LW.nil fun aa ha => hK7 _ _ _ ?_ aa ha
            refine CW.region [0, 1, 2] rfl ?_
            refine LW.ex rfl rfl rfl rfl (Ex.move rfl) hS.rd ?_
            refine LW.ex rfl rfl rfl rfl (Ex.add rfl rfl (by first | exact inc64 (by omega) | exact addN (by omega) | exact w64 (by omega) (by omega))) hS.rd ?_
            refine LW.ex rfl rfl rfl rfl (Ex.assign rfl) hS.rd ?_
            refine LW.nil fun aa ha => ?_
            have hS := hS.drop 0 rfl
            dsimp only [List.eraseIdx] at hS
            refine ⟨_, _, ?m3, ⟨i + 1, x.Edges[e].To, ad65, c65, out ++ [e], (by first | omega | (simp; done) | (simp; omega)), (by first | omega | (simp; done) | (simp; omega)), rfl, rfl, hS, by rw [he, show 40 - (i + 1) = f by omega]; subst hee; simp⟩, ha.sub ⟨rfl, rfl, rfl, rfl, rfl, trivial⟩⟩
            case m3 => omega
          refine CW.seq fun K21 hK21 => ?_
          refine CW.region [0, 1, 2, 3] rfl ?_
          refine LW.ex rfl rfl rfl rfl (Ex.move rfl) hS.rd ?_
          refine LW.ex rfl rfl rfl rfl (Ex.move rfl) hS.rd ?_
          refine LW.ex rfl rfl rfl rfl (Ex.lenSl rfl Try.underlying24 rfl) hS.rd ?_
          refine LW.ex rfl rfl rfl rfl (Ex.lss rfl rfl rfl) hS.rd ?_
          refine LW.splitB (fun h14_3 => ?_) (fun h14_3 => ?_)
          · have h14_3 := of_decide_eq_true h14_3
            refine LW.nil fun aa ha => hK21 _ _ _ ?_ aa ha
            refine CW.yes rfl ?_
            have hil : i < l.length := by omega
            have hu := l[i].toNat_lt
            have hl0 : (l.map u8V)[i]? = some (Value.int .u8 l[i].toNat) := by rw [List.getElem?_map, List.getElem?_eq_getElem hil]; rfl
            have hjv : j = l[i].toNat % n9 := by rw [hj, hn9]; unfold pickI; rw [List.getElem?_eq_getElem hil]
            refine CW.region [0, 1, 2, 3, 4, 5, 6, 7, 8] rfl ?_
            refine LW.ex rfl rfl rfl rfl (Ex.move rfl) hS.rd ?_
            refine LW.ex rfl rfl rfl rfl (Ex.move rfl) hS.rd ?_
            refine LW.ex rfl rfl rfl rfl (Ex.indexSl Try.underlying24 ti5 rfl rfl rfl (by omega)) hS.rd ?_
            refine LW.ex rfl rfl rfl rfl (Ex.load1 ti5 rfl rfl (obT (v := .int .u8 l[i].toNat) (by rw [Nat.zero_add, Nat.mul_one]; exact hl0))) hS.rd ?_
            refine LW.ex rfl rfl rfl rfl (Ex.conv Try.underlying5 Try.underlying3 rfl (by first | exact w64 (by omega) (by omega) | exact wu8 (by omega) (by omega))) hS.rd ?_
            refine LW.ex rfl rfl rfl rfl (Ex.move rfl) hS.rd ?_
            refine LW.ex rfl rfl rfl rfl (Ex.lenSl rfl Try.underlying31 rfl) hS.rd ?_
            refine LW.ex rfl rfl rfl rfl (Ex.rem (r := (j : Int)) rfl rfl (by omega) (by rw [hjv]; exact remN _ _)) hS.rd ?_
            refine LW.ex rfl rfl rfl rfl (Ex.assign rfl) hS.rd ?_
            refine LW.nil fun aa ha => ?_
            refine hJ14 _  hS  aa (ha.sub ⟨rfl, rfl, rfl, rfl, rfl, rfl, trivial⟩)
          · have h14_3 := of_decide_eq_false h14_3
            refine LW.nil fun aa ha => hK21 _ _ _ ?_ aa ha
            refine CW.no rfl ?_
            refine CW.skip fun aa ha => ?_
            have hjv : j = 0 := by rw [hj]; unfold pickI; rw [List.getElem?_eq_none (by omega)]
            rw [show (0 : Int) = (j : Int) by omega] at ha
            refine hJ14 _  hS  aa (ha.sub ⟨rfl, rfl, rfl, rfl, rfl, rfl, trivial⟩)
    · have h3_6 := of_decide_eq_false h3_6
      refine LW.ex rfl rfl rfl rfl (by first | exact Ex.pick_yes rfl rfl | exact Ex.pick_no rfl rfl) hS.rd ?_
      refine LW.nil fun aa ha => hK6 _ _ _ ?_ aa ha
      refine CW.no rfl ?_
      refine CW.exit fun aa ha => hK3 _ _ _ ?_ aa ha
      refine CW.seq fun K22 hK22 => ?_
      refine CW.region [0, 1, 2] rfl ?_
      refine LW.ex rfl rfl rfl rfl (Ex.move rfl) hS.rd ?_
      refine LW.ex rfl rfl rfl rfl (Ex.assign rfl) hS.rd ?_
      refine LW.ex rfl rfl rfl rfl (Ex.assign rfl) hS.rd ?_
      refine LW.nil fun aa ha => hK22 _ _ _ ?_ aa ha
      refine CW.ret fun aa ha => ?_
      refine ret_two ha Try.results12 rfl rfl ?_
      have e : wayR x l = (out, true) := by rw [he]; cases h40 : 40 - i <;> simp [wayGo] <;> (try (rw [if_neg (by omega)])) <;> simp
      have hS := hS.drop 1 rfl
      dsimp only [List.eraseIdx] at hS
      rw [e]; refine ⟨_, rfl, ad, c, by simp only [hoi], ?_⟩
      simp only [hoi]; exact hS
  · have h3_1 := of_decide_eq_false h3_1
    refine LW.ex rfl rfl rfl rfl (Ex.move rfl) hS.rd ?_
    refine LW.skip rfl rfl rfl rfl ?_
    refine LW.skip rfl rfl rfl rfl ?_
    refine LW.skip rfl rfl rfl rfl ?_
    refine LW.skip rfl rfl rfl rfl ?_
    refine LW.ex rfl rfl rfl rfl (by first | exact Ex.pick_yes rfl rfl | exact Ex.pick_no rfl rfl) hS.rd ?_
    refine LW.nil fun aa ha => hK6 _ _ _ ?_ aa ha
    refine CW.no rfl ?_
    refine CW.exit fun aa ha => hK3 _ _ _ ?_ aa ha
    refine CW.seq fun K23 hK23 => ?_
    refine CW.region [0, 1, 2] rfl ?_
    refine LW.ex rfl rfl rfl rfl (Ex.move rfl) hS.rd ?_
    refine LW.ex rfl rfl rfl rfl (Ex.assign rfl) hS.rd ?_
    refine LW.ex rfl rfl rfl rfl (Ex.assign rfl) hS.rd ?_
    refine LW.nil fun aa ha => hK23 _ _ _ ?_ aa ha
    refine CW.ret fun aa ha => ?_
    refine ret_two ha Try.results12 rfl rfl ?_
    have e : wayR x l = (out, true) := by rw [he, show 40 - i = 0 by omega]; simp [wayGo]
    have hS := hS.drop 1 rfl
    dsimp only [List.eraseIdx] at hS
    rw [e]; refine ⟨_, rfl, ad, c, by simp only [hoi], ?_⟩
    simp only [hoi]; exact hS

/-! ### A way of a lattice -/
def isWay (x : Lat) : Int → List Nat → Prop
  | at_, [] => at_ = x.N
  | at_, k :: r => k < x.Edges.length ∧ (edAt x k).From = at_ ∧ isWay x (edAt x k).To r
theorem way_ok {x : Lat} (hx : okX x = true) (hc : ∀ p : Nat, (p : Int) < x.N → ∃ e ∈ x.Edges, e.From = p) (l : List UInt8) : ∀ (f i : Nat) (at_ : Int), 0 ≤ at_ → at_ ≤ x.N → x.N ≤ at_ + f → (wayGo x l f i at_).2 = true ∧ isWay x at_ (wayGo x l f i at_).1 ∧ (wayGo x l f i at_).1.length ≤ f
  | 0, i, at_, h0, h1, h2 => ⟨rfl, show at_ = x.N by omega, Nat.le_refl _⟩
  | f + 1, i, at_, h0, h1, h2 => by
    rw [wayGo]
    by_cases h3 : at_ < x.N
    · obtain ⟨p, rfl⟩ : ∃ p : Nat, at_ = p := ⟨at_.toNat, by omega⟩
      obtain ⟨e, he, hep⟩ := hc p h3
      obtain ⟨k, hk, rfl⟩ := List.getElem_of_mem he
      have hmem : k ∈ fitAt x p x.Edges.length := by
        unfold fitAt
        rw [List.mem_filter, List.mem_range, decide_eq_true_eq, edAt_of hk]
        exact ⟨hk, hep⟩
      have hpos : 0 < (fitAt x p x.Edges.length).length := List.length_pos_of_mem hmem
      rw [if_pos h3, if_neg (by omega)]
      have hpl := pickI_lt l i hpos
      rw [List.getElem?_eq_getElem hpl]
      simp only [Option.getD_some]
      obtain ⟨j, hj⟩ : ∃ j, j = (fitAt x p x.Edges.length)[pickI l i (fitAt x p x.Edges.length).length] := ⟨_, rfl⟩
      have hjm := fitAt_mem (x := x) (a := p) (k := x.Edges.length) (i := j) (by rw [hj]; exact List.getElem_mem hpl)
      rw [← hj]
      obtain ⟨_, hed, _⟩ := okX_edges hx
      have hej := hed _ (List.getElem_mem hjm.1)
      have hjf := hjm.2
      rw [← edAt_of hjm.1] at hej
      have ih := way_ok hx hc l f (i + 1) (edAt x j).To (by omega) (by omega) (by omega)
      refine ⟨ih.1, ⟨hjm.1, hjf, ih.2.1⟩, by simp only [List.length_cons]; omega⟩
    · rw [if_neg h3]
      exact ⟨rfl, show at_ = x.N by omega, Nat.zero_le _⟩
/-- What a way costs. -/
def wsum (x : Lat) (m : Mdl) : Int → List Nat → Int
  | _, [] => 0
  | p, k :: r => (edAt x k).Cost + pairC m p (edAt x k).Word + wsum x m (edAt x k).Word r
theorem costGo_way (x : Lat) (m : Mdl) : ∀ (es : List Nat) (at_ p s : Int), isWay x at_ es → costGo x m at_ p s (es.map fun (k : Nat) => (k : Int)) = (s + wsum x m p es, true)
  | [], at_, p, s, h => by
    have h' : at_ = x.N := h
    simp only [List.map_nil, costGo, if_pos h', wsum, Int.add_zero]
  | k :: r, at_, p, s, h => by
    obtain ⟨h1, h2, h3⟩ := h
    simp only [List.map_cons, costGo, Int.toNat_natCast]
    rw [if_pos ⟨by omega, by omega, h2⟩, costGo_way x m r _ _ _ h3, wsum]
    congr 1
    omega
end Go.Proofs.Ytgnpjhellmfhoaa

