/-
  Areas: the walk of AreaAdapts.
-/
import Derived.Test.YtphgjongflkolaaArV8
namespace Go.Proofs.Ytphgjongflkolaa
open Go.RowKit Sy Go.Sort

/-- How many touches are remembered. -/
def nOf : Nat → Nat
  | 0 => 0
  | i + 1 => if nOf i + 1 = 64 then 32 else nOf i + 1
theorem nOf_le : ∀ i, nOf i ≤ 63
  | 0 => by simp [nOf]
  | i + 1 => by have := nOf_le i; rw [nOf]; split <;> omega
theorem nOf_ge : ∀ i, min i 32 ≤ nOf i
  | 0 => by simp
  | i + 1 => by have := nOf_ge i; rw [nOf]; split <;> omega
def tapsN (key : UInt8) (dx dy : Int) (n : Nat) : List Tap := if n = 0 then [] else [⟨key, n * dx, n * dy, n⟩]
theorem tapsN_last (key : UInt8) (dx dy : Int) (n : Nat) : lastTap key (tapsN key dx dy n) = ⟨key, n * dx, n * dy, n⟩ := by
  unfold tapsN
  split
  · rename_i h; subst h; simp [lastTap]
  · simp [lastTap]
theorem tapsN_put (key : UInt8) (dx dy : Int) (n : Nat) (t : Tap) : putTap key t (tapsN key dx dy n) = [t] := by
  unfold tapsN
  split
  · rfl
  · simp [putTap, putFold, putStep]
theorem tapsN_next (key : UInt8) (dx dy : Int) (i : Nat) : tapNextR ⟨key, nOf i * dx, nOf i * dy, nOf i⟩ dx dy = ⟨key, nOf (i + 1) * dx, nOf (i + 1) * dy, nOf (i + 1)⟩ := by
  have h1 : ∀ z : Int, (nOf i : Int) * z + z = ((nOf i + 1 : Nat) : Int) * z := fun z => by
    rw [show ((nOf i + 1 : Nat) : Int) = (nOf i : Int) + 1 by omega, Int.add_mul, Int.one_mul]
  unfold tapNextR
  simp only [h1]
  rw [nOf]
  by_cases h : nOf i + 1 = 64
  · rw [if_pos (by omega), if_pos h, h]
    have h2 : ∀ z : Int, (((64 : Nat) : Int) * z).tdiv 2 = ((32 : Nat) : Int) * z := fun z => by
      rw [show ((64 : Nat) : Int) * z = (((32 : Nat) : Int) * z) * 2 by omega, Int.mul_tdiv_cancel _ (by decide)]
    rw [h2, h2]; rfl
  · rw [if_neg (by omega), if_neg h]; rfl
theorem mul_in {n z : Int} (h1 : 0 ≤ n) (h2 : n ≤ 63) (h3 : -40 ≤ z) (h4 : z ≤ 40) : -2520 ≤ n * z ∧ n * z ≤ 2520 := by
  have a := Int.mul_le_mul_of_nonneg_left h4 h1
  have b := Int.mul_le_mul_of_nonneg_left h3 h1
  omega
theorem tapsN_F {key : UInt8} {dx dy : Int} (hk : isLet key = true) (h1 : -40 ≤ dx ∧ dx ≤ 40) (h2 : -40 ≤ dy ∧ dy ≤ 40) (i : Nat) : ∀ t ∈ tapsN key dx dy (nOf i), TapF t ∧ isLet t.Key = true := fun t ht => by
  unfold tapsN at ht
  split at ht
  · cases ht
  · rw [List.mem_singleton] at ht
    subst ht
    have hn := nOf_le i
    have a := mul_in (n := nOf i) (z := dx) (by omega) (by omega) h1.1 h1.2
    have b := mul_in (n := nOf i) (z := dy) (by omega) (by omega) h2.1 h2.2
    refine ⟨⟨by simp only; omega, by simp only; omega, by simp only; omega⟩, hk⟩
theorem tapsN_r (key : UInt8) (dx dy : Int) (n : Nat) : Rising (tapsN key dx dy n) := by
  unfold tapsN; split
  · exact List.Pairwise.nil
  · exact List.pairwise_singleton ..
theorem tapsN_len (key : UInt8) (dx dy : Int) (n : Nat) : (tapsN key dx dy n).length ≤ 1 := by unfold tapsN; split <;> simp
theorem tapsN_shift {key : UInt8} {dx dy : Int} {n : Nat} (h : 4 ≤ n) : shiftOf (tapsN key dx dy n) key = ⟨dx, dy⟩ := by
  unfold tapsN shiftOf
  rw [if_neg (by omega), List.find?_cons_of_pos (by simp [tapHit]; omega)]
  simp only [shiftT]
  rw [Int.mul_comm (n : Int) dx, Int.mul_comm (n : Int) dy, Int.mul_tdiv_cancel _ (by omega), Int.mul_tdiv_cancel _ (by omega)]
theorem adapt_one {a : Area} {key : UInt8} {dx dy : Int} (hk : a.Key = key) (i : Nat) (hp : inP ⟨(middle a).X + dx, (middle a).Y + dy⟩ = true) :
    adaptR [a] (tapsN key dx dy (nOf i)) key ⟨(middle a).X + dx, (middle a).Y + dy⟩ = (tapsN key dx dy (nOf (i + 1)), 0) := by
  unfold adaptR
  have hao : areaOf [a] key = some a := by simp [areaOf, hk]
  rw [if_neg (by rw [hp]; simp), hao]
  simp only
  rw [tapsN_last, tapsN_put]
  have e1 : (middle a).X + dx - (a.X0 + a.X1).tdiv 2 = dx := by simp only [middle]; omega
  have e2 : (middle a).Y + dy - (a.Y0 + a.Y1).tdiv 2 = dy := by simp only [middle]; omega
  rw [e1, e2, tapsN_next]
  have : nOf (i + 1) ≠ 0 := by have := nOf_ge (i + 1); omega
  unfold tapsN; rw [if_neg this]

set_option maxRecDepth 100000 in
set_option maxHeartbeats 2000000 in
theorem law7_c (l : List B2) (x : B6) (adl : Option Addr) (cl : Nat) (μ : Mem) (w : World) (hμ : Imm μ w) (sl : Sl μ adl cl l) :
    Calls Try.prog 9 #[.slice adl l.length cl, b6V x] w (RetS w (.bool true)) := by
  have hml := made_len l
  have hb0 := x.a.toNat_lt
  have hb1 := x.b.toNat_lt
  have hb2 := x.c.toNat_lt
  have hb3 := x.d.toNat_lt
  have hb4 := x.e.toNat_lt
  have hb5 := x.f.toNat_lt
  obtain ⟨q1, hq1⟩ : ∃ q, q = x.b.toNat % 81 := ⟨_, rfl⟩
  obtain ⟨q2, hq2⟩ : ∃ q, q = x.c.toNat % 81 := ⟨_, rfl⟩
  obtain ⟨q3, hq3⟩ : ∃ q, q = x.d.toNat % 77 := ⟨_, rfl⟩
  obtain ⟨dx, hdx⟩ : ∃ d : Int, d = (q1 : Int) - 40 := ⟨_, rfl⟩
  obtain ⟨dy, hdy⟩ : ∃ d : Int, d = (q2 : Int) - 40 := ⟨_, rfl⟩
  have hdx1 : -40 ≤ dx ∧ dx ≤ 40 := by omega
  have hdy1 : -40 ≤ dy ∧ dy ≤ 40 := by omega
  have hw4 : IntKind.i64.wrap ((q1 : Int) - 40) = dx := by rw [w64 (by omega) (by omega)]; omega
  have hw9 : IntKind.i64.wrap ((q2 : Int) - 40) = dy := by rw [w64 (by omega) (by omega)]; omega
  have hS := St.start w μ hμ
  refine calls_start 188 [.slice adl l.length cl, b6V x] Try.func9 rfl Try.ntmps9 rfl rfl ?_
  refine CW.seq fun K1 hK1 => ?_
  refine CW.region [0, 1] rfl ?_
  refine LW.hv rfl rfl rfl rfl (Hv.boxS hS rfl rfl) fun v w3 ⟨b3, hv, hb3, hS⟩ => ?_
  subst hv
  refine LW.ex rfl rfl rfl rfl (Ex.assign rfl) hS.rd ?_
  refine LW.nil fun aa ha => hK1 _ _ _ ?_ aa ha
  refine CW.seq fun K2 hK2 => ?_
  refine CW.region [0, 1] rfl ?_
  refine LW.hv rfl rfl rfl rfl (Hv.callS hS rfl rfl rfl cb11 (sanity_c _)) fun v w19 ⟨hv, hS⟩ => ?_
  subst hv
  refine LW.ex rfl rfl rfl rfl (Ex.assign rfl) hS.rd ?_
  refine LW.nil fun aa ha => hK2 _ _ _ ?_ aa ha
  refine CW.seq fun K3 hK3 => ?_
  refine CW.region [0, 1, 2, 3] rfl ?_
  refine LW.ex rfl rfl rfl rfl (Ex.move rfl) hS.rd ?_
  refine LW.hv rfl rfl rfl rfl (Hv.callV hS rfl rfl rfl cb12 (made_c l _ _ _ _ hS.imm sl)) fun v w21 ⟨μ21, hv21, hm21, hS⟩ => ?_
  obtain ⟨a0, c0, a1, c1, a2, c2, hv, hd0, hd1, hd2⟩ := hv21
  subst hv
  have hd0 : Sl _ a0 c0 (made l) := hd0
  refine LW.hv rfl rfl rfl rfl (Hv.alloc ti31 hS) fun v w6 ⟨b6, hv, hb6, hS⟩ => ?_
  subst hv
  refine LW.hu rfl rfl rfl (Hv.storeN (k := 0) ti31 hS rfl rfl rfl rfl (by simp [Value.oneCell'])) fun _ w_3 hS => ?_
  dsimp only [List.set] at hS
  refine LW.nil fun aa ha => hK3 _ _ _ ?_ aa ha
  refine CW.seq fun K4 hK4 => ?_
  refine CW.seq fun K5 hK5 => ?_
  have hdl : (madeB l).Areas.length = (made l).length := rfl
  refine CW.region [0, 1, 2, 3] rfl ?_
  refine LW.ex rfl rfl rfl rfl (Ex.fieldO 0 Try.underlying31 rfl rfl ti27 rfl) hS.rd ?_
  refine LW.ex rfl rfl rfl rfl (Ex.load1 ti27 rfl rfl (by first | exact ob 0 rfl rfl | exact ob 1 rfl rfl | exact ob 2 rfl rfl | exact ob 3 rfl rfl | exact ob 4 rfl rfl | exact ob 5 rfl rfl | exact ob 6 rfl rfl | exact Rd.imm ‹_› | exact sb 0 rfl ‹_› | exact sb 1 rfl ‹_› | exact sb 2 rfl ‹_› | exact sb 3 rfl ‹_›)) hS.rd ?_
  refine LW.ex rfl rfl rfl rfl (Ex.lenSl rfl Try.underlying27 rfl) hS.rd ?_
  refine LW.ex rfl rfl rfl rfl (Ex.eql rfl rfl rfl) hS.rd ?_
  refine LW.splitB (fun h3_3 => ?_) (fun h3_3 => ?_)
  · have h3_3 := of_decide_eq_true h3_3
    refine LW.nil fun aa ha => hK5 _ _ _ ?_ aa ha
    refine CW.yes rfl ?_
    refine CW.seq fun K6 hK6 => ?_
    refine CW.region [0, 1] rfl ?_
    refine LW.ex rfl rfl rfl rfl (Ex.move rfl) hS.rd ?_
    refine LW.ex rfl rfl rfl rfl (Ex.assign rfl) hS.rd ?_
    refine LW.nil fun aa ha => hK6 _ _ _ ?_ aa ha
    refine CW.ret fun aa ha => ?_
    refine ret_one ha Try.results9 rfl ?_
    exact hS.retS
  · have h3_3 := of_decide_eq_false h3_3
    refine LW.nil fun aa ha => hK5 _ _ _ ?_ aa ha
    refine CW.no rfl ?_
    refine CW.skip fun aa ha => hK4 _ _ _ ?_ aa ha
    refine CW.seq fun K7 hK7 => ?_
    have hpos : 0 < (made l).length := by omega
    obtain ⟨i0, hie⟩ : ∃ i, i = x.a.toNat % (made l).length := ⟨_, rfl⟩
    have hi0 : i0 < (made l).length := by rw [hie]; exact Nat.mod_lt _ hpos
    have him : (x.a.toNat : Int).tmod ((made l).length : Int) = (i0 : Int) := by rw [tmodN, hie]
    obtain ⟨bl, ol, rfl, k0, k1, k2, k3, k4⟩ := hd0.at hi0
    obtain ⟨a, hae⟩ : ∃ a, a = (made l)[i0] := ⟨_, rfl⟩
    have ham : a ∈ made l := by rw [hae]; exact List.getElem_mem hi0
    rw [← hae] at k0 k1 k2 k3 k4
    obtain ⟨j, hj, haj⟩ := made_mem ham
    have hin := madeA_in l (i := j) (by omega)
    rw [← haj] at hin
    have hlet : isLet a.Key = true := by rw [haj]; exact let_C97 (by omega)
    obtain ⟨z, hz⟩ : ∃ z, z = movA 100 100 a := ⟨_, rfl⟩
    have hz0 : z.Key = a.Key := by rw [hz]; rfl
    have hz1 : z.X0 = a.X0 + 100 := by rw [hz]; rfl
    have hz2 : z.Y0 = a.Y0 + 100 := by rw [hz]; rfl
    have hz3 : z.X1 = a.X1 + 100 := by rw [hz]; rfl
    have hz4 : z.Y1 = a.Y1 + 100 := by rw [hz]; rfl
    have hzb : ArB z := ⟨by omega, by omega, by omega, by omega⟩
    have hzbl : ∀ y ∈ [z], ArB y := fun y hy => by rw [List.mem_singleton] at hy; subst hy; exact hzb
    have hzk : AKeys [z] := List.pairwise_singleton ..
    have hmx := tdiv2_in (a := z.X0 + z.X1) (B := 700) ⟨by omega, by omega⟩
    have hmy := tdiv2_in (a := z.Y0 + z.Y1) (B := 700) ⟨by omega, by omega⟩
    have hmx2 : 100 ≤ (z.X0 + z.X1).tdiv 2 := by rw [Int.tdiv_eq_ediv_of_nonneg (by omega)]; omega
    have hmy2 : 100 ≤ (z.Y0 + z.Y1).tdiv 2 := by rw [Int.tdiv_eq_ediv_of_nonneg (by omega)]; omega
    obtain ⟨cx, hcx⟩ : ∃ c, c = (middle z).X := ⟨_, rfl⟩
    obtain ⟨cy, hcy⟩ : ∃ c, c = (middle z).Y := ⟨_, rfl⟩
    have hcx1 : 100 ≤ cx ∧ cx ≤ 700 := by rw [hcx]; simp only [middle]; omega
    have hcy1 : 100 ≤ cy ∧ cy ≤ 700 := by rw [hcy]; simp only [middle]; omega
    have hpc : inP ⟨cx + dx, cy + dy⟩ = true := inP_of (by simp only; omega) (by simp only; omega) (by simp only; omega) (by simp only; omega)
    have hS := hS.drew
    refine CW.draw 14 (.ex 0 <| .ex 1 <| .ex 2 <| .ex 3 <| .ex 4 <| .ex 5 <| .ex 6 <| .ex 7 <| .ex 8 <| .ex 9 <| .ex 10 <| .two 11 (.ex 12 <| .one 13 <| .done) 13 (.one 11 <| .ex 12 <| .done)) [14] (Rd _ _) mixed (by kernel_rfl) rfl rfl hS.rd ?_
    refine PW.ex rfl rfl rfl rfl (Ex.fieldO 0 Try.underlying31 rfl rfl ti27 rfl) ?_
    refine PW.ex rfl rfl rfl rfl (Ex.load1 ti27 rfl rfl (by first | exact ob 0 rfl rfl | exact ob 1 rfl rfl | exact ob 2 rfl rfl | exact ob 3 rfl rfl | exact ob 4 rfl rfl | exact ob 5 rfl rfl | exact ob 6 rfl rfl | exact Rd.imm ‹_› | exact sb 0 rfl ‹_› | exact sb 1 rfl ‹_› | exact sb 2 rfl ‹_› | exact sb 3 rfl ‹_›)) ?_
    refine PW.ex rfl rfl rfl rfl (Ex.indexArr (j := 0) Try.underlying76 ti5 rfl rfl rfl (by omega)) ?_
    refine PW.ex rfl rfl rfl rfl (Ex.load1 ti5 rfl rfl (by first | exact ob 0 rfl rfl | exact ob 1 rfl rfl | exact ob 2 rfl rfl | exact ob 3 rfl rfl | exact ob 4 rfl rfl | exact ob 5 rfl rfl | exact ob 6 rfl rfl | exact Rd.imm ‹_› | exact sb 0 rfl ‹_› | exact sb 1 rfl ‹_› | exact sb 2 rfl ‹_› | exact sb 3 rfl ‹_›)) ?_
    refine PW.ex rfl rfl rfl rfl (Ex.conv Try.underlying5 Try.underlying3 rfl (by first | exact w64 (by omega) (by omega) | exact wu8 (by omega) (by omega))) ?_
    refine PW.ex rfl rfl rfl rfl (Ex.fieldO 0 Try.underlying31 rfl rfl ti27 rfl) ?_
    refine PW.ex rfl rfl rfl rfl (Ex.load1 ti27 rfl rfl (by first | exact ob 0 rfl rfl | exact ob 1 rfl rfl | exact ob 2 rfl rfl | exact ob 3 rfl rfl | exact ob 4 rfl rfl | exact ob 5 rfl rfl | exact ob 6 rfl rfl | exact Rd.imm ‹_› | exact sb 0 rfl ‹_› | exact sb 1 rfl ‹_› | exact sb 2 rfl ‹_› | exact sb 3 rfl ‹_›)) ?_
    refine PW.ex rfl rfl rfl rfl (Ex.lenSl rfl Try.underlying27 rfl) ?_
    refine PW.ex rfl rfl rfl rfl (Ex.rem rfl rfl (by omega) him) ?_
    refine PW.ex rfl rfl rfl rfl (Ex.indexSl Try.underlying27 ti57 rfl rfl rfl (by omega)) ?_
    refine PW.ex rfl rfl rfl rfl (Ex.load5c ti57 rfl rfl (by first | exact ob 0 rfl rfl | exact ob 1 rfl rfl | exact ob 2 rfl rfl | exact ob 3 rfl rfl | exact ob 4 rfl rfl | exact ob 5 rfl rfl | exact ob 6 rfl rfl | exact Rd.imm ‹_› | exact sb 0 rfl ‹_› | exact sb 1 rfl ‹_› | exact sb 2 rfl ‹_› | exact sb 3 rfl ‹_›) (by first | exact ob 0 rfl rfl | exact ob 1 rfl rfl | exact ob 2 rfl rfl | exact ob 3 rfl rfl | exact ob 4 rfl rfl | exact ob 5 rfl rfl | exact ob 6 rfl rfl | exact Rd.imm ‹_› | exact sb 0 rfl ‹_› | exact sb 1 rfl ‹_› | exact sb 2 rfl ‹_› | exact sb 3 rfl ‹_›) (by first | exact ob 0 rfl rfl | exact ob 1 rfl rfl | exact ob 2 rfl rfl | exact ob 3 rfl rfl | exact ob 4 rfl rfl | exact ob 5 rfl rfl | exact ob 6 rfl rfl | exact Rd.imm ‹_› | exact sb 0 rfl ‹_› | exact sb 1 rfl ‹_› | exact sb 2 rfl ‹_› | exact sb 3 rfl ‹_›) (by first | exact ob 0 rfl rfl | exact ob 1 rfl rfl | exact ob 2 rfl rfl | exact ob 3 rfl rfl | exact ob 4 rfl rfl | exact ob 5 rfl rfl | exact ob 6 rfl rfl | exact Rd.imm ‹_› | exact sb 0 rfl ‹_› | exact sb 1 rfl ‹_› | exact sb 2 rfl ‹_› | exact sb 3 rfl ‹_›) (by first | exact ob 0 rfl rfl | exact ob 1 rfl rfl | exact ob 2 rfl rfl | exact ob 3 rfl rfl | exact ob 4 rfl rfl | exact ob 5 rfl rfl | exact ob 6 rfl rfl | exact Rd.imm ‹_› | exact sb 0 rfl ‹_› | exact sb 1 rfl ‹_› | exact sb 2 rfl ‹_› | exact sb 3 rfl ‹_›)) ?_
    refine PW.two rfl rfl rfl rfl rfl rfl rfl rfl (Hv.buildSl hS Try.underlying27 ti57 rfl rfl rfl rfl rfl rfl) (fun _ _ ⟨_, _, _, h⟩ => h.rd.tail) (Hv.alloc ti31 hS) (fun _ _ ⟨_, _, _, h⟩ => h.rd.tail) (fun v w38 ⟨b38, hv, hb38, hS⟩ => ?gA8) (fun v w7 ⟨b7, hv, hb7, hS⟩ => ?gB8)
    case gA8 =>
      skip
      subst hv
      refine PW.ex rfl rfl rfl rfl (Ex.buildS st31 rfl rfl rfl) ?_
      refine PW.hv rfl rfl rfl rfl (Hv.alloc ti31 hS) (fun _ _ ⟨_, _, _, h⟩ => h.rd.tail.tail) fun v w7 ⟨b7, hv, hb7, hS⟩ => ?_
      subst hv
      refine PW.nil ?_
      refine LW.hu rfl rfl rfl (Hv.storeN (k := 0) ti31 hS rfl rfl rfl rfl (by simp [Value.oneCell'])) fun _ w_14 hS => ?_
      dsimp only [List.set] at hS
      refine LW.nil fun aa ha => hK7 _ _ _ ?_ aa ha
      refine CW.seq fun K9 hK9 => ?_
      refine CW.region [0, 1, 2, 3, 4, 5, 6, 7, 8] rfl ?_
      refine LW.ex rfl rfl rfl rfl (Ex.fieldO 0 Try.underlying31 rfl rfl ti27 rfl) hS.rd ?_
      refine LW.ex rfl rfl rfl rfl (Ex.load1 ti27 rfl rfl (by first | exact ob 0 rfl rfl | exact ob 1 rfl rfl | exact ob 2 rfl rfl | exact ob 3 rfl rfl | exact ob 4 rfl rfl | exact ob 5 rfl rfl | exact ob 6 rfl rfl | exact Rd.imm ‹_› | exact sb 0 rfl ‹_› | exact sb 1 rfl ‹_› | exact sb 2 rfl ‹_› | exact sb 3 rfl ‹_›)) hS.rd ?_
      refine LW.ex rfl rfl rfl rfl (Ex.indexSl (j := 0) Try.underlying27 ti57 rfl rfl rfl (by omega)) hS.rd ?_
      refine LW.ex rfl rfl rfl rfl (Ex.fieldO 1 Try.underlying57 rfl rfl ti3 rfl) hS.rd ?_
      refine LW.ex rfl rfl rfl rfl (Ex.load1 ti3 rfl rfl (by first | exact ob 0 rfl rfl | exact ob 1 rfl rfl | exact ob 2 rfl rfl | exact ob 3 rfl rfl | exact ob 4 rfl rfl | exact ob 5 rfl rfl | exact ob 6 rfl rfl | exact Rd.imm ‹_› | exact sb 0 rfl ‹_› | exact sb 1 rfl ‹_› | exact sb 2 rfl ‹_› | exact sb 3 rfl ‹_›)) hS.rd ?_
      refine LW.ex rfl rfl rfl rfl (Ex.add rfl rfl (w64 (by omega) (by omega))) hS.rd ?_
      refine LW.ex rfl rfl rfl rfl (Ex.indexSl (j := 0) Try.underlying27 ti57 rfl rfl rfl (by omega)) hS.rd ?_
      refine LW.ex rfl rfl rfl rfl (Ex.fieldO 1 Try.underlying57 rfl rfl ti3 rfl) hS.rd ?_
      refine LW.hu rfl rfl rfl (Hv.storeObj (k := 1) ti3 hS rfl rfl rfl rfl (by first | (simp; done) | omega)) fun _ w_8 hS => ?_
      dsimp only [List.set] at hS
      refine LW.nil fun aa ha => hK9 _ _ _ ?_ aa ha
      refine CW.seq fun K10 hK10 => ?_
      refine CW.region [0, 1, 2, 3, 4, 5, 6, 7, 8] rfl ?_
      refine LW.ex rfl rfl rfl rfl (Ex.fieldO 0 Try.underlying31 rfl rfl ti27 rfl) hS.rd ?_
      refine LW.ex rfl rfl rfl rfl (Ex.load1 ti27 rfl rfl (by first | exact ob 0 rfl rfl | exact ob 1 rfl rfl | exact ob 2 rfl rfl | exact ob 3 rfl rfl | exact ob 4 rfl rfl | exact ob 5 rfl rfl | exact ob 6 rfl rfl | exact Rd.imm ‹_› | exact sb 0 rfl ‹_› | exact sb 1 rfl ‹_› | exact sb 2 rfl ‹_› | exact sb 3 rfl ‹_›)) hS.rd ?_
      refine LW.ex rfl rfl rfl rfl (Ex.indexSl (j := 0) Try.underlying27 ti57 rfl rfl rfl (by omega)) hS.rd ?_
      refine LW.ex rfl rfl rfl rfl (Ex.fieldO 3 Try.underlying57 rfl rfl ti3 rfl) hS.rd ?_
      refine LW.ex rfl rfl rfl rfl (Ex.load1 ti3 rfl rfl (by first | exact ob 0 rfl rfl | exact ob 1 rfl rfl | exact ob 2 rfl rfl | exact ob 3 rfl rfl | exact ob 4 rfl rfl | exact ob 5 rfl rfl | exact ob 6 rfl rfl | exact Rd.imm ‹_› | exact sb 0 rfl ‹_› | exact sb 1 rfl ‹_› | exact sb 2 rfl ‹_› | exact sb 3 rfl ‹_›)) hS.rd ?_
      refine LW.ex rfl rfl rfl rfl (Ex.add rfl rfl (w64 (by omega) (by omega))) hS.rd ?_
      refine LW.ex rfl rfl rfl rfl (Ex.indexSl (j := 0) Try.underlying27 ti57 rfl rfl rfl (by omega)) hS.rd ?_
      refine LW.ex rfl rfl rfl rfl (Ex.fieldO 3 Try.underlying57 rfl rfl ti3 rfl) hS.rd ?_
      refine LW.hu rfl rfl rfl (Hv.storeObj (k := 1) ti3 hS rfl rfl rfl rfl (by first | (simp; done) | omega)) fun _ w_8 hS => ?_
      dsimp only [List.set] at hS
      refine LW.nil fun aa ha => hK10 _ _ _ ?_ aa ha
      refine CW.seq fun K11 hK11 => ?_
      refine CW.region [0, 1, 2, 3, 4, 5, 6, 7, 8] rfl ?_
      refine LW.ex rfl rfl rfl rfl (Ex.fieldO 0 Try.underlying31 rfl rfl ti27 rfl) hS.rd ?_
      refine LW.ex rfl rfl rfl rfl (Ex.load1 ti27 rfl rfl (by first | exact ob 0 rfl rfl | exact ob 1 rfl rfl | exact ob 2 rfl rfl | exact ob 3 rfl rfl | exact ob 4 rfl rfl | exact ob 5 rfl rfl | exact ob 6 rfl rfl | exact Rd.imm ‹_› | exact sb 0 rfl ‹_› | exact sb 1 rfl ‹_› | exact sb 2 rfl ‹_› | exact sb 3 rfl ‹_›)) hS.rd ?_
      refine LW.ex rfl rfl rfl rfl (Ex.indexSl (j := 0) Try.underlying27 ti57 rfl rfl rfl (by omega)) hS.rd ?_
      refine LW.ex rfl rfl rfl rfl (Ex.fieldO 2 Try.underlying57 rfl rfl ti3 rfl) hS.rd ?_
      refine LW.ex rfl rfl rfl rfl (Ex.load1 ti3 rfl rfl (by first | exact ob 0 rfl rfl | exact ob 1 rfl rfl | exact ob 2 rfl rfl | exact ob 3 rfl rfl | exact ob 4 rfl rfl | exact ob 5 rfl rfl | exact ob 6 rfl rfl | exact Rd.imm ‹_› | exact sb 0 rfl ‹_› | exact sb 1 rfl ‹_› | exact sb 2 rfl ‹_› | exact sb 3 rfl ‹_›)) hS.rd ?_
      refine LW.ex rfl rfl rfl rfl (Ex.add rfl rfl (w64 (by omega) (by omega))) hS.rd ?_
      refine LW.ex rfl rfl rfl rfl (Ex.indexSl (j := 0) Try.underlying27 ti57 rfl rfl rfl (by omega)) hS.rd ?_
      refine LW.ex rfl rfl rfl rfl (Ex.fieldO 2 Try.underlying57 rfl rfl ti3 rfl) hS.rd ?_
      refine LW.hu rfl rfl rfl (Hv.storeObj (k := 1) ti3 hS rfl rfl rfl rfl (by first | (simp; done) | omega)) fun _ w_8 hS => ?_
      dsimp only [List.set] at hS
      refine LW.nil fun aa ha => hK11 _ _ _ ?_ aa ha
      refine CW.seq fun K12 hK12 => ?_
      refine CW.region [0, 1, 2, 3, 4, 5, 6, 7, 8] rfl ?_
      refine LW.ex rfl rfl rfl rfl (Ex.fieldO 0 Try.underlying31 rfl rfl ti27 rfl) hS.rd ?_
      refine LW.ex rfl rfl rfl rfl (Ex.load1 ti27 rfl rfl (by first | exact ob 0 rfl rfl | exact ob 1 rfl rfl | exact ob 2 rfl rfl | exact ob 3 rfl rfl | exact ob 4 rfl rfl | exact ob 5 rfl rfl | exact ob 6 rfl rfl | exact Rd.imm ‹_› | exact sb 0 rfl ‹_› | exact sb 1 rfl ‹_› | exact sb 2 rfl ‹_› | exact sb 3 rfl ‹_›)) hS.rd ?_
      refine LW.ex rfl rfl rfl rfl (Ex.indexSl (j := 0) Try.underlying27 ti57 rfl rfl rfl (by omega)) hS.rd ?_
      refine LW.ex rfl rfl rfl rfl (Ex.fieldO 4 Try.underlying57 rfl rfl ti3 rfl) hS.rd ?_
      refine LW.ex rfl rfl rfl rfl (Ex.load1 ti3 rfl rfl (by first | exact ob 0 rfl rfl | exact ob 1 rfl rfl | exact ob 2 rfl rfl | exact ob 3 rfl rfl | exact ob 4 rfl rfl | exact ob 5 rfl rfl | exact ob 6 rfl rfl | exact Rd.imm ‹_› | exact sb 0 rfl ‹_› | exact sb 1 rfl ‹_› | exact sb 2 rfl ‹_› | exact sb 3 rfl ‹_›)) hS.rd ?_
      refine LW.ex rfl rfl rfl rfl (Ex.add rfl rfl (w64 (by omega) (by omega))) hS.rd ?_
      refine LW.ex rfl rfl rfl rfl (Ex.indexSl (j := 0) Try.underlying27 ti57 rfl rfl rfl (by omega)) hS.rd ?_
      refine LW.ex rfl rfl rfl rfl (Ex.fieldO 4 Try.underlying57 rfl rfl ti3 rfl) hS.rd ?_
      refine LW.hu rfl rfl rfl (Hv.storeObj (k := 1) ti3 hS rfl rfl rfl rfl (by first | (simp; done) | omega)) fun _ w_8 hS => ?_
      dsimp only [List.set] at hS
      refine LW.nil fun aa ha => hK12 _ _ _ ?_ aa ha
      refine CW.seq fun K13 hK13 => ?_
      rw [← hz1, ← hz2, ← hz3, ← hz4, ← hz0] at hS
      refine CW.region [0, 1, 2, 3, 4, 5] rfl ?_
      refine LW.ex rfl rfl rfl rfl (Ex.fieldO 0 Try.underlying31 rfl rfl ti27 rfl) hS.rd ?_
      refine LW.ex rfl rfl rfl rfl (Ex.load1 ti27 rfl rfl (by first | exact ob 0 rfl rfl | exact ob 1 rfl rfl | exact ob 2 rfl rfl | exact ob 3 rfl rfl | exact ob 4 rfl rfl | exact ob 5 rfl rfl | exact ob 6 rfl rfl | exact Rd.imm ‹_› | exact sb 0 rfl ‹_› | exact sb 1 rfl ‹_› | exact sb 2 rfl ‹_› | exact sb 3 rfl ‹_›)) hS.rd ?_
      refine LW.ex rfl rfl rfl rfl (Ex.indexSl (j := 0) Try.underlying27 ti57 rfl rfl rfl (by omega)) hS.rd ?_
      refine LW.ex rfl rfl rfl rfl (Ex.load5c ti57 rfl rfl (by first | exact ob 0 rfl rfl | exact ob 1 rfl rfl | exact ob 2 rfl rfl | exact ob 3 rfl rfl | exact ob 4 rfl rfl | exact ob 5 rfl rfl | exact ob 6 rfl rfl | exact Rd.imm ‹_› | exact sb 0 rfl ‹_› | exact sb 1 rfl ‹_› | exact sb 2 rfl ‹_› | exact sb 3 rfl ‹_›) (by first | exact ob 0 rfl rfl | exact ob 1 rfl rfl | exact ob 2 rfl rfl | exact ob 3 rfl rfl | exact ob 4 rfl rfl | exact ob 5 rfl rfl | exact ob 6 rfl rfl | exact Rd.imm ‹_› | exact sb 0 rfl ‹_› | exact sb 1 rfl ‹_› | exact sb 2 rfl ‹_› | exact sb 3 rfl ‹_›) (by first | exact ob 0 rfl rfl | exact ob 1 rfl rfl | exact ob 2 rfl rfl | exact ob 3 rfl rfl | exact ob 4 rfl rfl | exact ob 5 rfl rfl | exact ob 6 rfl rfl | exact Rd.imm ‹_› | exact sb 0 rfl ‹_› | exact sb 1 rfl ‹_› | exact sb 2 rfl ‹_› | exact sb 3 rfl ‹_›) (by first | exact ob 0 rfl rfl | exact ob 1 rfl rfl | exact ob 2 rfl rfl | exact ob 3 rfl rfl | exact ob 4 rfl rfl | exact ob 5 rfl rfl | exact ob 6 rfl rfl | exact Rd.imm ‹_› | exact sb 0 rfl ‹_› | exact sb 1 rfl ‹_› | exact sb 2 rfl ‹_› | exact sb 3 rfl ‹_›) (by first | exact ob 0 rfl rfl | exact ob 1 rfl rfl | exact ob 2 rfl rfl | exact ob 3 rfl rfl | exact ob 4 rfl rfl | exact ob 5 rfl rfl | exact ob 6 rfl rfl | exact Rd.imm ‹_› | exact sb 0 rfl ‹_› | exact sb 1 rfl ‹_› | exact sb 2 rfl ‹_› | exact sb 3 rfl ‹_›)) hS.rd ?_
      refine LW.hv rfl rfl rfl rfl (Hv.alloc ti57 hS) fun v w8 ⟨b8, hv, hb8, hS⟩ => ?_
      subst hv
      refine LW.hu rfl rfl rfl (Hv.storeN (k := 0) ti57 hS rfl rfl rfl rfl (by simp [Value.oneCell'])) fun _ w_5 hS => ?_
      dsimp only [List.set] at hS
      refine LW.nil fun aa ha => hK13 _ _ _ ?_ aa ha
      refine CW.seq fun K14 hK14 => ?_
      obtain ⟨μa, hma, hS, hsa⟩ := hS.shutRow 2 rfl (areaReps μ21 [z]) (by simp [maxLen])
      dsimp only [List.eraseIdx] at hS
      have hS := hS.drew
      refine CW.draw 15 (.ex 0 <| .ex 1 <| .ex 2 <| .ex 3 <| .ex 4 <| .ex 5 <| .ex 6 <| .ex 7 <| .ex 8 <| .ex 9 <| .ex 10 <| .two 11 (.one 12 <| .ex 13 <| .ex 14 <| .done) 12 (.one 11 <| .ex 13 <| .ex 14 <| .done)) [15] (Rd _ _) mixed (by kernel_rfl) rfl rfl hS.rd ?_
      refine PW.ex rfl rfl rfl rfl (Ex.indexArr (j := 1) Try.underlying76 ti5 rfl rfl rfl (by omega)) ?_
      refine PW.ex rfl rfl rfl rfl (Ex.load1 ti5 rfl rfl (by first | exact ob 0 rfl rfl | exact ob 1 rfl rfl | exact ob 2 rfl rfl | exact ob 3 rfl rfl | exact ob 4 rfl rfl | exact ob 5 rfl rfl | exact ob 6 rfl rfl | exact Rd.imm ‹_› | exact sb 0 rfl ‹_› | exact sb 1 rfl ‹_› | exact sb 2 rfl ‹_› | exact sb 3 rfl ‹_›)) ?_
      refine PW.ex rfl rfl rfl rfl (Ex.conv Try.underlying5 Try.underlying3 rfl (by first | exact w64 (by omega) (by omega) | exact wu8 (by omega) (by omega))) ?_
      refine PW.ex rfl rfl rfl rfl (Ex.rem rfl rfl (by omega) (show _ = ((q1 : Nat) : Int) from by rw [hq1]; exact tmodN x.b.toNat 81)) ?_
      refine PW.ex rfl rfl rfl rfl (Ex.sub rfl rfl hw4) ?_
      refine PW.ex rfl rfl rfl rfl (Ex.indexArr (j := 2) Try.underlying76 ti5 rfl rfl rfl (by omega)) ?_
      refine PW.ex rfl rfl rfl rfl (Ex.load1 ti5 rfl rfl (by first | exact ob 0 rfl rfl | exact ob 1 rfl rfl | exact ob 2 rfl rfl | exact ob 3 rfl rfl | exact ob 4 rfl rfl | exact ob 5 rfl rfl | exact ob 6 rfl rfl | exact Rd.imm ‹_› | exact sb 0 rfl ‹_› | exact sb 1 rfl ‹_› | exact sb 2 rfl ‹_› | exact sb 3 rfl ‹_›)) ?_
      refine PW.ex rfl rfl rfl rfl (Ex.conv Try.underlying5 Try.underlying3 rfl (by first | exact w64 (by omega) (by omega) | exact wu8 (by omega) (by omega))) ?_
      refine PW.ex rfl rfl rfl rfl (Ex.rem rfl rfl (by omega) (show _ = ((q2 : Nat) : Int) from by rw [hq2]; exact tmodN x.c.toNat 81)) ?_
      refine PW.ex rfl rfl rfl rfl (Ex.sub rfl rfl hw9) ?_
      refine PW.ex rfl rfl rfl rfl (Ex.load5c ti57 rfl rfl (by first | exact ob 0 rfl rfl | exact ob 1 rfl rfl | exact ob 2 rfl rfl | exact ob 3 rfl rfl | exact ob 4 rfl rfl | exact ob 5 rfl rfl | exact ob 6 rfl rfl | exact Rd.imm ‹_› | exact sb 0 rfl ‹_› | exact sb 1 rfl ‹_› | exact sb 2 rfl ‹_› | exact sb 3 rfl ‹_›) (by first | exact ob 0 rfl rfl | exact ob 1 rfl rfl | exact ob 2 rfl rfl | exact ob 3 rfl rfl | exact ob 4 rfl rfl | exact ob 5 rfl rfl | exact ob 6 rfl rfl | exact Rd.imm ‹_› | exact sb 0 rfl ‹_› | exact sb 1 rfl ‹_› | exact sb 2 rfl ‹_› | exact sb 3 rfl ‹_›) (by first | exact ob 0 rfl rfl | exact ob 1 rfl rfl | exact ob 2 rfl rfl | exact ob 3 rfl rfl | exact ob 4 rfl rfl | exact ob 5 rfl rfl | exact ob 6 rfl rfl | exact Rd.imm ‹_› | exact sb 0 rfl ‹_› | exact sb 1 rfl ‹_› | exact sb 2 rfl ‹_› | exact sb 3 rfl ‹_›) (by first | exact ob 0 rfl rfl | exact ob 1 rfl rfl | exact ob 2 rfl rfl | exact ob 3 rfl rfl | exact ob 4 rfl rfl | exact ob 5 rfl rfl | exact ob 6 rfl rfl | exact Rd.imm ‹_› | exact sb 0 rfl ‹_› | exact sb 1 rfl ‹_› | exact sb 2 rfl ‹_› | exact sb 3 rfl ‹_›) (by first | exact ob 0 rfl rfl | exact ob 1 rfl rfl | exact ob 2 rfl rfl | exact ob 3 rfl rfl | exact ob 4 rfl rfl | exact ob 5 rfl rfl | exact ob 6 rfl rfl | exact Rd.imm ‹_› | exact sb 0 rfl ‹_› | exact sb 1 rfl ‹_› | exact sb 2 rfl ‹_› | exact sb 3 rfl ‹_›)) ?_
      refine PW.two rfl rfl rfl rfl rfl rfl rfl rfl (Hv.callS hS rfl rfl rfl cb28 (middle_c z _ hzb)) (fun _ _ h => h.2.rd) (Hv.alloc ti36 hS) (fun _ _ ⟨_, _, _, h⟩ => h.rd.tail) (fun v w87 ⟨hv, hS⟩ => ?gA15) (fun v w11 ⟨b11, hv, hb11, hS⟩ => ?gB15)
      case gA15 =>
        skip
        subst hv
        refine PW.hv rfl rfl rfl rfl (Hv.alloc ti36 hS) (fun _ _ ⟨_, _, _, h⟩ => h.rd.tail) fun v w11 ⟨b11, hv, hb11, hS⟩ => ?_
        subst hv
        refine PW.ex rfl rfl rfl rfl (Ex.assign rfl) ?_
        refine PW.ex rfl rfl rfl rfl (Ex.assign rfl) ?_
        refine PW.nil ?_
        refine LW.hu rfl rfl rfl (Hv.storeN (k := 0) ti36 hS rfl rfl rfl rfl (by simp [Value.oneCell'])) fun _ w_15 hS => ?_
        dsimp only [List.set] at hS
        refine LW.nil fun aa ha => hK14 _ _ _ ?_ aa ha
        refine CW.seq fun K16 hK16 => ?_
        have hS : St w _ μa [Own.obj b11 [.int .i64 (middle z).X, .int .i64 (middle z).Y] 36, Own.obj b8 (areaL z) 57, Own.obj b7 [.slice (some ⟨b38, 0, none⟩) 1 1, .slice none 0 0, .slice none 0 0] 31, Own.obj b6 [.slice (some ⟨bl, ol, none⟩) (made l).length c0, .slice a1 2 c1, .slice a2 2 c2] 31, Own.obj b3 [.int .u8 x.a.toNat, .int .u8 x.b.toNat, .int .u8 x.c.toNat, .int .u8 x.d.toNat, .int .u8 x.e.toNat, .int .u8 x.f.toNat] 76] := hS
        rw [← hcx, ← hcy] at hS
        refine CW.region [0, 1] rfl ?_
        refine LW.hv rfl rfl rfl rfl (Hv.buildSl hS Try.underlying33 ti82 rfl rfl rfl rfl rfl rfl) fun v w88 ⟨b88, hv, hb88, hS⟩ => ?_
        subst hv
        obtain ⟨μt, hmt, hS, hst⟩ := hS.shutRow (α := Tap) 0 rfl (RepL.nil _) (by simp [maxLen])
        dsimp only [List.eraseIdx] at hS
        have hsa := hsa.mono hmt
        refine LW.ex rfl rfl rfl rfl (Ex.assign rfl) hS.rd ?_
        refine LW.nil fun aa ha => hK16 _ _ _ ?_ aa ha
        refine CW.seq fun K17 hK17 => ?_
        refine CW.seq fun K18 hK18 => ?_
        refine CW.region [0] rfl ?_
        refine LW.ex rfl rfl rfl rfl (Ex.assign rfl) hS.rd ?_
        refine LW.nil fun aa ha => hK18 _ _ _ ?_ aa ha
        refine CW.block ?_
        refine CW.loop (fun q m wl14 => ∃ (i : Nat) (tp : List Tap) (adp : Option Addr) (cp : Nat) (μ6 : Mem), i ≤ 4 + q3 ∧ q = 100 - i ∧ m = [(3, .pointer (some ⟨b3, 0, none⟩)), (5, .bool true), (7, .pointer (some ⟨b7, 0, none⟩)), (8, .pointer (some ⟨b8, 0, none⟩)), (9, .int .i64 dx), (10, .int .i64 dy), (11, .pointer (some ⟨b11, 0, none⟩)), (12, .slice adp tp.length cp), (13, .int .i64 i)] ∧ St w wl14 μ6 [Own.obj b11 [.int .i64 cx, .int .i64 cy] 36, Own.obj b8 (areaL z) 57, Own.obj b7 [.slice (some ⟨b38, 0, none⟩) 1 1, .slice none 0 0, .slice none 0 0] 31, Own.obj b6 [.slice (some ⟨bl, ol, none⟩) (made l).length c0, .slice a1 2 c1, .slice a2 2 c2] 31, Own.obj b3 [.int .u8 x.a.toNat, .int .u8 x.b.toNat, .int .u8 x.c.toNat, .int .u8 x.d.toNat, .int .u8 x.e.toNat, .int .u8 x.f.toNat] 76] ∧ (tp = tapsN z.Key dx dy (nOf i)) ∧ (Sl μ6 (some ⟨b38, 0, none⟩) 1 [z]) ∧ (Sl μ6 adp cp tp)) _ ⟨0, [], some ⟨b88, 0, none⟩, 0, μt, (by first | omega | (simp; done) | (simp; omega)), rfl, rfl, hS, rfl, hsa, hst⟩ ⟨rfl, rfl, rfl, rfl, rfl, rfl, rfl, rfl, rfl, trivial⟩ ?_
        clear hS
        rintro q m wl14 ⟨i, tp, adp, cp, μ6, hi, hq, rfl, hS, htp, hsa, hst⟩
        refine CW.seq fun K19 hK19 => ?_
        refine CW.seq fun K20 hK20 => ?_
        refine CW.region [0, 1, 2, 3, 4, 5, 6] rfl ?_
        refine LW.ex rfl rfl rfl rfl (Ex.move rfl) hS.rd ?_
        refine LW.ex rfl rfl rfl rfl (Ex.indexArr (j := 3) Try.underlying76 ti5 rfl rfl rfl (by omega)) hS.rd ?_
        refine LW.ex rfl rfl rfl rfl (Ex.load1 ti5 rfl rfl (by first | exact ob 0 rfl rfl | exact ob 1 rfl rfl | exact ob 2 rfl rfl | exact ob 3 rfl rfl | exact ob 4 rfl rfl | exact ob 5 rfl rfl | exact ob 6 rfl rfl | exact Rd.imm ‹_› | exact sb 0 rfl ‹_› | exact sb 1 rfl ‹_› | exact sb 2 rfl ‹_› | exact sb 3 rfl ‹_›)) hS.rd ?_
        refine LW.ex rfl rfl rfl rfl (Ex.conv Try.underlying5 Try.underlying3 rfl (by first | exact w64 (by omega) (by omega) | exact wu8 (by omega) (by omega))) hS.rd ?_
        refine LW.ex rfl rfl rfl rfl (Ex.rem rfl rfl (by omega) (show _ = ((q3 : Nat) : Int) from by rw [hq3]; exact tmodN x.d.toNat 77)) hS.rd ?_
        refine LW.ex rfl rfl rfl rfl (Ex.add rfl rfl (w64 (by omega) (by omega))) hS.rd ?_
        refine LW.ex rfl rfl rfl rfl (Ex.lss rfl rfl rfl) hS.rd ?_
        refine LW.splitB (fun h14_6 => ?_) (fun h14_6 => ?_)
        · have h14_6 := of_decide_eq_true h14_6
          refine LW.nil fun aa ha => hK20 _ _ _ ?_ aa ha
          refine CW.yes rfl ?_
          refine CW.skip fun aa ha => hK19 _ _ _ ?_ aa ha
          refine CW.seq fun K21 hK21 => ?_
          refine CW.block ?_
          refine CW.seq fun K22 hK22 => ?_
          have hTF := tapsN_F (key := z.Key) (dx := dx) (dy := dy) (by rw [hz0]; exact hlet) hdx1 hdy1 i
          rw [← htp] at hTF
          have hTF2 := tapsN_F (key := z.Key) (dx := dx) (dy := dy) (by rw [hz0]; exact hlet) hdx1 hdy1 (i + 1)
          have hTr : Rising tp := by rw [htp]; exact tapsN_r _ _ _ _
          have hTl : tp.length ≤ 1 := by rw [htp]; exact tapsN_len _ _ _ _
          have hAr := adapt_one (a := z) (key := z.Key) (dx := dx) (dy := dy) rfl i (by rw [← hcx, ← hcy]; exact hpc)
          rw [← hcx, ← hcy, ← htp] at hAr
          have hnv := tapsR_of (tapsN_r z.Key dx dy (nOf (i + 1))) hTF2
          have hn1 : (tapsN z.Key dx dy (nOf (i + 1))).length = 1 := by
            have := nOf_ge (i + 1)
            unfold tapsN; rw [if_neg (by omega)]; rfl
          have hS := hS.drew
          refine CW.draw 19 (.ex 0 <| .ex 1 <| .ex 2 <| .ex 3 <| .ex 4 <| .ex 5 <| .ex 6 <| .ex 7 <| .ex 8 <| .ex 9 <| .ex 10 <| .ex 11 <| .one 12 <| .one 13 <| .ex 14 <| .ex 15 <| .ex 16 <| .ex 17 <| .ex 18 <| .done) [] (Rd _ _) mixed (by kernel_rfl) rfl rfl hS.rd ?_
          refine PW.ex rfl rfl rfl rfl (Ex.load3c ti31 rfl rfl (by first | exact ob 0 rfl rfl | exact ob 1 rfl rfl | exact ob 2 rfl rfl | exact ob 3 rfl rfl | exact ob 4 rfl rfl | exact ob 5 rfl rfl | exact ob 6 rfl rfl | exact Rd.imm ‹_› | exact sb 0 rfl ‹_› | exact sb 1 rfl ‹_› | exact sb 2 rfl ‹_› | exact sb 3 rfl ‹_›) (by first | exact ob 0 rfl rfl | exact ob 1 rfl rfl | exact ob 2 rfl rfl | exact ob 3 rfl rfl | exact ob 4 rfl rfl | exact ob 5 rfl rfl | exact ob 6 rfl rfl | exact Rd.imm ‹_› | exact sb 0 rfl ‹_› | exact sb 1 rfl ‹_› | exact sb 2 rfl ‹_› | exact sb 3 rfl ‹_›) (by first | exact ob 0 rfl rfl | exact ob 1 rfl rfl | exact ob 2 rfl rfl | exact ob 3 rfl rfl | exact ob 4 rfl rfl | exact ob 5 rfl rfl | exact ob 6 rfl rfl | exact Rd.imm ‹_› | exact sb 0 rfl ‹_› | exact sb 1 rfl ‹_› | exact sb 2 rfl ‹_› | exact sb 3 rfl ‹_›)) ?_
          refine PW.ex rfl rfl rfl rfl (Ex.move rfl) ?_
          refine PW.ex rfl rfl rfl rfl (Ex.fieldO 0 Try.underlying57 rfl rfl ti5 rfl) ?_
          refine PW.ex rfl rfl rfl rfl (Ex.load1 ti5 rfl rfl (by first | exact ob 0 rfl rfl | exact ob 1 rfl rfl | exact ob 2 rfl rfl | exact ob 3 rfl rfl | exact ob 4 rfl rfl | exact ob 5 rfl rfl | exact ob 6 rfl rfl | exact Rd.imm ‹_› | exact sb 0 rfl ‹_› | exact sb 1 rfl ‹_› | exact sb 2 rfl ‹_› | exact sb 3 rfl ‹_›)) ?_
          refine PW.ex rfl rfl rfl rfl (Ex.fieldO 0 Try.underlying36 rfl rfl ti3 rfl) ?_
          refine PW.ex rfl rfl rfl rfl (Ex.load1 ti3 rfl rfl (by first | exact ob 0 rfl rfl | exact ob 1 rfl rfl | exact ob 2 rfl rfl | exact ob 3 rfl rfl | exact ob 4 rfl rfl | exact ob 5 rfl rfl | exact ob 6 rfl rfl | exact Rd.imm ‹_› | exact sb 0 rfl ‹_› | exact sb 1 rfl ‹_› | exact sb 2 rfl ‹_› | exact sb 3 rfl ‹_›)) ?_
          refine PW.ex rfl rfl rfl rfl (Ex.move rfl) ?_
          refine PW.ex rfl rfl rfl rfl (Ex.add rfl rfl (w64 (by omega) (by omega))) ?_
          refine PW.ex rfl rfl rfl rfl (Ex.fieldO 1 Try.underlying36 rfl rfl ti3 rfl) ?_
          refine PW.ex rfl rfl rfl rfl (Ex.load1 ti3 rfl rfl (by first | exact ob 0 rfl rfl | exact ob 1 rfl rfl | exact ob 2 rfl rfl | exact ob 3 rfl rfl | exact ob 4 rfl rfl | exact ob 5 rfl rfl | exact ob 6 rfl rfl | exact Rd.imm ‹_› | exact sb 0 rfl ‹_› | exact sb 1 rfl ‹_› | exact sb 2 rfl ‹_› | exact sb 3 rfl ‹_›)) ?_
          refine PW.ex rfl rfl rfl rfl (Ex.move rfl) ?_
          refine PW.ex rfl rfl rfl rfl (Ex.add rfl rfl (w64 (by omega) (by omega))) ?_
          refine PW.hv rfl rfl rfl rfl (Hv.callS hS rfl rfl rfl cb14 (point_c (cx + dx) (cy + dy) _)) (fun _ _ h => h.2.rd) fun v w111 ⟨hv, hS⟩ => ?_
          subst hv
          refine PW.hv rfl rfl rfl rfl (Hv.callV hS rfl rfl rfl cb17 (adaptF_c (l := [z]) (taps := tp) (key := z.Key) (p := ⟨cx + dx, cy + dy⟩) hS.imm hsa hst hzbl (fun y hy => tapF_b (hTF y hy).1) hTr (fun y hy => (hTF y hy).1.2.2.2) (by simp) (by omega))) (fun _ _ ⟨_, _, hm, h⟩ => Rd.le hm h.rd) fun v w112 ⟨μ112, hv112, hm112, hS⟩ => ?_
          unfold IsAdapt at hv112
          rw [hAr] at hv112
          obtain ⟨ad112, c112, hv, hs112⟩ := hv112
          subst hv
          have hsa := hsa.mono hm112
          refine PW.ex rfl rfl rfl rfl (Ex.move rfl) ?_
          refine PW.ex rfl rfl rfl rfl (Ex.extract rfl rfl) ?_
          refine PW.ex rfl rfl rfl rfl (Ex.extract rfl rfl) ?_
          refine PW.ex rfl rfl rfl rfl (Ex.assign rfl) ?_
          refine PW.ex rfl rfl rfl rfl (Ex.assign rfl) ?_
          refine PW.nil ?_
          refine LW.nil fun aa ha => hK22 _ _ _ ?_ aa ha
          refine CW.seq fun K23 hK23 => ?_
          refine CW.seq fun K24 hK24 => ?_
          refine CW.region [0, 1, 2, 3, 4, 5, 6, 7, 8, 9, 10, 11] rfl ?_
          refine LW.ex rfl rfl rfl rfl (Ex.move rfl) hS.rd ?_
          refine LW.ex rfl rfl rfl rfl (Ex.neq rfl rfl rfl) hS.rd ?_
          refine LW.splitB (fun h17_1 => ?_) (fun h17_1 => ?_)
          · have h17_1 := of_decide_eq_true h17_1
            omega
          · have h17_1 := of_decide_eq_false h17_1
            refine LW.ex rfl rfl rfl rfl (Ex.move rfl) hS.rd ?_
            refine LW.ex rfl rfl rfl rfl (Ex.move rfl) hS.rd ?_
            refine LW.ex rfl rfl rfl rfl (Ex.lenSl rfl Try.underlying33 rfl) hS.rd ?_
            refine LW.ex rfl rfl rfl rfl (Ex.neq rfl rfl rfl) hS.rd ?_
            refine LW.splitB (fun h17_5 => ?_) (fun h17_5 => ?_)
            · have h17_5 := of_decide_eq_true h17_5
              simp only at h17_5
              omega
            · have h17_5 := of_decide_eq_false h17_5
              refine LW.ex rfl rfl rfl rfl (by first | exact Ex.pick_yes rfl rfl | exact Ex.pick_no rfl rfl) hS.rd ?_
              refine LW.ex rfl rfl rfl rfl (Ex.move rfl) hS.rd ?_
              refine LW.ex rfl rfl rfl rfl (Ex.move rfl) hS.rd ?_
              refine LW.hv rfl rfl rfl rfl (Hv.callS hS rfl rfl rfl cb29 (taps_c (tapsN z.Key dx dy (nOf (i + 1))) _ _ _ _ hS.imm hs112)) fun v w124 ⟨hv, hS⟩ => ?_
              subst hv
              refine LW.splitB (fun h17_9 => ?_) (fun h17_9 => ?_)
              · skip
                refine LW.ex rfl rfl rfl rfl (Ex.not rfl rfl) hS.rd ?_
                refine LW.ex rfl rfl rfl rfl (by first | exact Ex.pick_yes rfl rfl | exact Ex.pick_no rfl rfl) hS.rd ?_
                refine LW.nil fun aa ha => hK24 _ _ _ ?_ aa ha
                refine CW.no rfl ?_
                refine CW.skip fun aa ha => hK23 _ _ _ ?_ aa ha
                refine CW.region [0, 1] rfl ?_
                refine LW.ex rfl rfl rfl rfl (Ex.move rfl) hS.rd ?_
                refine LW.ex rfl rfl rfl rfl (Ex.assign rfl) hS.rd ?_
                refine LW.nil fun aa ha => hK21 _ _ _ ?_ aa ha
                refine CW.region [0, 1, 2] rfl ?_
                refine LW.ex rfl rfl rfl rfl (Ex.move rfl) hS.rd ?_
                refine LW.ex rfl rfl rfl rfl (Ex.add rfl rfl (by first | exact inc64 (by omega) | exact addN (by omega) | exact w64 (by omega) (by omega))) hS.rd ?_
                refine LW.ex rfl rfl rfl rfl (Ex.assign rfl) hS.rd ?_
                refine LW.nil fun aa ha => ?_
                refine ⟨_, _, ?m14, ⟨i + 1, tapsN z.Key dx dy (nOf (i + 1)), ad112, c112, μ112, (by first | omega | (simp; done) | (simp; omega)), rfl, rfl, hS, rfl, hsa, hs112⟩, ha.sub ⟨rfl, rfl, rfl, rfl, rfl, rfl, rfl, rfl, rfl, trivial⟩⟩
                case m14 => omega
              · rw [hnv] at h17_9; cases h17_9
        · have h14_6 := of_decide_eq_false h14_6
          refine LW.nil fun aa ha => hK20 _ _ _ ?_ aa ha
          refine CW.no rfl ?_
          refine CW.exit fun aa ha => hK17 _ _ _ ?_ aa ha
          refine CW.seq fun K25 hK25 => ?_
          have hn4 : 4 ≤ nOf i := by have := nOf_ge i; omega
          have hsh := tapsN_shift (key := z.Key) (dx := dx) (dy := dy) hn4
          rw [← htp] at hsh
          obtain ⟨r1, hr1, hr1a, hr1b⟩ := tmod_room x.e (q := z.X1 - z.X0 + 1) (by omega)
          obtain ⟨r2, hr2, hr2a, hr2b⟩ := tmod_room x.f (q := z.Y1 - z.Y0 + 1) (by omega)
          have hTF := tapsN_F (key := z.Key) (dx := dx) (dy := dy) (by rw [hz0]; exact hlet) hdx1 hdy1 i
          rw [← htp] at hTF
          have hTr : Rising tp := by rw [htp]; exact tapsN_r _ _ _ _
          have hTl : tp.length ≤ 1 := by rw [htp]; exact tapsN_len _ _ _ _
          have hTb : ∀ y ∈ tp, TapB y := fun y hy => tapF_b (hTF y hy).1
          have hpp : inP ⟨z.X0 + r1 + dx, z.Y0 + r2 + dy⟩ = true := inP_of (by simp only; omega) (by simp only; omega) (by simp only; omega) (by simp only; omega)
          have hc0 : costOf z tp ⟨z.X0 + r1 + dx, z.Y0 + r2 + dy⟩ = 0 := cost_in (by rw [hsh]; simp only; omega) (by rw [hsh]; simp only; omega) (by rw [hsh]; simp only; omega) (by rw [hsh]; simp only; omega)
          have hme : meant [z] tp ⟨z.X0 + r1 + dx, z.Y0 + r2 + dy⟩ = [⟨z.Key, 0⟩] := by
            unfold meant mayMean; rw [List.filterMap_cons, hc0]; simp
          have hT : touchR [z] tp ⟨z.X0 + r1 + dx, z.Y0 + r2 + dy⟩ = ([⟨z.Key, 0⟩], 0) := by rw [touchR_in hpp (by rw [hme]; simp), hme, few_one]
          have hS := hS.drew
          refine CW.draw 32 (.ex 0 <| .ex 1 <| .ex 2 <| .ex 3 <| .ex 4 <| .ex 5 <| .ex 6 <| .ex 7 <| .ex 8 <| .ex 9 <| .ex 10 <| .ex 11 <| .ex 12 <| .ex 13 <| .ex 14 <| .ex 15 <| .ex 16 <| .ex 17 <| .ex 18 <| .ex 19 <| .ex 20 <| .ex 21 <| .ex 22 <| .ex 23 <| .ex 24 <| .ex 25 <| .ex 26 <| .ex 27 <| .ex 28 <| .ex 29 <| .two 30 (.one 31 <| .done) 31 (.one 30 <| .done)) [32] (Rd _ _) mixed (by kernel_rfl) rfl rfl hS.rd ?_
          refine PW.ex rfl rfl rfl rfl (Ex.fieldO 1 Try.underlying57 rfl rfl ti3 rfl) ?_
          refine PW.ex rfl rfl rfl rfl (Ex.load1 ti3 rfl rfl (by first | exact ob 0 rfl rfl | exact ob 1 rfl rfl | exact ob 2 rfl rfl | exact ob 3 rfl rfl | exact ob 4 rfl rfl | exact ob 5 rfl rfl | exact ob 6 rfl rfl | exact Rd.imm ‹_› | exact sb 0 rfl ‹_› | exact sb 1 rfl ‹_› | exact sb 2 rfl ‹_› | exact sb 3 rfl ‹_›)) ?_
          refine PW.ex rfl rfl rfl rfl (Ex.indexArr (j := 4) Try.underlying76 ti5 rfl rfl rfl (by omega)) ?_
          refine PW.ex rfl rfl rfl rfl (Ex.load1 ti5 rfl rfl (by first | exact ob 0 rfl rfl | exact ob 1 rfl rfl | exact ob 2 rfl rfl | exact ob 3 rfl rfl | exact ob 4 rfl rfl | exact ob 5 rfl rfl | exact ob 6 rfl rfl | exact Rd.imm ‹_› | exact sb 0 rfl ‹_› | exact sb 1 rfl ‹_› | exact sb 2 rfl ‹_› | exact sb 3 rfl ‹_›)) ?_
          refine PW.ex rfl rfl rfl rfl (Ex.conv Try.underlying5 Try.underlying3 rfl (by first | exact w64 (by omega) (by omega) | exact wu8 (by omega) (by omega))) ?_
          refine PW.ex rfl rfl rfl rfl (Ex.fieldO 3 Try.underlying57 rfl rfl ti3 rfl) ?_
          refine PW.ex rfl rfl rfl rfl (Ex.load1 ti3 rfl rfl (by first | exact ob 0 rfl rfl | exact ob 1 rfl rfl | exact ob 2 rfl rfl | exact ob 3 rfl rfl | exact ob 4 rfl rfl | exact ob 5 rfl rfl | exact ob 6 rfl rfl | exact Rd.imm ‹_› | exact sb 0 rfl ‹_› | exact sb 1 rfl ‹_› | exact sb 2 rfl ‹_› | exact sb 3 rfl ‹_›)) ?_
          refine PW.ex rfl rfl rfl rfl (Ex.fieldO 1 Try.underlying57 rfl rfl ti3 rfl) ?_
          refine PW.ex rfl rfl rfl rfl (Ex.load1 ti3 rfl rfl (by first | exact ob 0 rfl rfl | exact ob 1 rfl rfl | exact ob 2 rfl rfl | exact ob 3 rfl rfl | exact ob 4 rfl rfl | exact ob 5 rfl rfl | exact ob 6 rfl rfl | exact Rd.imm ‹_› | exact sb 0 rfl ‹_› | exact sb 1 rfl ‹_› | exact sb 2 rfl ‹_› | exact sb 3 rfl ‹_›)) ?_
          refine PW.ex rfl rfl rfl rfl (Ex.sub rfl rfl (w64 (by omega) (by omega))) ?_
          refine PW.ex rfl rfl rfl rfl (Ex.add rfl rfl (w64 (by omega) (by omega))) ?_
          refine PW.ex rfl rfl rfl rfl (Ex.rem rfl rfl (by omega) hr1) ?_
          refine PW.ex rfl rfl rfl rfl (Ex.add rfl rfl (w64 (by omega) (by omega))) ?_
          refine PW.ex rfl rfl rfl rfl (Ex.move rfl) ?_
          refine PW.ex rfl rfl rfl rfl (Ex.add rfl rfl (w64 (by omega) (by omega))) ?_
          refine PW.ex rfl rfl rfl rfl (Ex.fieldO 2 Try.underlying57 rfl rfl ti3 rfl) ?_
          refine PW.ex rfl rfl rfl rfl (Ex.load1 ti3 rfl rfl (by first | exact ob 0 rfl rfl | exact ob 1 rfl rfl | exact ob 2 rfl rfl | exact ob 3 rfl rfl | exact ob 4 rfl rfl | exact ob 5 rfl rfl | exact ob 6 rfl rfl | exact Rd.imm ‹_› | exact sb 0 rfl ‹_› | exact sb 1 rfl ‹_› | exact sb 2 rfl ‹_› | exact sb 3 rfl ‹_›)) ?_
          refine PW.ex rfl rfl rfl rfl (Ex.indexArr (j := 5) Try.underlying76 ti5 rfl rfl rfl (by omega)) ?_
          refine PW.ex rfl rfl rfl rfl (Ex.load1 ti5 rfl rfl (by first | exact ob 0 rfl rfl | exact ob 1 rfl rfl | exact ob 2 rfl rfl | exact ob 3 rfl rfl | exact ob 4 rfl rfl | exact ob 5 rfl rfl | exact ob 6 rfl rfl | exact Rd.imm ‹_› | exact sb 0 rfl ‹_› | exact sb 1 rfl ‹_› | exact sb 2 rfl ‹_› | exact sb 3 rfl ‹_›)) ?_
          refine PW.ex rfl rfl rfl rfl (Ex.conv Try.underlying5 Try.underlying3 rfl (by first | exact w64 (by omega) (by omega) | exact wu8 (by omega) (by omega))) ?_
          refine PW.ex rfl rfl rfl rfl (Ex.fieldO 4 Try.underlying57 rfl rfl ti3 rfl) ?_
          refine PW.ex rfl rfl rfl rfl (Ex.load1 ti3 rfl rfl (by first | exact ob 0 rfl rfl | exact ob 1 rfl rfl | exact ob 2 rfl rfl | exact ob 3 rfl rfl | exact ob 4 rfl rfl | exact ob 5 rfl rfl | exact ob 6 rfl rfl | exact Rd.imm ‹_› | exact sb 0 rfl ‹_› | exact sb 1 rfl ‹_› | exact sb 2 rfl ‹_› | exact sb 3 rfl ‹_›)) ?_
          refine PW.ex rfl rfl rfl rfl (Ex.fieldO 2 Try.underlying57 rfl rfl ti3 rfl) ?_
          refine PW.ex rfl rfl rfl rfl (Ex.load1 ti3 rfl rfl (by first | exact ob 0 rfl rfl | exact ob 1 rfl rfl | exact ob 2 rfl rfl | exact ob 3 rfl rfl | exact ob 4 rfl rfl | exact ob 5 rfl rfl | exact ob 6 rfl rfl | exact Rd.imm ‹_› | exact sb 0 rfl ‹_› | exact sb 1 rfl ‹_› | exact sb 2 rfl ‹_› | exact sb 3 rfl ‹_›)) ?_
          refine PW.ex rfl rfl rfl rfl (Ex.sub rfl rfl (w64 (by omega) (by omega))) ?_
          refine PW.ex rfl rfl rfl rfl (Ex.add rfl rfl (w64 (by omega) (by omega))) ?_
          refine PW.ex rfl rfl rfl rfl (Ex.rem rfl rfl (by omega) hr2) ?_
          refine PW.ex rfl rfl rfl rfl (Ex.add rfl rfl (w64 (by omega) (by omega))) ?_
          refine PW.ex rfl rfl rfl rfl (Ex.move rfl) ?_
          refine PW.ex rfl rfl rfl rfl (Ex.add rfl rfl (w64 (by omega) (by omega))) ?_
          refine PW.two rfl rfl rfl rfl rfl rfl rfl rfl (Hv.callS hS rfl rfl rfl cb14 (point_c (z.X0 + r1 + dx) (z.Y0 + r2 + dy) _)) (fun _ _ h => h.2.rd) (Hv.alloc ti36 hS) (fun _ _ ⟨_, _, _, h⟩ => h.rd.tail) (fun v w158 ⟨hv, hS⟩ => ?gA26) (fun v w16 ⟨b16, hv, hb16, hS⟩ => ?gB26)
          case gA26 =>
            skip
            subst hv
            refine PW.hv rfl rfl rfl rfl (Hv.alloc ti36 hS) (fun _ _ ⟨_, _, _, h⟩ => h.rd.tail) fun v w16 ⟨b16, hv, hb16, hS⟩ => ?_
            subst hv
            refine PW.nil ?_
            refine LW.hu rfl rfl rfl (Hv.storeN (k := 0) ti36 hS rfl rfl rfl rfl (by simp [Value.oneCell'])) fun _ w_32 hS => ?_
            dsimp only [List.set] at hS
            refine LW.nil fun aa ha => hK25 _ _ _ ?_ aa ha
            refine CW.seq fun K27 hK27 => ?_
            refine CW.region [0, 1, 2, 3, 4, 5, 6, 7, 8] rfl ?_
            refine LW.ex rfl rfl rfl rfl (Ex.load3c ti31 rfl rfl (by first | exact ob 0 rfl rfl | exact ob 1 rfl rfl | exact ob 2 rfl rfl | exact ob 3 rfl rfl | exact ob 4 rfl rfl | exact ob 5 rfl rfl | exact ob 6 rfl rfl | exact Rd.imm ‹_› | exact sb 0 rfl ‹_› | exact sb 1 rfl ‹_› | exact sb 2 rfl ‹_› | exact sb 3 rfl ‹_›) (by first | exact ob 0 rfl rfl | exact ob 1 rfl rfl | exact ob 2 rfl rfl | exact ob 3 rfl rfl | exact ob 4 rfl rfl | exact ob 5 rfl rfl | exact ob 6 rfl rfl | exact Rd.imm ‹_› | exact sb 0 rfl ‹_› | exact sb 1 rfl ‹_› | exact sb 2 rfl ‹_› | exact sb 3 rfl ‹_›) (by first | exact ob 0 rfl rfl | exact ob 1 rfl rfl | exact ob 2 rfl rfl | exact ob 3 rfl rfl | exact ob 4 rfl rfl | exact ob 5 rfl rfl | exact ob 6 rfl rfl | exact Rd.imm ‹_› | exact sb 0 rfl ‹_› | exact sb 1 rfl ‹_› | exact sb 2 rfl ‹_› | exact sb 3 rfl ‹_›)) hS.rd ?_
            refine LW.ex rfl rfl rfl rfl (Ex.move rfl) hS.rd ?_
            refine LW.ex rfl rfl rfl rfl (Ex.load2c ti36 rfl rfl (by first | exact ob 0 rfl rfl | exact ob 1 rfl rfl | exact ob 2 rfl rfl | exact ob 3 rfl rfl | exact ob 4 rfl rfl | exact ob 5 rfl rfl | exact ob 6 rfl rfl | exact Rd.imm ‹_› | exact sb 0 rfl ‹_› | exact sb 1 rfl ‹_› | exact sb 2 rfl ‹_› | exact sb 3 rfl ‹_›) (by first | exact ob 0 rfl rfl | exact ob 1 rfl rfl | exact ob 2 rfl rfl | exact ob 3 rfl rfl | exact ob 4 rfl rfl | exact ob 5 rfl rfl | exact ob 6 rfl rfl | exact Rd.imm ‹_› | exact sb 0 rfl ‹_› | exact sb 1 rfl ‹_› | exact sb 2 rfl ‹_› | exact sb 3 rfl ‹_›)) hS.rd ?_
            refine LW.hv rfl rfl rfl rfl (Hv.callV hS rfl rfl rfl cb15 (touchF_c (l := [z]) (taps := tp) (p := ⟨z.X0 + r1 + dx, z.Y0 + r2 + dy⟩) hS.imm hsa hst hzbl hTb hTr hzk (by simp) (by omega))) fun v w163 ⟨μ163, hv163, hm163, hS⟩ => ?_
            unfold IsTR at hv163
            rw [hT] at hv163
            obtain ⟨ad163, c163, hv, hs163⟩ := hv163
            subst hv
            have hst := hst.mono hm163
            refine LW.ex rfl rfl rfl rfl (Ex.move rfl) hS.rd ?_
            refine LW.ex rfl rfl rfl rfl (Ex.extract rfl rfl) hS.rd ?_
            refine LW.ex rfl rfl rfl rfl (Ex.extract rfl rfl) hS.rd ?_
            refine LW.ex rfl rfl rfl rfl (Ex.assign rfl) hS.rd ?_
            refine LW.ex rfl rfl rfl rfl (Ex.assign rfl) hS.rd ?_
            refine LW.nil fun aa ha => hK27 _ _ _ ?_ aa ha
            refine CW.seq fun K28 hK28 => ?_
            refine CW.region [0, 1, 2, 3, 4, 5, 6, 7, 8, 9, 10, 11, 12, 13, 14, 15, 16, 17, 18, 19, 20, 21, 22] rfl ?_
            refine LW.ex rfl rfl rfl rfl (Ex.move rfl) hS.rd ?_
            refine LW.ex rfl rfl rfl rfl (Ex.eql rfl rfl rfl) hS.rd ?_
            refine LW.splitB (fun h22_1 => ?_) (fun h22_1 => ?_)
            · have h22_1 := of_decide_eq_true h22_1
              refine LW.ex rfl rfl rfl rfl (Ex.move rfl) hS.rd ?_
              refine LW.ex rfl rfl rfl rfl (Ex.move rfl) hS.rd ?_
              refine LW.ex rfl rfl rfl rfl (Ex.fieldO 0 Try.underlying57 rfl rfl ti5 rfl) hS.rd ?_
              refine LW.ex rfl rfl rfl rfl (Ex.load1 ti5 rfl rfl (by first | exact ob 0 rfl rfl | exact ob 1 rfl rfl | exact ob 2 rfl rfl | exact ob 3 rfl rfl | exact ob 4 rfl rfl | exact ob 5 rfl rfl | exact ob 6 rfl rfl | exact Rd.imm ‹_› | exact sb 0 rfl ‹_› | exact sb 1 rfl ‹_› | exact sb 2 rfl ‹_› | exact sb 3 rfl ‹_›)) hS.rd ?_
              refine LW.hv rfl rfl rfl rfl (Hv.callS hS rfl rfl rfl cb27 (costIn_c [⟨z.Key, 0⟩] z.Key _ _ _ _ hS.imm hs163)) fun v w172 ⟨hv, hS⟩ => ?_
              subst hv
              refine LW.ex rfl rfl rfl rfl (Ex.eql rfl rfl rfl) hS.rd ?_
              refine LW.splitB (fun h22_7 => ?_) (fun h22_7 => ?_)
              · have h22_7 := of_decide_eq_true h22_7
                refine LW.ex rfl rfl rfl rfl (by first | exact Ex.pick_yes rfl rfl | exact Ex.pick_no rfl rfl) hS.rd ?_
                refine LW.ex rfl rfl rfl rfl (Ex.move rfl) hS.rd ?_
                refine LW.ex rfl rfl rfl rfl (Ex.move rfl) hS.rd ?_
                refine LW.ex rfl rfl rfl rfl (Ex.fieldO 0 Try.underlying57 rfl rfl ti5 rfl) hS.rd ?_
                refine LW.ex rfl rfl rfl rfl (Ex.load1 ti5 rfl rfl (by first | exact ob 0 rfl rfl | exact ob 1 rfl rfl | exact ob 2 rfl rfl | exact ob 3 rfl rfl | exact ob 4 rfl rfl | exact ob 5 rfl rfl | exact ob 6 rfl rfl | exact Rd.imm ‹_› | exact sb 0 rfl ‹_› | exact sb 1 rfl ‹_› | exact sb 2 rfl ‹_› | exact sb 3 rfl ‹_›)) hS.rd ?_
                refine LW.hv rfl rfl rfl rfl (Hv.callS hS rfl rfl rfl cb21 (shiftR_c tp z.Key _ _ _ _ hS.imm hst hTb hTr (by omega))) fun v w179 ⟨hv, hS⟩ => ?_
                subst hv
                refine LW.ex rfl rfl rfl rfl (Ex.move rfl) hS.rd ?_
                refine LW.ex rfl rfl rfl rfl (Ex.move rfl) hS.rd ?_
                refine LW.hv rfl rfl rfl rfl (Hv.callS hS rfl rfl rfl cb14 (point_c dx dy _)) fun v w182 ⟨hv, hS⟩ => ?_
                subst hv
                refine LW.ex rfl rfl rfl rfl (Ex.eqlSt (by kernel_rfl) rfl rfl (ptEq (shiftOf tp z.Key) ⟨dx, dy⟩)) hS.rd ?_
                refine LW.splitB (fun h22_17 => ?_) (fun h22_17 => ?_)
                · skip
                  refine LW.ex rfl rfl rfl rfl (by first | exact Ex.pick_yes rfl rfl | exact Ex.pick_no rfl rfl) hS.rd ?_
                  refine LW.ex rfl rfl rfl rfl (Ex.move rfl) hS.rd ?_
                  refine LW.ex rfl rfl rfl rfl (Ex.move rfl) hS.rd ?_
                  refine LW.ex rfl rfl rfl rfl (by first | exact Ex.pick_yes rfl rfl | exact Ex.pick_no rfl rfl) hS.rd ?_
                  refine LW.ex rfl rfl rfl rfl (Ex.assign rfl) hS.rd ?_
                  refine LW.nil fun aa ha => hK28 _ _ _ ?_ aa ha
                  refine CW.ret fun aa ha => ?_
                  refine ret_one ha Try.results9 rfl ?_
                  exact hS.retS
                · rw [hsh] at h22_17
                  simp at h22_17
              · have h22_7 := of_decide_eq_false h22_7
                exfalso
                apply h22_7
                simp [costIn]
            · have h22_1 := of_decide_eq_false h22_1
              omega
          case gB26 =>
            skip
            subst hv
            refine PW.hv rfl rfl rfl rfl (Hv.callS hS rfl rfl rfl cb14 (point_c (z.X0 + r1 + dx) (z.Y0 + r2 + dy) _)) (fun _ _ h => h.2.rd.tail) fun v w158 ⟨hv, hS⟩ => ?_
            subst hv
            refine PW.nil ?_
            refine LW.hu rfl rfl rfl (Hv.storeN (k := 0) ti36 hS rfl rfl rfl rfl (by simp [Value.oneCell'])) fun _ w_32 hS => ?_
            dsimp only [List.set] at hS
            refine LW.nil fun aa ha => hK25 _ _ _ ?_ aa ha
            refine CW.seq fun K29 hK29 => ?_
            refine CW.region [0, 1, 2, 3, 4, 5, 6, 7, 8] rfl ?_
            refine LW.ex rfl rfl rfl rfl (Ex.load3c ti31 rfl rfl (by first | exact ob 0 rfl rfl | exact ob 1 rfl rfl | exact ob 2 rfl rfl | exact ob 3 rfl rfl | exact ob 4 rfl rfl | exact ob 5 rfl rfl | exact ob 6 rfl rfl | exact Rd.imm ‹_› | exact sb 0 rfl ‹_› | exact sb 1 rfl ‹_› | exact sb 2 rfl ‹_› | exact sb 3 rfl ‹_›) (by first | exact ob 0 rfl rfl | exact ob 1 rfl rfl | exact ob 2 rfl rfl | exact ob 3 rfl rfl | exact ob 4 rfl rfl | exact ob 5 rfl rfl | exact ob 6 rfl rfl | exact Rd.imm ‹_› | exact sb 0 rfl ‹_› | exact sb 1 rfl ‹_› | exact sb 2 rfl ‹_› | exact sb 3 rfl ‹_›) (by first | exact ob 0 rfl rfl | exact ob 1 rfl rfl | exact ob 2 rfl rfl | exact ob 3 rfl rfl | exact ob 4 rfl rfl | exact ob 5 rfl rfl | exact ob 6 rfl rfl | exact Rd.imm ‹_› | exact sb 0 rfl ‹_› | exact sb 1 rfl ‹_› | exact sb 2 rfl ‹_› | exact sb 3 rfl ‹_›)) hS.rd ?_
            refine LW.ex rfl rfl rfl rfl (Ex.move rfl) hS.rd ?_
            refine LW.ex rfl rfl rfl rfl (Ex.load2c ti36 rfl rfl (by first | exact ob 0 rfl rfl | exact ob 1 rfl rfl | exact ob 2 rfl rfl | exact ob 3 rfl rfl | exact ob 4 rfl rfl | exact ob 5 rfl rfl | exact ob 6 rfl rfl | exact Rd.imm ‹_› | exact sb 0 rfl ‹_› | exact sb 1 rfl ‹_› | exact sb 2 rfl ‹_› | exact sb 3 rfl ‹_›) (by first | exact ob 0 rfl rfl | exact ob 1 rfl rfl | exact ob 2 rfl rfl | exact ob 3 rfl rfl | exact ob 4 rfl rfl | exact ob 5 rfl rfl | exact ob 6 rfl rfl | exact Rd.imm ‹_› | exact sb 0 rfl ‹_› | exact sb 1 rfl ‹_› | exact sb 2 rfl ‹_› | exact sb 3 rfl ‹_›)) hS.rd ?_
            refine LW.hv rfl rfl rfl rfl (Hv.callV hS rfl rfl rfl cb15 (touchF_c (l := [z]) (taps := tp) (p := ⟨z.X0 + r1 + dx, z.Y0 + r2 + dy⟩) hS.imm hsa hst hzbl hTb hTr hzk (by simp) (by omega))) fun v w163 ⟨μ163, hv163, hm163, hS⟩ => ?_
            unfold IsTR at hv163
            rw [hT] at hv163
            obtain ⟨ad163, c163, hv, hs163⟩ := hv163
            subst hv
            have hst := hst.mono hm163
            refine LW.ex rfl rfl rfl rfl (Ex.move rfl) hS.rd ?_
            refine LW.ex rfl rfl rfl rfl (Ex.extract rfl rfl) hS.rd ?_
            refine LW.ex rfl rfl rfl rfl (Ex.extract rfl rfl) hS.rd ?_
            refine LW.ex rfl rfl rfl rfl (Ex.assign rfl) hS.rd ?_
            refine LW.ex rfl rfl rfl rfl (Ex.assign rfl) hS.rd ?_
            refine LW.nil fun aa ha => hK29 _ _ _ ?_ aa ha
            refine CW.seq fun K30 hK30 => ?_
            refine CW.region [0, 1, 2, 3, 4, 5, 6, 7, 8, 9, 10, 11, 12, 13, 14, 15, 16, 17, 18, 19, 20, 21, 22] rfl ?_
            refine LW.ex rfl rfl rfl rfl (Ex.move rfl) hS.rd ?_
            refine LW.ex rfl rfl rfl rfl (Ex.eql rfl rfl rfl) hS.rd ?_
            refine LW.splitB (fun h22_1 => ?_) (fun h22_1 => ?_)
            · have h22_1 := of_decide_eq_true h22_1
              refine LW.ex rfl rfl rfl rfl (Ex.move rfl) hS.rd ?_
              refine LW.ex rfl rfl rfl rfl (Ex.move rfl) hS.rd ?_
              refine LW.ex rfl rfl rfl rfl (Ex.fieldO 0 Try.underlying57 rfl rfl ti5 rfl) hS.rd ?_
              refine LW.ex rfl rfl rfl rfl (Ex.load1 ti5 rfl rfl (by first | exact ob 0 rfl rfl | exact ob 1 rfl rfl | exact ob 2 rfl rfl | exact ob 3 rfl rfl | exact ob 4 rfl rfl | exact ob 5 rfl rfl | exact ob 6 rfl rfl | exact Rd.imm ‹_› | exact sb 0 rfl ‹_› | exact sb 1 rfl ‹_› | exact sb 2 rfl ‹_› | exact sb 3 rfl ‹_›)) hS.rd ?_
              refine LW.hv rfl rfl rfl rfl (Hv.callS hS rfl rfl rfl cb27 (costIn_c [⟨z.Key, 0⟩] z.Key _ _ _ _ hS.imm hs163)) fun v w172 ⟨hv, hS⟩ => ?_
              subst hv
              refine LW.ex rfl rfl rfl rfl (Ex.eql rfl rfl rfl) hS.rd ?_
              refine LW.splitB (fun h22_7 => ?_) (fun h22_7 => ?_)
              · have h22_7 := of_decide_eq_true h22_7
                refine LW.ex rfl rfl rfl rfl (by first | exact Ex.pick_yes rfl rfl | exact Ex.pick_no rfl rfl) hS.rd ?_
                refine LW.ex rfl rfl rfl rfl (Ex.move rfl) hS.rd ?_
                refine LW.ex rfl rfl rfl rfl (Ex.move rfl) hS.rd ?_
                refine LW.ex rfl rfl rfl rfl (Ex.fieldO 0 Try.underlying57 rfl rfl ti5 rfl) hS.rd ?_
                refine LW.ex rfl rfl rfl rfl (Ex.load1 ti5 rfl rfl (by first | exact ob 0 rfl rfl | exact ob 1 rfl rfl | exact ob 2 rfl rfl | exact ob 3 rfl rfl | exact ob 4 rfl rfl | exact ob 5 rfl rfl | exact ob 6 rfl rfl | exact Rd.imm ‹_› | exact sb 0 rfl ‹_› | exact sb 1 rfl ‹_› | exact sb 2 rfl ‹_› | exact sb 3 rfl ‹_›)) hS.rd ?_
                refine LW.hv rfl rfl rfl rfl (Hv.callS hS rfl rfl rfl cb21 (shiftR_c tp z.Key _ _ _ _ hS.imm hst hTb hTr (by omega))) fun v w179 ⟨hv, hS⟩ => ?_
                subst hv
                refine LW.ex rfl rfl rfl rfl (Ex.move rfl) hS.rd ?_
                refine LW.ex rfl rfl rfl rfl (Ex.move rfl) hS.rd ?_
                refine LW.hv rfl rfl rfl rfl (Hv.callS hS rfl rfl rfl cb14 (point_c dx dy _)) fun v w182 ⟨hv, hS⟩ => ?_
                subst hv
                refine LW.ex rfl rfl rfl rfl (Ex.eqlSt (by kernel_rfl) rfl rfl (ptEq (shiftOf tp z.Key) ⟨dx, dy⟩)) hS.rd ?_
                refine LW.splitB (fun h22_17 => ?_) (fun h22_17 => ?_)
                · skip
                  refine LW.ex rfl rfl rfl rfl (by first | exact Ex.pick_yes rfl rfl | exact Ex.pick_no rfl rfl) hS.rd ?_
                  refine LW.ex rfl rfl rfl rfl (Ex.move rfl) hS.rd ?_
                  refine LW.ex rfl rfl rfl rfl (Ex.move rfl) hS.rd ?_
                  refine LW.ex rfl rfl rfl rfl (by first | exact Ex.pick_yes rfl rfl | exact Ex.pick_no rfl rfl) hS.rd ?_
                  refine LW.ex rfl rfl rfl rfl (Ex.assign rfl) hS.rd ?_
                  refine LW.nil fun aa ha => hK30 _ _ _ ?_ aa ha
                  refine CW.ret fun aa ha => ?_
                  refine ret_one ha Try.results9 rfl ?_
                  exact hS.retS
                · rw [hsh] at h22_17
                  simp at h22_17
              · have h22_7 := of_decide_eq_false h22_7
                exfalso
                apply h22_7
                simp [costIn]
            · have h22_1 := of_decide_eq_false h22_1
              omega
      case gB15 =>
        skip
        subst hv
        refine PW.hv rfl rfl rfl rfl (Hv.callS hS rfl rfl rfl cb28 (middle_c z _ hzb)) (fun _ _ h => h.2.rd.tail) fun v w87 ⟨hv, hS⟩ => ?_
        subst hv
        refine PW.ex rfl rfl rfl rfl (Ex.assign rfl) ?_
        refine PW.ex rfl rfl rfl rfl (Ex.assign rfl) ?_
        refine PW.nil ?_
        refine LW.hu rfl rfl rfl (Hv.storeN (k := 0) ti36 hS rfl rfl rfl rfl (by simp [Value.oneCell'])) fun _ w_15 hS => ?_
        dsimp only [List.set] at hS
        refine LW.nil fun aa ha => hK14 _ _ _ ?_ aa ha
        refine CW.seq fun K31 hK31 => ?_
        have hS : St w _ μa [Own.obj b11 [.int .i64 (middle z).X, .int .i64 (middle z).Y] 36, Own.obj b8 (areaL z) 57, Own.obj b7 [.slice (some ⟨b38, 0, none⟩) 1 1, .slice none 0 0, .slice none 0 0] 31, Own.obj b6 [.slice (some ⟨bl, ol, none⟩) (made l).length c0, .slice a1 2 c1, .slice a2 2 c2] 31, Own.obj b3 [.int .u8 x.a.toNat, .int .u8 x.b.toNat, .int .u8 x.c.toNat, .int .u8 x.d.toNat, .int .u8 x.e.toNat, .int .u8 x.f.toNat] 76] := hS
        rw [← hcx, ← hcy] at hS
        refine CW.region [0, 1] rfl ?_
        refine LW.hv rfl rfl rfl rfl (Hv.buildSl hS Try.underlying33 ti82 rfl rfl rfl rfl rfl rfl) fun v w88 ⟨b88, hv, hb88, hS⟩ => ?_
        subst hv
        obtain ⟨μt, hmt, hS, hst⟩ := hS.shutRow (α := Tap) 0 rfl (RepL.nil _) (by simp [maxLen])
        dsimp only [List.eraseIdx] at hS
        have hsa := hsa.mono hmt
        refine LW.ex rfl rfl rfl rfl (Ex.assign rfl) hS.rd ?_
        refine LW.nil fun aa ha => hK31 _ _ _ ?_ aa ha
        refine CW.seq fun K32 hK32 => ?_
        refine CW.seq fun K33 hK33 => ?_
        refine CW.region [0] rfl ?_
        refine LW.ex rfl rfl rfl rfl (Ex.assign rfl) hS.rd ?_
        refine LW.nil fun aa ha => hK33 _ _ _ ?_ aa ha
        refine CW.block ?_
        refine CW.loop (fun q m wl14 => ∃ (i : Nat) (tp : List Tap) (adp : Option Addr) (cp : Nat) (μ6 : Mem), i ≤ 4 + q3 ∧ q = 100 - i ∧ m = [(3, .pointer (some ⟨b3, 0, none⟩)), (5, .bool true), (7, .pointer (some ⟨b7, 0, none⟩)), (8, .pointer (some ⟨b8, 0, none⟩)), (9, .int .i64 dx), (10, .int .i64 dy), (11, .pointer (some ⟨b11, 0, none⟩)), (12, .slice adp tp.length cp), (13, .int .i64 i)] ∧ St w wl14 μ6 [Own.obj b11 [.int .i64 cx, .int .i64 cy] 36, Own.obj b8 (areaL z) 57, Own.obj b7 [.slice (some ⟨b38, 0, none⟩) 1 1, .slice none 0 0, .slice none 0 0] 31, Own.obj b6 [.slice (some ⟨bl, ol, none⟩) (made l).length c0, .slice a1 2 c1, .slice a2 2 c2] 31, Own.obj b3 [.int .u8 x.a.toNat, .int .u8 x.b.toNat, .int .u8 x.c.toNat, .int .u8 x.d.toNat, .int .u8 x.e.toNat, .int .u8 x.f.toNat] 76] ∧ (tp = tapsN z.Key dx dy (nOf i)) ∧ (Sl μ6 (some ⟨b38, 0, none⟩) 1 [z]) ∧ (Sl μ6 adp cp tp)) _ ⟨0, [], some ⟨b88, 0, none⟩, 0, μt, (by first | omega | (simp; done) | (simp; omega)), rfl, rfl, hS, rfl, hsa, hst⟩ ⟨rfl, rfl, rfl, rfl, rfl, rfl, rfl, rfl, rfl, trivial⟩ ?_
        clear hS
        rintro q m wl14 ⟨i, tp, adp, cp, μ6, hi, hq, rfl, hS, htp, hsa, hst⟩
        refine CW.seq fun K34 hK34 => ?_
        refine CW.seq fun K35 hK35 => ?_
        refine CW.region [0, 1, 2, 3, 4, 5, 6] rfl ?_
        refine LW.ex rfl rfl rfl rfl (Ex.move rfl) hS.rd ?_
        refine LW.ex rfl rfl rfl rfl (Ex.indexArr (j := 3) Try.underlying76 ti5 rfl rfl rfl (by omega)) hS.rd ?_
        refine LW.ex rfl rfl rfl rfl (Ex.load1 ti5 rfl rfl (by first | exact ob 0 rfl rfl | exact ob 1 rfl rfl | exact ob 2 rfl rfl | exact ob 3 rfl rfl | exact ob 4 rfl rfl | exact ob 5 rfl rfl | exact ob 6 rfl rfl | exact Rd.imm ‹_› | exact sb 0 rfl ‹_› | exact sb 1 rfl ‹_› | exact sb 2 rfl ‹_› | exact sb 3 rfl ‹_›)) hS.rd ?_
        refine LW.ex rfl rfl rfl rfl (Ex.conv Try.underlying5 Try.underlying3 rfl (by first | exact w64 (by omega) (by omega) | exact wu8 (by omega) (by omega))) hS.rd ?_
        refine LW.ex rfl rfl rfl rfl (Ex.rem rfl rfl (by omega) (show _ = ((q3 : Nat) : Int) from by rw [hq3]; exact tmodN x.d.toNat 77)) hS.rd ?_
        refine LW.ex rfl rfl rfl rfl (Ex.add rfl rfl (w64 (by omega) (by omega))) hS.rd ?_
        refine LW.ex rfl rfl rfl rfl (Ex.lss rfl rfl rfl) hS.rd ?_
        refine LW.splitB (fun h14_6 => ?_) (fun h14_6 => ?_)
        · have h14_6 := of_decide_eq_true h14_6
          refine LW.nil fun aa ha => hK35 _ _ _ ?_ aa ha
          refine CW.yes rfl ?_
          refine CW.skip fun aa ha => hK34 _ _ _ ?_ aa ha
          refine CW.seq fun K36 hK36 => ?_
          refine CW.block ?_
          refine CW.seq fun K37 hK37 => ?_
          have hTF := tapsN_F (key := z.Key) (dx := dx) (dy := dy) (by rw [hz0]; exact hlet) hdx1 hdy1 i
          rw [← htp] at hTF
          have hTF2 := tapsN_F (key := z.Key) (dx := dx) (dy := dy) (by rw [hz0]; exact hlet) hdx1 hdy1 (i + 1)
          have hTr : Rising tp := by rw [htp]; exact tapsN_r _ _ _ _
          have hTl : tp.length ≤ 1 := by rw [htp]; exact tapsN_len _ _ _ _
          have hAr := adapt_one (a := z) (key := z.Key) (dx := dx) (dy := dy) rfl i (by rw [← hcx, ← hcy]; exact hpc)
          rw [← hcx, ← hcy, ← htp] at hAr
          have hnv := tapsR_of (tapsN_r z.Key dx dy (nOf (i + 1))) hTF2
          have hn1 : (tapsN z.Key dx dy (nOf (i + 1))).length = 1 := by
            have := nOf_ge (i + 1)
            unfold tapsN; rw [if_neg (by omega)]; rfl
          have hS := hS.drew
          refine CW.draw 19 (.ex 0 <| .ex 1 <| .ex 2 <| .ex 3 <| .ex 4 <| .ex 5 <| .ex 6 <| .ex 7 <| .ex 8 <| .ex 9 <| .ex 10 <| .ex 11 <| .one 12 <| .one 13 <| .ex 14 <| .ex 15 <| .ex 16 <| .ex 17 <| .ex 18 <| .done) [] (Rd _ _) mixed (by kernel_rfl) rfl rfl hS.rd ?_
          refine PW.ex rfl rfl rfl rfl (Ex.load3c ti31 rfl rfl (by first | exact ob 0 rfl rfl | exact ob 1 rfl rfl | exact ob 2 rfl rfl | exact ob 3 rfl rfl | exact ob 4 rfl rfl | exact ob 5 rfl rfl | exact ob 6 rfl rfl | exact Rd.imm ‹_› | exact sb 0 rfl ‹_› | exact sb 1 rfl ‹_› | exact sb 2 rfl ‹_› | exact sb 3 rfl ‹_›) (by first | exact ob 0 rfl rfl | exact ob 1 rfl rfl | exact ob 2 rfl rfl | exact ob 3 rfl rfl | exact ob 4 rfl rfl | exact ob 5 rfl rfl | exact ob 6 rfl rfl | exact Rd.imm ‹_› | exact sb 0 rfl ‹_› | exact sb 1 rfl ‹_› | exact sb 2 rfl ‹_› | exact sb 3 rfl ‹_›) (by first | exact ob 0 rfl rfl | exact ob 1 rfl rfl | exact ob 2 rfl rfl | exact ob 3 rfl rfl | exact ob 4 rfl rfl | exact ob 5 rfl rfl | exact ob 6 rfl rfl | exact Rd.imm ‹_› | exact sb 0 rfl ‹_› | exact sb 1 rfl ‹_› | exact sb 2 rfl ‹_› | exact sb 3 rfl ‹_›)) ?_
          refine PW.ex rfl rfl rfl rfl (Ex.move rfl) ?_
          refine PW.ex rfl rfl rfl rfl (Ex.fieldO 0 Try.underlying57 rfl rfl ti5 rfl) ?_
          refine PW.ex rfl rfl rfl rfl (Ex.load1 ti5 rfl rfl (by first | exact ob 0 rfl rfl | exact ob 1 rfl rfl | exact ob 2 rfl rfl | exact ob 3 rfl rfl | exact ob 4 rfl rfl | exact ob 5 rfl rfl | exact ob 6 rfl rfl | exact Rd.imm ‹_› | exact sb 0 rfl ‹_› | exact sb 1 rfl ‹_› | exact sb 2 rfl ‹_› | exact sb 3 rfl ‹_›)) ?_
          refine PW.ex rfl rfl rfl rfl (Ex.fieldO 0 Try.underlying36 rfl rfl ti3 rfl) ?_
          refine PW.ex rfl rfl rfl rfl (Ex.load1 ti3 rfl rfl (by first | exact ob 0 rfl rfl | exact ob 1 rfl rfl | exact ob 2 rfl rfl | exact ob 3 rfl rfl | exact ob 4 rfl rfl | exact ob 5 rfl rfl | exact ob 6 rfl rfl | exact Rd.imm ‹_› | exact sb 0 rfl ‹_› | exact sb 1 rfl ‹_› | exact sb 2 rfl ‹_› | exact sb 3 rfl ‹_›)) ?_
          refine PW.ex rfl rfl rfl rfl (Ex.move rfl) ?_
          refine PW.ex rfl rfl rfl rfl (Ex.add rfl rfl (w64 (by omega) (by omega))) ?_
          refine PW.ex rfl rfl rfl rfl (Ex.fieldO 1 Try.underlying36 rfl rfl ti3 rfl) ?_
          refine PW.ex rfl rfl rfl rfl (Ex.load1 ti3 rfl rfl (by first | exact ob 0 rfl rfl | exact ob 1 rfl rfl | exact ob 2 rfl rfl | exact ob 3 rfl rfl | exact ob 4 rfl rfl | exact ob 5 rfl rfl | exact ob 6 rfl rfl | exact Rd.imm ‹_› | exact sb 0 rfl ‹_› | exact sb 1 rfl ‹_› | exact sb 2 rfl ‹_› | exact sb 3 rfl ‹_›)) ?_
          refine PW.ex rfl rfl rfl rfl (Ex.move rfl) ?_
          refine PW.ex rfl rfl rfl rfl (Ex.add rfl rfl (w64 (by omega) (by omega))) ?_
          refine PW.hv rfl rfl rfl rfl (Hv.callS hS rfl rfl rfl cb14 (point_c (cx + dx) (cy + dy) _)) (fun _ _ h => h.2.rd) fun v w111 ⟨hv, hS⟩ => ?_
          subst hv
          refine PW.hv rfl rfl rfl rfl (Hv.callV hS rfl rfl rfl cb17 (adaptF_c (l := [z]) (taps := tp) (key := z.Key) (p := ⟨cx + dx, cy + dy⟩) hS.imm hsa hst hzbl (fun y hy => tapF_b (hTF y hy).1) hTr (fun y hy => (hTF y hy).1.2.2.2) (by simp) (by omega))) (fun _ _ ⟨_, _, hm, h⟩ => Rd.le hm h.rd) fun v w112 ⟨μ112, hv112, hm112, hS⟩ => ?_
          unfold IsAdapt at hv112
          rw [hAr] at hv112
          obtain ⟨ad112, c112, hv, hs112⟩ := hv112
          subst hv
          have hsa := hsa.mono hm112
          refine PW.ex rfl rfl rfl rfl (Ex.move rfl) ?_
          refine PW.ex rfl rfl rfl rfl (Ex.extract rfl rfl) ?_
          refine PW.ex rfl rfl rfl rfl (Ex.extract rfl rfl) ?_
          refine PW.ex rfl rfl rfl rfl (Ex.assign rfl) ?_
          refine PW.ex rfl rfl rfl rfl (Ex.assign rfl) ?_
          refine PW.nil ?_
          refine LW.nil fun aa ha => hK37 _ _ _ ?_ aa ha
          refine CW.seq fun K38 hK38 => ?_
          refine CW.seq fun K39 hK39 => ?_
          refine CW.region [0, 1, 2, 3, 4, 5, 6, 7, 8, 9, 10, 11] rfl ?_
          refine LW.ex rfl rfl rfl rfl (Ex.move rfl) hS.rd ?_
          refine LW.ex rfl rfl rfl rfl (Ex.neq rfl rfl rfl) hS.rd ?_
          refine LW.splitB (fun h17_1 => ?_) (fun h17_1 => ?_)
          · have h17_1 := of_decide_eq_true h17_1
            omega
          · have h17_1 := of_decide_eq_false h17_1
            refine LW.ex rfl rfl rfl rfl (Ex.move rfl) hS.rd ?_
            refine LW.ex rfl rfl rfl rfl (Ex.move rfl) hS.rd ?_
            refine LW.ex rfl rfl rfl rfl (Ex.lenSl rfl Try.underlying33 rfl) hS.rd ?_
            refine LW.ex rfl rfl rfl rfl (Ex.neq rfl rfl rfl) hS.rd ?_
            refine LW.splitB (fun h17_5 => ?_) (fun h17_5 => ?_)
            · have h17_5 := of_decide_eq_true h17_5
              simp only at h17_5
              omega
            · have h17_5 := of_decide_eq_false h17_5
              refine LW.ex rfl rfl rfl rfl (by first | exact Ex.pick_yes rfl rfl | exact Ex.pick_no rfl rfl) hS.rd ?_
              refine LW.ex rfl rfl rfl rfl (Ex.move rfl) hS.rd ?_
              refine LW.ex rfl rfl rfl rfl (Ex.move rfl) hS.rd ?_
              refine LW.hv rfl rfl rfl rfl (Hv.callS hS rfl rfl rfl cb29 (taps_c (tapsN z.Key dx dy (nOf (i + 1))) _ _ _ _ hS.imm hs112)) fun v w124 ⟨hv, hS⟩ => ?_
              subst hv
              refine LW.splitB (fun h17_9 => ?_) (fun h17_9 => ?_)
              · skip
                refine LW.ex rfl rfl rfl rfl (Ex.not rfl rfl) hS.rd ?_
                refine LW.ex rfl rfl rfl rfl (by first | exact Ex.pick_yes rfl rfl | exact Ex.pick_no rfl rfl) hS.rd ?_
                refine LW.nil fun aa ha => hK39 _ _ _ ?_ aa ha
                refine CW.no rfl ?_
                refine CW.skip fun aa ha => hK38 _ _ _ ?_ aa ha
                refine CW.region [0, 1] rfl ?_
                refine LW.ex rfl rfl rfl rfl (Ex.move rfl) hS.rd ?_
                refine LW.ex rfl rfl rfl rfl (Ex.assign rfl) hS.rd ?_
                refine LW.nil fun aa ha => hK36 _ _ _ ?_ aa ha
                refine CW.region [0, 1, 2] rfl ?_
                refine LW.ex rfl rfl rfl rfl (Ex.move rfl) hS.rd ?_
                refine LW.ex rfl rfl rfl rfl (Ex.add rfl rfl (by first | exact inc64 (by omega) | exact addN (by omega) | exact w64 (by omega) (by omega))) hS.rd ?_
                refine LW.ex rfl rfl rfl rfl (Ex.assign rfl) hS.rd ?_
                refine LW.nil fun aa ha => ?_
                refine ⟨_, _, ?m14, ⟨i + 1, tapsN z.Key dx dy (nOf (i + 1)), ad112, c112, μ112, (by first | omega | (simp; done) | (simp; omega)), rfl, rfl, hS, rfl, hsa, hs112⟩, ha.sub ⟨rfl, rfl, rfl, rfl, rfl, rfl, rfl, rfl, rfl, trivial⟩⟩
                case m14 => omega
              · rw [hnv] at h17_9; cases h17_9
        · have h14_6 := of_decide_eq_false h14_6
          refine LW.nil fun aa ha => hK35 _ _ _ ?_ aa ha
          refine CW.no rfl ?_
          refine CW.exit fun aa ha => hK32 _ _ _ ?_ aa ha
          refine CW.seq fun K40 hK40 => ?_
          have hn4 : 4 ≤ nOf i := by have := nOf_ge i; omega
          have hsh := tapsN_shift (key := z.Key) (dx := dx) (dy := dy) hn4
          rw [← htp] at hsh
          obtain ⟨r1, hr1, hr1a, hr1b⟩ := tmod_room x.e (q := z.X1 - z.X0 + 1) (by omega)
          obtain ⟨r2, hr2, hr2a, hr2b⟩ := tmod_room x.f (q := z.Y1 - z.Y0 + 1) (by omega)
          have hTF := tapsN_F (key := z.Key) (dx := dx) (dy := dy) (by rw [hz0]; exact hlet) hdx1 hdy1 i
          rw [← htp] at hTF
          have hTr : Rising tp := by rw [htp]; exact tapsN_r _ _ _ _
          have hTl : tp.length ≤ 1 := by rw [htp]; exact tapsN_len _ _ _ _
          have hTb : ∀ y ∈ tp, TapB y := fun y hy => tapF_b (hTF y hy).1
          have hpp : inP ⟨z.X0 + r1 + dx, z.Y0 + r2 + dy⟩ = true := inP_of (by simp only; omega) (by simp only; omega) (by simp only; omega) (by simp only; omega)
          have hc0 : costOf z tp ⟨z.X0 + r1 + dx, z.Y0 + r2 + dy⟩ = 0 := cost_in (by rw [hsh]; simp only; omega) (by rw [hsh]; simp only; omega) (by rw [hsh]; simp only; omega) (by rw [hsh]; simp only; omega)
          have hme : meant [z] tp ⟨z.X0 + r1 + dx, z.Y0 + r2 + dy⟩ = [⟨z.Key, 0⟩] := by
            unfold meant mayMean; rw [List.filterMap_cons, hc0]; simp
          have hT : touchR [z] tp ⟨z.X0 + r1 + dx, z.Y0 + r2 + dy⟩ = ([⟨z.Key, 0⟩], 0) := by rw [touchR_in hpp (by rw [hme]; simp), hme, few_one]
          have hS := hS.drew
          refine CW.draw 32 (.ex 0 <| .ex 1 <| .ex 2 <| .ex 3 <| .ex 4 <| .ex 5 <| .ex 6 <| .ex 7 <| .ex 8 <| .ex 9 <| .ex 10 <| .ex 11 <| .ex 12 <| .ex 13 <| .ex 14 <| .ex 15 <| .ex 16 <| .ex 17 <| .ex 18 <| .ex 19 <| .ex 20 <| .ex 21 <| .ex 22 <| .ex 23 <| .ex 24 <| .ex 25 <| .ex 26 <| .ex 27 <| .ex 28 <| .ex 29 <| .two 30 (.one 31 <| .done) 31 (.one 30 <| .done)) [32] (Rd _ _) mixed (by kernel_rfl) rfl rfl hS.rd ?_
          refine PW.ex rfl rfl rfl rfl (Ex.fieldO 1 Try.underlying57 rfl rfl ti3 rfl) ?_
          refine PW.ex rfl rfl rfl rfl (Ex.load1 ti3 rfl rfl (by first | exact ob 0 rfl rfl | exact ob 1 rfl rfl | exact ob 2 rfl rfl | exact ob 3 rfl rfl | exact ob 4 rfl rfl | exact ob 5 rfl rfl | exact ob 6 rfl rfl | exact Rd.imm ‹_› | exact sb 0 rfl ‹_› | exact sb 1 rfl ‹_› | exact sb 2 rfl ‹_› | exact sb 3 rfl ‹_›)) ?_
          refine PW.ex rfl rfl rfl rfl (Ex.indexArr (j := 4) Try.underlying76 ti5 rfl rfl rfl (by omega)) ?_
          refine PW.ex rfl rfl rfl rfl (Ex.load1 ti5 rfl rfl (by first | exact ob 0 rfl rfl | exact ob 1 rfl rfl | exact ob 2 rfl rfl | exact ob 3 rfl rfl | exact ob 4 rfl rfl | exact ob 5 rfl rfl | exact ob 6 rfl rfl | exact Rd.imm ‹_› | exact sb 0 rfl ‹_› | exact sb 1 rfl ‹_› | exact sb 2 rfl ‹_› | exact sb 3 rfl ‹_›)) ?_
          refine PW.ex rfl rfl rfl rfl (Ex.conv Try.underlying5 Try.underlying3 rfl (by first | exact w64 (by omega) (by omega) | exact wu8 (by omega) (by omega))) ?_
          refine PW.ex rfl rfl rfl rfl (Ex.fieldO 3 Try.underlying57 rfl rfl ti3 rfl) ?_
          refine PW.ex rfl rfl rfl rfl (Ex.load1 ti3 rfl rfl (by first | exact ob 0 rfl rfl | exact ob 1 rfl rfl | exact ob 2 rfl rfl | exact ob 3 rfl rfl | exact ob 4 rfl rfl | exact ob 5 rfl rfl | exact ob 6 rfl rfl | exact Rd.imm ‹_› | exact sb 0 rfl ‹_› | exact sb 1 rfl ‹_› | exact sb 2 rfl ‹_› | exact sb 3 rfl ‹_›)) ?_
          refine PW.ex rfl rfl rfl rfl (Ex.fieldO 1 Try.underlying57 rfl rfl ti3 rfl) ?_
          refine PW.ex rfl rfl rfl rfl (Ex.load1 ti3 rfl rfl (by first | exact ob 0 rfl rfl | exact ob 1 rfl rfl | exact ob 2 rfl rfl | exact ob 3 rfl rfl | exact ob 4 rfl rfl | exact ob 5 rfl rfl | exact ob 6 rfl rfl | exact Rd.imm ‹_› | exact sb 0 rfl ‹_› | exact sb 1 rfl ‹_› | exact sb 2 rfl ‹_› | exact sb 3 rfl ‹_›)) ?_
          refine PW.ex rfl rfl rfl rfl (Ex.sub rfl rfl (w64 (by omega) (by omega))) ?_
          refine PW.ex rfl rfl rfl rfl (Ex.add rfl rfl (w64 (by omega) (by omega))) ?_
          refine PW.ex rfl rfl rfl rfl (Ex.rem rfl rfl (by omega) hr1) ?_
          refine PW.ex rfl rfl rfl rfl (Ex.add rfl rfl (w64 (by omega) (by omega))) ?_
          refine PW.ex rfl rfl rfl rfl (Ex.move rfl) ?_
          refine PW.ex rfl rfl rfl rfl (Ex.add rfl rfl (w64 (by omega) (by omega))) ?_
          refine PW.ex rfl rfl rfl rfl (Ex.fieldO 2 Try.underlying57 rfl rfl ti3 rfl) ?_
          refine PW.ex rfl rfl rfl rfl (Ex.load1 ti3 rfl rfl (by first | exact ob 0 rfl rfl | exact ob 1 rfl rfl | exact ob 2 rfl rfl | exact ob 3 rfl rfl | exact ob 4 rfl rfl | exact ob 5 rfl rfl | exact ob 6 rfl rfl | exact Rd.imm ‹_› | exact sb 0 rfl ‹_› | exact sb 1 rfl ‹_› | exact sb 2 rfl ‹_› | exact sb 3 rfl ‹_›)) ?_
          refine PW.ex rfl rfl rfl rfl (Ex.indexArr (j := 5) Try.underlying76 ti5 rfl rfl rfl (by omega)) ?_
          refine PW.ex rfl rfl rfl rfl (Ex.load1 ti5 rfl rfl (by first | exact ob 0 rfl rfl | exact ob 1 rfl rfl | exact ob 2 rfl rfl | exact ob 3 rfl rfl | exact ob 4 rfl rfl | exact ob 5 rfl rfl | exact ob 6 rfl rfl | exact Rd.imm ‹_› | exact sb 0 rfl ‹_› | exact sb 1 rfl ‹_› | exact sb 2 rfl ‹_› | exact sb 3 rfl ‹_›)) ?_
          refine PW.ex rfl rfl rfl rfl (Ex.conv Try.underlying5 Try.underlying3 rfl (by first | exact w64 (by omega) (by omega) | exact wu8 (by omega) (by omega))) ?_
          refine PW.ex rfl rfl rfl rfl (Ex.fieldO 4 Try.underlying57 rfl rfl ti3 rfl) ?_
          refine PW.ex rfl rfl rfl rfl (Ex.load1 ti3 rfl rfl (by first | exact ob 0 rfl rfl | exact ob 1 rfl rfl | exact ob 2 rfl rfl | exact ob 3 rfl rfl | exact ob 4 rfl rfl | exact ob 5 rfl rfl | exact ob 6 rfl rfl | exact Rd.imm ‹_› | exact sb 0 rfl ‹_› | exact sb 1 rfl ‹_› | exact sb 2 rfl ‹_› | exact sb 3 rfl ‹_›)) ?_
          refine PW.ex rfl rfl rfl rfl (Ex.fieldO 2 Try.underlying57 rfl rfl ti3 rfl) ?_
          refine PW.ex rfl rfl rfl rfl (Ex.load1 ti3 rfl rfl (by first | exact ob 0 rfl rfl | exact ob 1 rfl rfl | exact ob 2 rfl rfl | exact ob 3 rfl rfl | exact ob 4 rfl rfl | exact ob 5 rfl rfl | exact ob 6 rfl rfl | exact Rd.imm ‹_› | exact sb 0 rfl ‹_› | exact sb 1 rfl ‹_› | exact sb 2 rfl ‹_› | exact sb 3 rfl ‹_›)) ?_
          refine PW.ex rfl rfl rfl rfl (Ex.sub rfl rfl (w64 (by omega) (by omega))) ?_
          refine PW.ex rfl rfl rfl rfl (Ex.add rfl rfl (w64 (by omega) (by omega))) ?_
          refine PW.ex rfl rfl rfl rfl (Ex.rem rfl rfl (by omega) hr2) ?_
          refine PW.ex rfl rfl rfl rfl (Ex.add rfl rfl (w64 (by omega) (by omega))) ?_
          refine PW.ex rfl rfl rfl rfl (Ex.move rfl) ?_
          refine PW.ex rfl rfl rfl rfl (Ex.add rfl rfl (w64 (by omega) (by omega))) ?_
          refine PW.two rfl rfl rfl rfl rfl rfl rfl rfl (Hv.callS hS rfl rfl rfl cb14 (point_c (z.X0 + r1 + dx) (z.Y0 + r2 + dy) _)) (fun _ _ h => h.2.rd) (Hv.alloc ti36 hS) (fun _ _ ⟨_, _, _, h⟩ => h.rd.tail) (fun v w158 ⟨hv, hS⟩ => ?gA41) (fun v w16 ⟨b16, hv, hb16, hS⟩ => ?gB41)
          case gA41 =>
            skip
            subst hv
            refine PW.hv rfl rfl rfl rfl (Hv.alloc ti36 hS) (fun _ _ ⟨_, _, _, h⟩ => h.rd.tail) fun v w16 ⟨b16, hv, hb16, hS⟩ => ?_
            subst hv
            refine PW.nil ?_
            refine LW.hu rfl rfl rfl (Hv.storeN (k := 0) ti36 hS rfl rfl rfl rfl (by simp [Value.oneCell'])) fun _ w_32 hS => ?_
            dsimp only [List.set] at hS
            refine LW.nil fun aa ha => hK40 _ _ _ ?_ aa ha
            refine CW.seq fun K42 hK42 => ?_
            refine CW.region [0, 1, 2, 3, 4, 5, 6, 7, 8] rfl ?_
            refine LW.ex rfl rfl rfl rfl (Ex.load3c ti31 rfl rfl (by first | exact ob 0 rfl rfl | exact ob 1 rfl rfl | exact ob 2 rfl rfl | exact ob 3 rfl rfl | exact ob 4 rfl rfl | exact ob 5 rfl rfl | exact ob 6 rfl rfl | exact Rd.imm ‹_› | exact sb 0 rfl ‹_› | exact sb 1 rfl ‹_› | exact sb 2 rfl ‹_› | exact sb 3 rfl ‹_›) (by first | exact ob 0 rfl rfl | exact ob 1 rfl rfl | exact ob 2 rfl rfl | exact ob 3 rfl rfl | exact ob 4 rfl rfl | exact ob 5 rfl rfl | exact ob 6 rfl rfl | exact Rd.imm ‹_› | exact sb 0 rfl ‹_› | exact sb 1 rfl ‹_› | exact sb 2 rfl ‹_› | exact sb 3 rfl ‹_›) (by first | exact ob 0 rfl rfl | exact ob 1 rfl rfl | exact ob 2 rfl rfl | exact ob 3 rfl rfl | exact ob 4 rfl rfl | exact ob 5 rfl rfl | exact ob 6 rfl rfl | exact Rd.imm ‹_› | exact sb 0 rfl ‹_› | exact sb 1 rfl ‹_› | exact sb 2 rfl ‹_› | exact sb 3 rfl ‹_›)) hS.rd ?_
            refine LW.ex rfl rfl rfl rfl (Ex.move rfl) hS.rd ?_
            refine LW.ex rfl rfl rfl rfl (Ex.load2c ti36 rfl rfl (by first | exact ob 0 rfl rfl | exact ob 1 rfl rfl | exact ob 2 rfl rfl | exact ob 3 rfl rfl | exact ob 4 rfl rfl | exact ob 5 rfl rfl | exact ob 6 rfl rfl | exact Rd.imm ‹_› | exact sb 0 rfl ‹_› | exact sb 1 rfl ‹_› | exact sb 2 rfl ‹_› | exact sb 3 rfl ‹_›) (by first | exact ob 0 rfl rfl | exact ob 1 rfl rfl | exact ob 2 rfl rfl | exact ob 3 rfl rfl | exact ob 4 rfl rfl | exact ob 5 rfl rfl | exact ob 6 rfl rfl | exact Rd.imm ‹_› | exact sb 0 rfl ‹_› | exact sb 1 rfl ‹_› | exact sb 2 rfl ‹_› | exact sb 3 rfl ‹_›)) hS.rd ?_
            refine LW.hv rfl rfl rfl rfl (Hv.callV hS rfl rfl rfl cb15 (touchF_c (l := [z]) (taps := tp) (p := ⟨z.X0 + r1 + dx, z.Y0 + r2 + dy⟩) hS.imm hsa hst hzbl hTb hTr hzk (by simp) (by omega))) fun v w163 ⟨μ163, hv163, hm163, hS⟩ => ?_
            unfold IsTR at hv163
            rw [hT] at hv163
            obtain ⟨ad163, c163, hv, hs163⟩ := hv163
            subst hv
            have hst := hst.mono hm163
            refine LW.ex rfl rfl rfl rfl (Ex.move rfl) hS.rd ?_
            refine LW.ex rfl rfl rfl rfl (Ex.extract rfl rfl) hS.rd ?_
            refine LW.ex rfl rfl rfl rfl (Ex.extract rfl rfl) hS.rd ?_
            refine LW.ex rfl rfl rfl rfl (Ex.assign rfl) hS.rd ?_
            refine LW.ex rfl rfl rfl rfl (Ex.assign rfl) hS.rd ?_
            refine LW.nil fun aa ha => hK42 _ _ _ ?_ aa ha
            refine CW.seq fun K43 hK43 => ?_
            refine CW.region [0, 1, 2, 3, 4, 5, 6, 7, 8, 9, 10, 11, 12, 13, 14, 15, 16, 17, 18, 19, 20, 21, 22] rfl ?_
            refine LW.ex rfl rfl rfl rfl (Ex.move rfl) hS.rd ?_
            refine LW.ex rfl rfl rfl rfl (Ex.eql rfl rfl rfl) hS.rd ?_
            refine LW.splitB (fun h22_1 => ?_) (fun h22_1 => ?_)
            · have h22_1 := of_decide_eq_true h22_1
              refine LW.ex rfl rfl rfl rfl (Ex.move rfl) hS.rd ?_
              refine LW.ex rfl rfl rfl rfl (Ex.move rfl) hS.rd ?_
              refine LW.ex rfl rfl rfl rfl (Ex.fieldO 0 Try.underlying57 rfl rfl ti5 rfl) hS.rd ?_
              refine LW.ex rfl rfl rfl rfl (Ex.load1 ti5 rfl rfl (by first | exact ob 0 rfl rfl | exact ob 1 rfl rfl | exact ob 2 rfl rfl | exact ob 3 rfl rfl | exact ob 4 rfl rfl | exact ob 5 rfl rfl | exact ob 6 rfl rfl | exact Rd.imm ‹_› | exact sb 0 rfl ‹_› | exact sb 1 rfl ‹_› | exact sb 2 rfl ‹_› | exact sb 3 rfl ‹_›)) hS.rd ?_
              refine LW.hv rfl rfl rfl rfl (Hv.callS hS rfl rfl rfl cb27 (costIn_c [⟨z.Key, 0⟩] z.Key _ _ _ _ hS.imm hs163)) fun v w172 ⟨hv, hS⟩ => ?_
              subst hv
              refine LW.ex rfl rfl rfl rfl (Ex.eql rfl rfl rfl) hS.rd ?_
              refine LW.splitB (fun h22_7 => ?_) (fun h22_7 => ?_)
              · have h22_7 := of_decide_eq_true h22_7
                refine LW.ex rfl rfl rfl rfl (by first | exact Ex.pick_yes rfl rfl | exact Ex.pick_no rfl rfl) hS.rd ?_
                refine LW.ex rfl rfl rfl rfl (Ex.move rfl) hS.rd ?_
                refine LW.ex rfl rfl rfl rfl (Ex.move rfl) hS.rd ?_
                refine LW.ex rfl rfl rfl rfl (Ex.fieldO 0 Try.underlying57 rfl rfl ti5 rfl) hS.rd ?_
                refine LW.ex rfl rfl rfl rfl (Ex.load1 ti5 rfl rfl (by first | exact ob 0 rfl rfl | exact ob 1 rfl rfl | exact ob 2 rfl rfl | exact ob 3 rfl rfl | exact ob 4 rfl rfl | exact ob 5 rfl rfl | exact ob 6 rfl rfl | exact Rd.imm ‹_› | exact sb 0 rfl ‹_› | exact sb 1 rfl ‹_› | exact sb 2 rfl ‹_› | exact sb 3 rfl ‹_›)) hS.rd ?_
                refine LW.hv rfl rfl rfl rfl (Hv.callS hS rfl rfl rfl cb21 (shiftR_c tp z.Key _ _ _ _ hS.imm hst hTb hTr (by omega))) fun v w179 ⟨hv, hS⟩ => ?_
                subst hv
                refine LW.ex rfl rfl rfl rfl (Ex.move rfl) hS.rd ?_
                refine LW.ex rfl rfl rfl rfl (Ex.move rfl) hS.rd ?_
                refine LW.hv rfl rfl rfl rfl (Hv.callS hS rfl rfl rfl cb14 (point_c dx dy _)) fun v w182 ⟨hv, hS⟩ => ?_
                subst hv
                refine LW.ex rfl rfl rfl rfl (Ex.eqlSt (by kernel_rfl) rfl rfl (ptEq (shiftOf tp z.Key) ⟨dx, dy⟩)) hS.rd ?_
                refine LW.splitB (fun h22_17 => ?_) (fun h22_17 => ?_)
                · skip
                  refine LW.ex rfl rfl rfl rfl (by first | exact Ex.pick_yes rfl rfl | exact Ex.pick_no rfl rfl) hS.rd ?_
                  refine LW.ex rfl rfl rfl rfl (Ex.move rfl) hS.rd ?_
                  refine LW.ex rfl rfl rfl rfl (Ex.move rfl) hS.rd ?_
                  refine LW.ex rfl rfl rfl rfl (by first | exact Ex.pick_yes rfl rfl | exact Ex.pick_no rfl rfl) hS.rd ?_
                  refine LW.ex rfl rfl rfl rfl (Ex.assign rfl) hS.rd ?_
                  refine LW.nil fun aa ha => hK43 _ _ _ ?_ aa ha
                  refine CW.ret fun aa ha => ?_
                  refine ret_one ha Try.results9 rfl ?_
                  exact hS.retS
                · rw [hsh] at h22_17
                  simp at h22_17
              · have h22_7 := of_decide_eq_false h22_7
                exfalso
                apply h22_7
                simp [costIn]
            · have h22_1 := of_decide_eq_false h22_1
              omega
          case gB41 =>
            skip
            subst hv
            refine PW.hv rfl rfl rfl rfl (Hv.callS hS rfl rfl rfl cb14 (point_c (z.X0 + r1 + dx) (z.Y0 + r2 + dy) _)) (fun _ _ h => h.2.rd.tail) fun v w158 ⟨hv, hS⟩ => ?_
            subst hv
            refine PW.nil ?_
            refine LW.hu rfl rfl rfl (Hv.storeN (k := 0) ti36 hS rfl rfl rfl rfl (by simp [Value.oneCell'])) fun _ w_32 hS => ?_
            dsimp only [List.set] at hS
            refine LW.nil fun aa ha => hK40 _ _ _ ?_ aa ha
            refine CW.seq fun K44 hK44 => ?_
            refine CW.region [0, 1, 2, 3, 4, 5, 6, 7, 8] rfl ?_
            refine LW.ex rfl rfl rfl rfl (Ex.load3c ti31 rfl rfl (by first | exact ob 0 rfl rfl | exact ob 1 rfl rfl | exact ob 2 rfl rfl | exact ob 3 rfl rfl | exact ob 4 rfl rfl | exact ob 5 rfl rfl | exact ob 6 rfl rfl | exact Rd.imm ‹_› | exact sb 0 rfl ‹_› | exact sb 1 rfl ‹_› | exact sb 2 rfl ‹_› | exact sb 3 rfl ‹_›) (by first | exact ob 0 rfl rfl | exact ob 1 rfl rfl | exact ob 2 rfl rfl | exact ob 3 rfl rfl | exact ob 4 rfl rfl | exact ob 5 rfl rfl | exact ob 6 rfl rfl | exact Rd.imm ‹_› | exact sb 0 rfl ‹_› | exact sb 1 rfl ‹_› | exact sb 2 rfl ‹_› | exact sb 3 rfl ‹_›) (by first | exact ob 0 rfl rfl | exact ob 1 rfl rfl | exact ob 2 rfl rfl | exact ob 3 rfl rfl | exact ob 4 rfl rfl | exact ob 5 rfl rfl | exact ob 6 rfl rfl | exact Rd.imm ‹_› | exact sb 0 rfl ‹_› | exact sb 1 rfl ‹_› | exact sb 2 rfl ‹_› | exact sb 3 rfl ‹_›)) hS.rd ?_
            refine LW.ex rfl rfl rfl rfl (Ex.move rfl) hS.rd ?_
            refine LW.ex rfl rfl rfl rfl (Ex.load2c ti36 rfl rfl (by first | exact ob 0 rfl rfl | exact ob 1 rfl rfl | exact ob 2 rfl rfl | exact ob 3 rfl rfl | exact ob 4 rfl rfl | exact ob 5 rfl rfl | exact ob 6 rfl rfl | exact Rd.imm ‹_› | exact sb 0 rfl ‹_› | exact sb 1 rfl ‹_› | exact sb 2 rfl ‹_› | exact sb 3 rfl ‹_›) (by first | exact ob 0 rfl rfl | exact ob 1 rfl rfl | exact ob 2 rfl rfl | exact ob 3 rfl rfl | exact ob 4 rfl rfl | exact ob 5 rfl rfl | exact ob 6 rfl rfl | exact Rd.imm ‹_› | exact sb 0 rfl ‹_› | exact sb 1 rfl ‹_› | exact sb 2 rfl ‹_› | exact sb 3 rfl ‹_›)) hS.rd ?_
            refine LW.hv rfl rfl rfl rfl (Hv.callV hS rfl rfl rfl cb15 (touchF_c (l := [z]) (taps := tp) (p := ⟨z.X0 + r1 + dx, z.Y0 + r2 + dy⟩) hS.imm hsa hst hzbl hTb hTr hzk (by simp) (by omega))) fun v w163 ⟨μ163, hv163, hm163, hS⟩ => ?_
            unfold IsTR at hv163
            rw [hT] at hv163
            obtain ⟨ad163, c163, hv, hs163⟩ := hv163
            subst hv
            have hst := hst.mono hm163
            refine LW.ex rfl rfl rfl rfl (Ex.move rfl) hS.rd ?_
            refine LW.ex rfl rfl rfl rfl (Ex.extract rfl rfl) hS.rd ?_
            refine LW.ex rfl rfl rfl rfl (Ex.extract rfl rfl) hS.rd ?_
            refine LW.ex rfl rfl rfl rfl (Ex.assign rfl) hS.rd ?_
            refine LW.ex rfl rfl rfl rfl (Ex.assign rfl) hS.rd ?_
            refine LW.nil fun aa ha => hK44 _ _ _ ?_ aa ha
            refine CW.seq fun K45 hK45 => ?_
            refine CW.region [0, 1, 2, 3, 4, 5, 6, 7, 8, 9, 10, 11, 12, 13, 14, 15, 16, 17, 18, 19, 20, 21, 22] rfl ?_
            refine LW.ex rfl rfl rfl rfl (Ex.move rfl) hS.rd ?_
            refine LW.ex rfl rfl rfl rfl (Ex.eql rfl rfl rfl) hS.rd ?_
            refine LW.splitB (fun h22_1 => ?_) (fun h22_1 => ?_)
            · have h22_1 := of_decide_eq_true h22_1
              refine LW.ex rfl rfl rfl rfl (Ex.move rfl) hS.rd ?_
              refine LW.ex rfl rfl rfl rfl (Ex.move rfl) hS.rd ?_
              refine LW.ex rfl rfl rfl rfl (Ex.fieldO 0 Try.underlying57 rfl rfl ti5 rfl) hS.rd ?_
              refine LW.ex rfl rfl rfl rfl (Ex.load1 ti5 rfl rfl (by first | exact ob 0 rfl rfl | exact ob 1 rfl rfl | exact ob 2 rfl rfl | exact ob 3 rfl rfl | exact ob 4 rfl rfl | exact ob 5 rfl rfl | exact ob 6 rfl rfl | exact Rd.imm ‹_› | exact sb 0 rfl ‹_› | exact sb 1 rfl ‹_› | exact sb 2 rfl ‹_› | exact sb 3 rfl ‹_›)) hS.rd ?_
              refine LW.hv rfl rfl rfl rfl (Hv.callS hS rfl rfl rfl cb27 (costIn_c [⟨z.Key, 0⟩] z.Key _ _ _ _ hS.imm hs163)) fun v w172 ⟨hv, hS⟩ => ?_
              subst hv
              refine LW.ex rfl rfl rfl rfl (Ex.eql rfl rfl rfl) hS.rd ?_
              refine LW.splitB (fun h22_7 => ?_) (fun h22_7 => ?_)
              · have h22_7 := of_decide_eq_true h22_7
                refine LW.ex rfl rfl rfl rfl (by first | exact Ex.pick_yes rfl rfl | exact Ex.pick_no rfl rfl) hS.rd ?_
                refine LW.ex rfl rfl rfl rfl (Ex.move rfl) hS.rd ?_
                refine LW.ex rfl rfl rfl rfl (Ex.move rfl) hS.rd ?_
                refine LW.ex rfl rfl rfl rfl (Ex.fieldO 0 Try.underlying57 rfl rfl ti5 rfl) hS.rd ?_
                refine LW.ex rfl rfl rfl rfl (Ex.load1 ti5 rfl rfl (by first | exact ob 0 rfl rfl | exact ob 1 rfl rfl | exact ob 2 rfl rfl | exact ob 3 rfl rfl | exact ob 4 rfl rfl | exact ob 5 rfl rfl | exact ob 6 rfl rfl | exact Rd.imm ‹_› | exact sb 0 rfl ‹_› | exact sb 1 rfl ‹_› | exact sb 2 rfl ‹_› | exact sb 3 rfl ‹_›)) hS.rd ?_
                refine LW.hv rfl rfl rfl rfl (Hv.callS hS rfl rfl rfl cb21 (shiftR_c tp z.Key _ _ _ _ hS.imm hst hTb hTr (by omega))) fun v w179 ⟨hv, hS⟩ => ?_
                subst hv
                refine LW.ex rfl rfl rfl rfl (Ex.move rfl) hS.rd ?_
                refine LW.ex rfl rfl rfl rfl (Ex.move rfl) hS.rd ?_
                refine LW.hv rfl rfl rfl rfl (Hv.callS hS rfl rfl rfl cb14 (point_c dx dy _)) fun v w182 ⟨hv, hS⟩ => ?_
                subst hv
                refine LW.ex rfl rfl rfl rfl (Ex.eqlSt (by kernel_rfl) rfl rfl (ptEq (shiftOf tp z.Key) ⟨dx, dy⟩)) hS.rd ?_
                refine LW.splitB (fun h22_17 => ?_) (fun h22_17 => ?_)
                · skip
                  refine LW.ex rfl rfl rfl rfl (by first | exact Ex.pick_yes rfl rfl | exact Ex.pick_no rfl rfl) hS.rd ?_
                  refine LW.ex rfl rfl rfl rfl (Ex.move rfl) hS.rd ?_
                  refine LW.ex rfl rfl rfl rfl (Ex.move rfl) hS.rd ?_
                  refine LW.ex rfl rfl rfl rfl (by first | exact Ex.pick_yes rfl rfl | exact Ex.pick_no rfl rfl) hS.rd ?_
                  refine LW.ex rfl rfl rfl rfl (Ex.assign rfl) hS.rd ?_
                  refine LW.nil fun aa ha => hK45 _ _ _ ?_ aa ha
                  refine CW.ret fun aa ha => ?_
                  refine ret_one ha Try.results9 rfl ?_
                  exact hS.retS
                · rw [hsh] at h22_17
                  simp at h22_17
              · have h22_7 := of_decide_eq_false h22_7
                exfalso
                apply h22_7
                simp [costIn]
            · have h22_1 := of_decide_eq_false h22_1
              omega
    case gB8 =>
      skip
      subst hv
      refine PW.hv rfl rfl rfl rfl (Hv.buildSl hS Try.underlying27 ti57 rfl rfl rfl rfl rfl rfl) (fun _ _ ⟨_, _, _, h⟩ => h.rd.tail.tail) fun v w38 ⟨b38, hv, hb38, hS⟩ => ?_
      subst hv
      refine PW.ex rfl rfl rfl rfl (Ex.buildS st31 rfl rfl rfl) ?_
      refine PW.nil ?_
      refine LW.hu rfl rfl rfl (Hv.storeN (k := 1) ti31 hS rfl rfl rfl rfl (by simp [Value.oneCell'])) fun _ w_14 hS => ?_
      dsimp only [List.set] at hS
      have hS := hS.swap
      refine LW.nil fun aa ha => hK7 _ _ _ ?_ aa ha
      refine CW.seq fun K46 hK46 => ?_
      refine CW.region [0, 1, 2, 3, 4, 5, 6, 7, 8] rfl ?_
      refine LW.ex rfl rfl rfl rfl (Ex.fieldO 0 Try.underlying31 rfl rfl ti27 rfl) hS.rd ?_
      refine LW.ex rfl rfl rfl rfl (Ex.load1 ti27 rfl rfl (by first | exact ob 0 rfl rfl | exact ob 1 rfl rfl | exact ob 2 rfl rfl | exact ob 3 rfl rfl | exact ob 4 rfl rfl | exact ob 5 rfl rfl | exact ob 6 rfl rfl | exact Rd.imm ‹_› | exact sb 0 rfl ‹_› | exact sb 1 rfl ‹_› | exact sb 2 rfl ‹_› | exact sb 3 rfl ‹_›)) hS.rd ?_
      refine LW.ex rfl rfl rfl rfl (Ex.indexSl (j := 0) Try.underlying27 ti57 rfl rfl rfl (by omega)) hS.rd ?_
      refine LW.ex rfl rfl rfl rfl (Ex.fieldO 1 Try.underlying57 rfl rfl ti3 rfl) hS.rd ?_
      refine LW.ex rfl rfl rfl rfl (Ex.load1 ti3 rfl rfl (by first | exact ob 0 rfl rfl | exact ob 1 rfl rfl | exact ob 2 rfl rfl | exact ob 3 rfl rfl | exact ob 4 rfl rfl | exact ob 5 rfl rfl | exact ob 6 rfl rfl | exact Rd.imm ‹_› | exact sb 0 rfl ‹_› | exact sb 1 rfl ‹_› | exact sb 2 rfl ‹_› | exact sb 3 rfl ‹_›)) hS.rd ?_
      refine LW.ex rfl rfl rfl rfl (Ex.add rfl rfl (w64 (by omega) (by omega))) hS.rd ?_
      refine LW.ex rfl rfl rfl rfl (Ex.indexSl (j := 0) Try.underlying27 ti57 rfl rfl rfl (by omega)) hS.rd ?_
      refine LW.ex rfl rfl rfl rfl (Ex.fieldO 1 Try.underlying57 rfl rfl ti3 rfl) hS.rd ?_
      refine LW.hu rfl rfl rfl (Hv.storeObj (k := 1) ti3 hS rfl rfl rfl rfl (by first | (simp; done) | omega)) fun _ w_8 hS => ?_
      dsimp only [List.set] at hS
      refine LW.nil fun aa ha => hK46 _ _ _ ?_ aa ha
      refine CW.seq fun K47 hK47 => ?_
      refine CW.region [0, 1, 2, 3, 4, 5, 6, 7, 8] rfl ?_
      refine LW.ex rfl rfl rfl rfl (Ex.fieldO 0 Try.underlying31 rfl rfl ti27 rfl) hS.rd ?_
      refine LW.ex rfl rfl rfl rfl (Ex.load1 ti27 rfl rfl (by first | exact ob 0 rfl rfl | exact ob 1 rfl rfl | exact ob 2 rfl rfl | exact ob 3 rfl rfl | exact ob 4 rfl rfl | exact ob 5 rfl rfl | exact ob 6 rfl rfl | exact Rd.imm ‹_› | exact sb 0 rfl ‹_› | exact sb 1 rfl ‹_› | exact sb 2 rfl ‹_› | exact sb 3 rfl ‹_›)) hS.rd ?_
      refine LW.ex rfl rfl rfl rfl (Ex.indexSl (j := 0) Try.underlying27 ti57 rfl rfl rfl (by omega)) hS.rd ?_
      refine LW.ex rfl rfl rfl rfl (Ex.fieldO 3 Try.underlying57 rfl rfl ti3 rfl) hS.rd ?_
      refine LW.ex rfl rfl rfl rfl (Ex.load1 ti3 rfl rfl (by first | exact ob 0 rfl rfl | exact ob 1 rfl rfl | exact ob 2 rfl rfl | exact ob 3 rfl rfl | exact ob 4 rfl rfl | exact ob 5 rfl rfl | exact ob 6 rfl rfl | exact Rd.imm ‹_› | exact sb 0 rfl ‹_› | exact sb 1 rfl ‹_› | exact sb 2 rfl ‹_› | exact sb 3 rfl ‹_›)) hS.rd ?_
      refine LW.ex rfl rfl rfl rfl (Ex.add rfl rfl (w64 (by omega) (by omega))) hS.rd ?_
      refine LW.ex rfl rfl rfl rfl (Ex.indexSl (j := 0) Try.underlying27 ti57 rfl rfl rfl (by omega)) hS.rd ?_
      refine LW.ex rfl rfl rfl rfl (Ex.fieldO 3 Try.underlying57 rfl rfl ti3 rfl) hS.rd ?_
      refine LW.hu rfl rfl rfl (Hv.storeObj (k := 1) ti3 hS rfl rfl rfl rfl (by first | (simp; done) | omega)) fun _ w_8 hS => ?_
      dsimp only [List.set] at hS
      refine LW.nil fun aa ha => hK47 _ _ _ ?_ aa ha
      refine CW.seq fun K48 hK48 => ?_
      refine CW.region [0, 1, 2, 3, 4, 5, 6, 7, 8] rfl ?_
      refine LW.ex rfl rfl rfl rfl (Ex.fieldO 0 Try.underlying31 rfl rfl ti27 rfl) hS.rd ?_
      refine LW.ex rfl rfl rfl rfl (Ex.load1 ti27 rfl rfl (by first | exact ob 0 rfl rfl | exact ob 1 rfl rfl | exact ob 2 rfl rfl | exact ob 3 rfl rfl | exact ob 4 rfl rfl | exact ob 5 rfl rfl | exact ob 6 rfl rfl | exact Rd.imm ‹_› | exact sb 0 rfl ‹_› | exact sb 1 rfl ‹_› | exact sb 2 rfl ‹_› | exact sb 3 rfl ‹_›)) hS.rd ?_
      refine LW.ex rfl rfl rfl rfl (Ex.indexSl (j := 0) Try.underlying27 ti57 rfl rfl rfl (by omega)) hS.rd ?_
      refine LW.ex rfl rfl rfl rfl (Ex.fieldO 2 Try.underlying57 rfl rfl ti3 rfl) hS.rd ?_
      refine LW.ex rfl rfl rfl rfl (Ex.load1 ti3 rfl rfl (by first | exact ob 0 rfl rfl | exact ob 1 rfl rfl | exact ob 2 rfl rfl | exact ob 3 rfl rfl | exact ob 4 rfl rfl | exact ob 5 rfl rfl | exact ob 6 rfl rfl | exact Rd.imm ‹_› | exact sb 0 rfl ‹_› | exact sb 1 rfl ‹_› | exact sb 2 rfl ‹_› | exact sb 3 rfl ‹_›)) hS.rd ?_
      refine LW.ex rfl rfl rfl rfl (Ex.add rfl rfl (w64 (by omega) (by omega))) hS.rd ?_
      refine LW.ex rfl rfl rfl rfl (Ex.indexSl (j := 0) Try.underlying27 ti57 rfl rfl rfl (by omega)) hS.rd ?_
      refine LW.ex rfl rfl rfl rfl (Ex.fieldO 2 Try.underlying57 rfl rfl ti3 rfl) hS.rd ?_
      refine LW.hu rfl rfl rfl (Hv.storeObj (k := 1) ti3 hS rfl rfl rfl rfl (by first | (simp; done) | omega)) fun _ w_8 hS => ?_
      dsimp only [List.set] at hS
      refine LW.nil fun aa ha => hK48 _ _ _ ?_ aa ha
      refine CW.seq fun K49 hK49 => ?_
      refine CW.region [0, 1, 2, 3, 4, 5, 6, 7, 8] rfl ?_
      refine LW.ex rfl rfl rfl rfl (Ex.fieldO 0 Try.underlying31 rfl rfl ti27 rfl) hS.rd ?_
      refine LW.ex rfl rfl rfl rfl (Ex.load1 ti27 rfl rfl (by first | exact ob 0 rfl rfl | exact ob 1 rfl rfl | exact ob 2 rfl rfl | exact ob 3 rfl rfl | exact ob 4 rfl rfl | exact ob 5 rfl rfl | exact ob 6 rfl rfl | exact Rd.imm ‹_› | exact sb 0 rfl ‹_› | exact sb 1 rfl ‹_› | exact sb 2 rfl ‹_› | exact sb 3 rfl ‹_›)) hS.rd ?_
      refine LW.ex rfl rfl rfl rfl (Ex.indexSl (j := 0) Try.underlying27 ti57 rfl rfl rfl (by omega)) hS.rd ?_
      refine LW.ex rfl rfl rfl rfl (Ex.fieldO 4 Try.underlying57 rfl rfl ti3 rfl) hS.rd ?_
      refine LW.ex rfl rfl rfl rfl (Ex.load1 ti3 rfl rfl (by first | exact ob 0 rfl rfl | exact ob 1 rfl rfl | exact ob 2 rfl rfl | exact ob 3 rfl rfl | exact ob 4 rfl rfl | exact ob 5 rfl rfl | exact ob 6 rfl rfl | exact Rd.imm ‹_› | exact sb 0 rfl ‹_› | exact sb 1 rfl ‹_› | exact sb 2 rfl ‹_› | exact sb 3 rfl ‹_›)) hS.rd ?_
      refine LW.ex rfl rfl rfl rfl (Ex.add rfl rfl (w64 (by omega) (by omega))) hS.rd ?_
      refine LW.ex rfl rfl rfl rfl (Ex.indexSl (j := 0) Try.underlying27 ti57 rfl rfl rfl (by omega)) hS.rd ?_
      refine LW.ex rfl rfl rfl rfl (Ex.fieldO 4 Try.underlying57 rfl rfl ti3 rfl) hS.rd ?_
      refine LW.hu rfl rfl rfl (Hv.storeObj (k := 1) ti3 hS rfl rfl rfl rfl (by first | (simp; done) | omega)) fun _ w_8 hS => ?_
      dsimp only [List.set] at hS
      refine LW.nil fun aa ha => hK49 _ _ _ ?_ aa ha
      refine CW.seq fun K50 hK50 => ?_
      rw [← hz1, ← hz2, ← hz3, ← hz4, ← hz0] at hS
      refine CW.region [0, 1, 2, 3, 4, 5] rfl ?_
      refine LW.ex rfl rfl rfl rfl (Ex.fieldO 0 Try.underlying31 rfl rfl ti27 rfl) hS.rd ?_
      refine LW.ex rfl rfl rfl rfl (Ex.load1 ti27 rfl rfl (by first | exact ob 0 rfl rfl | exact ob 1 rfl rfl | exact ob 2 rfl rfl | exact ob 3 rfl rfl | exact ob 4 rfl rfl | exact ob 5 rfl rfl | exact ob 6 rfl rfl | exact Rd.imm ‹_› | exact sb 0 rfl ‹_› | exact sb 1 rfl ‹_› | exact sb 2 rfl ‹_› | exact sb 3 rfl ‹_›)) hS.rd ?_
      refine LW.ex rfl rfl rfl rfl (Ex.indexSl (j := 0) Try.underlying27 ti57 rfl rfl rfl (by omega)) hS.rd ?_
      refine LW.ex rfl rfl rfl rfl (Ex.load5c ti57 rfl rfl (by first | exact ob 0 rfl rfl | exact ob 1 rfl rfl | exact ob 2 rfl rfl | exact ob 3 rfl rfl | exact ob 4 rfl rfl | exact ob 5 rfl rfl | exact ob 6 rfl rfl | exact Rd.imm ‹_› | exact sb 0 rfl ‹_› | exact sb 1 rfl ‹_› | exact sb 2 rfl ‹_› | exact sb 3 rfl ‹_›) (by first | exact ob 0 rfl rfl | exact ob 1 rfl rfl | exact ob 2 rfl rfl | exact ob 3 rfl rfl | exact ob 4 rfl rfl | exact ob 5 rfl rfl | exact ob 6 rfl rfl | exact Rd.imm ‹_› | exact sb 0 rfl ‹_› | exact sb 1 rfl ‹_› | exact sb 2 rfl ‹_› | exact sb 3 rfl ‹_›) (by first | exact ob 0 rfl rfl | exact ob 1 rfl rfl | exact ob 2 rfl rfl | exact ob 3 rfl rfl | exact ob 4 rfl rfl | exact ob 5 rfl rfl | exact ob 6 rfl rfl | exact Rd.imm ‹_› | exact sb 0 rfl ‹_› | exact sb 1 rfl ‹_› | exact sb 2 rfl ‹_› | exact sb 3 rfl ‹_›) (by first | exact ob 0 rfl rfl | exact ob 1 rfl rfl | exact ob 2 rfl rfl | exact ob 3 rfl rfl | exact ob 4 rfl rfl | exact ob 5 rfl rfl | exact ob 6 rfl rfl | exact Rd.imm ‹_› | exact sb 0 rfl ‹_› | exact sb 1 rfl ‹_› | exact sb 2 rfl ‹_› | exact sb 3 rfl ‹_›) (by first | exact ob 0 rfl rfl | exact ob 1 rfl rfl | exact ob 2 rfl rfl | exact ob 3 rfl rfl | exact ob 4 rfl rfl | exact ob 5 rfl rfl | exact ob 6 rfl rfl | exact Rd.imm ‹_› | exact sb 0 rfl ‹_› | exact sb 1 rfl ‹_› | exact sb 2 rfl ‹_› | exact sb 3 rfl ‹_›)) hS.rd ?_
      refine LW.hv rfl rfl rfl rfl (Hv.alloc ti57 hS) fun v w8 ⟨b8, hv, hb8, hS⟩ => ?_
      subst hv
      refine LW.hu rfl rfl rfl (Hv.storeN (k := 0) ti57 hS rfl rfl rfl rfl (by simp [Value.oneCell'])) fun _ w_5 hS => ?_
      dsimp only [List.set] at hS
      refine LW.nil fun aa ha => hK50 _ _ _ ?_ aa ha
      refine CW.seq fun K51 hK51 => ?_
      obtain ⟨μa, hma, hS, hsa⟩ := hS.shutRow 2 rfl (areaReps μ21 [z]) (by simp [maxLen])
      dsimp only [List.eraseIdx] at hS
      have hS := hS.drew
      refine CW.draw 15 (.ex 0 <| .ex 1 <| .ex 2 <| .ex 3 <| .ex 4 <| .ex 5 <| .ex 6 <| .ex 7 <| .ex 8 <| .ex 9 <| .ex 10 <| .two 11 (.one 12 <| .ex 13 <| .ex 14 <| .done) 12 (.one 11 <| .ex 13 <| .ex 14 <| .done)) [15] (Rd _ _) mixed (by kernel_rfl) rfl rfl hS.rd ?_
      refine PW.ex rfl rfl rfl rfl (Ex.indexArr (j := 1) Try.underlying76 ti5 rfl rfl rfl (by omega)) ?_
      refine PW.ex rfl rfl rfl rfl (Ex.load1 ti5 rfl rfl (by first | exact ob 0 rfl rfl | exact ob 1 rfl rfl | exact ob 2 rfl rfl | exact ob 3 rfl rfl | exact ob 4 rfl rfl | exact ob 5 rfl rfl | exact ob 6 rfl rfl | exact Rd.imm ‹_› | exact sb 0 rfl ‹_› | exact sb 1 rfl ‹_› | exact sb 2 rfl ‹_› | exact sb 3 rfl ‹_›)) ?_
      refine PW.ex rfl rfl rfl rfl (Ex.conv Try.underlying5 Try.underlying3 rfl (by first | exact w64 (by omega) (by omega) | exact wu8 (by omega) (by omega))) ?_
      refine PW.ex rfl rfl rfl rfl (Ex.rem rfl rfl (by omega) (show _ = ((q1 : Nat) : Int) from by rw [hq1]; exact tmodN x.b.toNat 81)) ?_
      refine PW.ex rfl rfl rfl rfl (Ex.sub rfl rfl hw4) ?_
      refine PW.ex rfl rfl rfl rfl (Ex.indexArr (j := 2) Try.underlying76 ti5 rfl rfl rfl (by omega)) ?_
      refine PW.ex rfl rfl rfl rfl (Ex.load1 ti5 rfl rfl (by first | exact ob 0 rfl rfl | exact ob 1 rfl rfl | exact ob 2 rfl rfl | exact ob 3 rfl rfl | exact ob 4 rfl rfl | exact ob 5 rfl rfl | exact ob 6 rfl rfl | exact Rd.imm ‹_› | exact sb 0 rfl ‹_› | exact sb 1 rfl ‹_› | exact sb 2 rfl ‹_› | exact sb 3 rfl ‹_›)) ?_
      refine PW.ex rfl rfl rfl rfl (Ex.conv Try.underlying5 Try.underlying3 rfl (by first | exact w64 (by omega) (by omega) | exact wu8 (by omega) (by omega))) ?_
      refine PW.ex rfl rfl rfl rfl (Ex.rem rfl rfl (by omega) (show _ = ((q2 : Nat) : Int) from by rw [hq2]; exact tmodN x.c.toNat 81)) ?_
      refine PW.ex rfl rfl rfl rfl (Ex.sub rfl rfl hw9) ?_
      refine PW.ex rfl rfl rfl rfl (Ex.load5c ti57 rfl rfl (by first | exact ob 0 rfl rfl | exact ob 1 rfl rfl | exact ob 2 rfl rfl | exact ob 3 rfl rfl | exact ob 4 rfl rfl | exact ob 5 rfl rfl | exact ob 6 rfl rfl | exact Rd.imm ‹_› | exact sb 0 rfl ‹_› | exact sb 1 rfl ‹_› | exact sb 2 rfl ‹_› | exact sb 3 rfl ‹_›) (by first | exact ob 0 rfl rfl | exact ob 1 rfl rfl | exact ob 2 rfl rfl | exact ob 3 rfl rfl | exact ob 4 rfl rfl | exact ob 5 rfl rfl | exact ob 6 rfl rfl | exact Rd.imm ‹_› | exact sb 0 rfl ‹_› | exact sb 1 rfl ‹_› | exact sb 2 rfl ‹_› | exact sb 3 rfl ‹_›) (by first | exact ob 0 rfl rfl | exact ob 1 rfl rfl | exact ob 2 rfl rfl | exact ob 3 rfl rfl | exact ob 4 rfl rfl | exact ob 5 rfl rfl | exact ob 6 rfl rfl | exact Rd.imm ‹_› | exact sb 0 rfl ‹_› | exact sb 1 rfl ‹_› | exact sb 2 rfl ‹_› | exact sb 3 rfl ‹_›) (by first | exact ob 0 rfl rfl | exact ob 1 rfl rfl | exact ob 2 rfl rfl | exact ob 3 rfl rfl | exact ob 4 rfl rfl | exact ob 5 rfl rfl | exact ob 6 rfl rfl | exact Rd.imm ‹_› | exact sb 0 rfl ‹_› | exact sb 1 rfl ‹_› | exact sb 2 rfl ‹_› | exact sb 3 rfl ‹_›) (by first | exact ob 0 rfl rfl | exact ob 1 rfl rfl | exact ob 2 rfl rfl | exact ob 3 rfl rfl | exact ob 4 rfl rfl | exact ob 5 rfl rfl | exact ob 6 rfl rfl | exact Rd.imm ‹_› | exact sb 0 rfl ‹_› | exact sb 1 rfl ‹_› | exact sb 2 rfl ‹_› | exact sb 3 rfl ‹_›)) ?_
      refine PW.two rfl rfl rfl rfl rfl rfl rfl rfl (Hv.callS hS rfl rfl rfl cb28 (middle_c z _ hzb)) (fun _ _ h => h.2.rd) (Hv.alloc ti36 hS) (fun _ _ ⟨_, _, _, h⟩ => h.rd.tail) (fun v w87 ⟨hv, hS⟩ => ?gA52) (fun v w11 ⟨b11, hv, hb11, hS⟩ => ?gB52)
      case gA52 =>
        skip
        subst hv
        refine PW.hv rfl rfl rfl rfl (Hv.alloc ti36 hS) (fun _ _ ⟨_, _, _, h⟩ => h.rd.tail) fun v w11 ⟨b11, hv, hb11, hS⟩ => ?_
        subst hv
        refine PW.ex rfl rfl rfl rfl (Ex.assign rfl) ?_
        refine PW.ex rfl rfl rfl rfl (Ex.assign rfl) ?_
        refine PW.nil ?_
        refine LW.hu rfl rfl rfl (Hv.storeN (k := 0) ti36 hS rfl rfl rfl rfl (by simp [Value.oneCell'])) fun _ w_15 hS => ?_
        dsimp only [List.set] at hS
        refine LW.nil fun aa ha => hK51 _ _ _ ?_ aa ha
        refine CW.seq fun K53 hK53 => ?_
        have hS : St w _ μa [Own.obj b11 [.int .i64 (middle z).X, .int .i64 (middle z).Y] 36, Own.obj b8 (areaL z) 57, Own.obj b7 [.slice (some ⟨b38, 0, none⟩) 1 1, .slice none 0 0, .slice none 0 0] 31, Own.obj b6 [.slice (some ⟨bl, ol, none⟩) (made l).length c0, .slice a1 2 c1, .slice a2 2 c2] 31, Own.obj b3 [.int .u8 x.a.toNat, .int .u8 x.b.toNat, .int .u8 x.c.toNat, .int .u8 x.d.toNat, .int .u8 x.e.toNat, .int .u8 x.f.toNat] 76] := hS
        rw [← hcx, ← hcy] at hS
        refine CW.region [0, 1] rfl ?_
        refine LW.hv rfl rfl rfl rfl (Hv.buildSl hS Try.underlying33 ti82 rfl rfl rfl rfl rfl rfl) fun v w88 ⟨b88, hv, hb88, hS⟩ => ?_
        subst hv
        obtain ⟨μt, hmt, hS, hst⟩ := hS.shutRow (α := Tap) 0 rfl (RepL.nil _) (by simp [maxLen])
        dsimp only [List.eraseIdx] at hS
        have hsa := hsa.mono hmt
        refine LW.ex rfl rfl rfl rfl (Ex.assign rfl) hS.rd ?_
        refine LW.nil fun aa ha => hK53 _ _ _ ?_ aa ha
        refine CW.seq fun K54 hK54 => ?_
        refine CW.seq fun K55 hK55 => ?_
        refine CW.region [0] rfl ?_
        refine LW.ex rfl rfl rfl rfl (Ex.assign rfl) hS.rd ?_
        refine LW.nil fun aa ha => hK55 _ _ _ ?_ aa ha
        refine CW.block ?_
        refine CW.loop (fun q m wl14 => ∃ (i : Nat) (tp : List Tap) (adp : Option Addr) (cp : Nat) (μ6 : Mem), i ≤ 4 + q3 ∧ q = 100 - i ∧ m = [(3, .pointer (some ⟨b3, 0, none⟩)), (5, .bool true), (7, .pointer (some ⟨b7, 0, none⟩)), (8, .pointer (some ⟨b8, 0, none⟩)), (9, .int .i64 dx), (10, .int .i64 dy), (11, .pointer (some ⟨b11, 0, none⟩)), (12, .slice adp tp.length cp), (13, .int .i64 i)] ∧ St w wl14 μ6 [Own.obj b11 [.int .i64 cx, .int .i64 cy] 36, Own.obj b8 (areaL z) 57, Own.obj b7 [.slice (some ⟨b38, 0, none⟩) 1 1, .slice none 0 0, .slice none 0 0] 31, Own.obj b6 [.slice (some ⟨bl, ol, none⟩) (made l).length c0, .slice a1 2 c1, .slice a2 2 c2] 31, Own.obj b3 [.int .u8 x.a.toNat, .int .u8 x.b.toNat, .int .u8 x.c.toNat, .int .u8 x.d.toNat, .int .u8 x.e.toNat, .int .u8 x.f.toNat] 76] ∧ (tp = tapsN z.Key dx dy (nOf i)) ∧ (Sl μ6 (some ⟨b38, 0, none⟩) 1 [z]) ∧ (Sl μ6 adp cp tp)) _ ⟨0, [], some ⟨b88, 0, none⟩, 0, μt, (by first | omega | (simp; done) | (simp; omega)), rfl, rfl, hS, rfl, hsa, hst⟩ ⟨rfl, rfl, rfl, rfl, rfl, rfl, rfl, rfl, rfl, trivial⟩ ?_
        clear hS
        rintro q m wl14 ⟨i, tp, adp, cp, μ6, hi, hq, rfl, hS, htp, hsa, hst⟩
        refine CW.seq fun K56 hK56 => ?_
        refine CW.seq fun K57 hK57 => ?_
        refine CW.region [0, 1, 2, 3, 4, 5, 6] rfl ?_
        refine LW.ex rfl rfl rfl rfl (Ex.move rfl) hS.rd ?_
        refine LW.ex rfl rfl rfl rfl (Ex.indexArr (j := 3) Try.underlying76 ti5 rfl rfl rfl (by omega)) hS.rd ?_
        refine LW.ex rfl rfl rfl rfl (Ex.load1 ti5 rfl rfl (by first | exact ob 0 rfl rfl | exact ob 1 rfl rfl | exact ob 2 rfl rfl | exact ob 3 rfl rfl | exact ob 4 rfl rfl | exact ob 5 rfl rfl | exact ob 6 rfl rfl | exact Rd.imm ‹_› | exact sb 0 rfl ‹_› | exact sb 1 rfl ‹_› | exact sb 2 rfl ‹_› | exact sb 3 rfl ‹_›)) hS.rd ?_
        refine LW.ex rfl rfl rfl rfl (Ex.conv Try.underlying5 Try.underlying3 rfl (by first | exact w64 (by omega) (by omega) | exact wu8 (by omega) (by omega))) hS.rd ?_
        refine LW.ex rfl rfl rfl rfl (Ex.rem rfl rfl (by omega) (show _ = ((q3 : Nat) : Int) from by rw [hq3]; exact tmodN x.d.toNat 77)) hS.rd ?_
        refine LW.ex rfl rfl rfl rfl (Ex.add rfl rfl (w64 (by omega) (by omega))) hS.rd ?_
        refine LW.ex rfl rfl rfl rfl (Ex.lss rfl rfl rfl) hS.rd ?_
        refine LW.splitB (fun h14_6 => ?_) (fun h14_6 => ?_)
        · have h14_6 := of_decide_eq_true h14_6
          refine LW.nil fun aa ha => hK57 _ _ _ ?_ aa ha
          refine CW.yes rfl ?_
          refine CW.skip fun aa ha => hK56 _ _ _ ?_ aa ha
          refine CW.seq fun K58 hK58 => ?_
          refine CW.block ?_
          refine CW.seq fun K59 hK59 => ?_
          have hTF := tapsN_F (key := z.Key) (dx := dx) (dy := dy) (by rw [hz0]; exact hlet) hdx1 hdy1 i
          rw [← htp] at hTF
          have hTF2 := tapsN_F (key := z.Key) (dx := dx) (dy := dy) (by rw [hz0]; exact hlet) hdx1 hdy1 (i + 1)
          have hTr : Rising tp := by rw [htp]; exact tapsN_r _ _ _ _
          have hTl : tp.length ≤ 1 := by rw [htp]; exact tapsN_len _ _ _ _
          have hAr := adapt_one (a := z) (key := z.Key) (dx := dx) (dy := dy) rfl i (by rw [← hcx, ← hcy]; exact hpc)
          rw [← hcx, ← hcy, ← htp] at hAr
          have hnv := tapsR_of (tapsN_r z.Key dx dy (nOf (i + 1))) hTF2
          have hn1 : (tapsN z.Key dx dy (nOf (i + 1))).length = 1 := by
            have := nOf_ge (i + 1)
            unfold tapsN; rw [if_neg (by omega)]; rfl
          have hS := hS.drew
          refine CW.draw 19 (.ex 0 <| .ex 1 <| .ex 2 <| .ex 3 <| .ex 4 <| .ex 5 <| .ex 6 <| .ex 7 <| .ex 8 <| .ex 9 <| .ex 10 <| .ex 11 <| .one 12 <| .one 13 <| .ex 14 <| .ex 15 <| .ex 16 <| .ex 17 <| .ex 18 <| .done) [] (Rd _ _) mixed (by kernel_rfl) rfl rfl hS.rd ?_
          refine PW.ex rfl rfl rfl rfl (Ex.load3c ti31 rfl rfl (by first | exact ob 0 rfl rfl | exact ob 1 rfl rfl | exact ob 2 rfl rfl | exact ob 3 rfl rfl | exact ob 4 rfl rfl | exact ob 5 rfl rfl | exact ob 6 rfl rfl | exact Rd.imm ‹_› | exact sb 0 rfl ‹_› | exact sb 1 rfl ‹_› | exact sb 2 rfl ‹_› | exact sb 3 rfl ‹_›) (by first | exact ob 0 rfl rfl | exact ob 1 rfl rfl | exact ob 2 rfl rfl | exact ob 3 rfl rfl | exact ob 4 rfl rfl | exact ob 5 rfl rfl | exact ob 6 rfl rfl | exact Rd.imm ‹_› | exact sb 0 rfl ‹_› | exact sb 1 rfl ‹_› | exact sb 2 rfl ‹_› | exact sb 3 rfl ‹_›) (by first | exact ob 0 rfl rfl | exact ob 1 rfl rfl | exact ob 2 rfl rfl | exact ob 3 rfl rfl | exact ob 4 rfl rfl | exact ob 5 rfl rfl | exact ob 6 rfl rfl | exact Rd.imm ‹_› | exact sb 0 rfl ‹_› | exact sb 1 rfl ‹_› | exact sb 2 rfl ‹_› | exact sb 3 rfl ‹_›)) ?_
          refine PW.ex rfl rfl rfl rfl (Ex.move rfl) ?_
          refine PW.ex rfl rfl rfl rfl (Ex.fieldO 0 Try.underlying57 rfl rfl ti5 rfl) ?_
          refine PW.ex rfl rfl rfl rfl (Ex.load1 ti5 rfl rfl (by first | exact ob 0 rfl rfl | exact ob 1 rfl rfl | exact ob 2 rfl rfl | exact ob 3 rfl rfl | exact ob 4 rfl rfl | exact ob 5 rfl rfl | exact ob 6 rfl rfl | exact Rd.imm ‹_› | exact sb 0 rfl ‹_› | exact sb 1 rfl ‹_› | exact sb 2 rfl ‹_› | exact sb 3 rfl ‹_›)) ?_
          refine PW.ex rfl rfl rfl rfl (Ex.fieldO 0 Try.underlying36 rfl rfl ti3 rfl) ?_
          refine PW.ex rfl rfl rfl rfl (Ex.load1 ti3 rfl rfl (by first | exact ob 0 rfl rfl | exact ob 1 rfl rfl | exact ob 2 rfl rfl | exact ob 3 rfl rfl | exact ob 4 rfl rfl | exact ob 5 rfl rfl | exact ob 6 rfl rfl | exact Rd.imm ‹_› | exact sb 0 rfl ‹_› | exact sb 1 rfl ‹_› | exact sb 2 rfl ‹_› | exact sb 3 rfl ‹_›)) ?_
          refine PW.ex rfl rfl rfl rfl (Ex.move rfl) ?_
          refine PW.ex rfl rfl rfl rfl (Ex.add rfl rfl (w64 (by omega) (by omega))) ?_
          refine PW.ex rfl rfl rfl rfl (Ex.fieldO 1 Try.underlying36 rfl rfl ti3 rfl) ?_
          refine PW.ex rfl rfl rfl rfl (Ex.load1 ti3 rfl rfl (by first | exact ob 0 rfl rfl | exact ob 1 rfl rfl | exact ob 2 rfl rfl | exact ob 3 rfl rfl | exact ob 4 rfl rfl | exact ob 5 rfl rfl | exact ob 6 rfl rfl | exact Rd.imm ‹_› | exact sb 0 rfl ‹_› | exact sb 1 rfl ‹_› | exact sb 2 rfl ‹_› | exact sb 3 rfl ‹_›)) ?_
          refine PW.ex rfl rfl rfl rfl (Ex.move rfl) ?_
          refine PW.ex rfl rfl rfl rfl (Ex.add rfl rfl (w64 (by omega) (by omega))) ?_
          refine PW.hv rfl rfl rfl rfl (Hv.callS hS rfl rfl rfl cb14 (point_c (cx + dx) (cy + dy) _)) (fun _ _ h => h.2.rd) fun v w111 ⟨hv, hS⟩ => ?_
          subst hv
          refine PW.hv rfl rfl rfl rfl (Hv.callV hS rfl rfl rfl cb17 (adaptF_c (l := [z]) (taps := tp) (key := z.Key) (p := ⟨cx + dx, cy + dy⟩) hS.imm hsa hst hzbl (fun y hy => tapF_b (hTF y hy).1) hTr (fun y hy => (hTF y hy).1.2.2.2) (by simp) (by omega))) (fun _ _ ⟨_, _, hm, h⟩ => Rd.le hm h.rd) fun v w112 ⟨μ112, hv112, hm112, hS⟩ => ?_
          unfold IsAdapt at hv112
          rw [hAr] at hv112
          obtain ⟨ad112, c112, hv, hs112⟩ := hv112
          subst hv
          have hsa := hsa.mono hm112
          refine PW.ex rfl rfl rfl rfl (Ex.move rfl) ?_
          refine PW.ex rfl rfl rfl rfl (Ex.extract rfl rfl) ?_
          refine PW.ex rfl rfl rfl rfl (Ex.extract rfl rfl) ?_
          refine PW.ex rfl rfl rfl rfl (Ex.assign rfl) ?_
          refine PW.ex rfl rfl rfl rfl (Ex.assign rfl) ?_
          refine PW.nil ?_
          refine LW.nil fun aa ha => hK59 _ _ _ ?_ aa ha
          refine CW.seq fun K60 hK60 => ?_
          refine CW.seq fun K61 hK61 => ?_
          refine CW.region [0, 1, 2, 3, 4, 5, 6, 7, 8, 9, 10, 11] rfl ?_
          refine LW.ex rfl rfl rfl rfl (Ex.move rfl) hS.rd ?_
          refine LW.ex rfl rfl rfl rfl (Ex.neq rfl rfl rfl) hS.rd ?_
          refine LW.splitB (fun h17_1 => ?_) (fun h17_1 => ?_)
          · have h17_1 := of_decide_eq_true h17_1
            omega
          · have h17_1 := of_decide_eq_false h17_1
            refine LW.ex rfl rfl rfl rfl (Ex.move rfl) hS.rd ?_
            refine LW.ex rfl rfl rfl rfl (Ex.move rfl) hS.rd ?_
            refine LW.ex rfl rfl rfl rfl (Ex.lenSl rfl Try.underlying33 rfl) hS.rd ?_
            refine LW.ex rfl rfl rfl rfl (Ex.neq rfl rfl rfl) hS.rd ?_
            refine LW.splitB (fun h17_5 => ?_) (fun h17_5 => ?_)
            · have h17_5 := of_decide_eq_true h17_5
              simp only at h17_5
              omega
            · have h17_5 := of_decide_eq_false h17_5
              refine LW.ex rfl rfl rfl rfl (by first | exact Ex.pick_yes rfl rfl | exact Ex.pick_no rfl rfl) hS.rd ?_
              refine LW.ex rfl rfl rfl rfl (Ex.move rfl) hS.rd ?_
              refine LW.ex rfl rfl rfl rfl (Ex.move rfl) hS.rd ?_
              refine LW.hv rfl rfl rfl rfl (Hv.callS hS rfl rfl rfl cb29 (taps_c (tapsN z.Key dx dy (nOf (i + 1))) _ _ _ _ hS.imm hs112)) fun v w124 ⟨hv, hS⟩ => ?_
              subst hv
              refine LW.splitB (fun h17_9 => ?_) (fun h17_9 => ?_)
              · skip
                refine LW.ex rfl rfl rfl rfl (Ex.not rfl rfl) hS.rd ?_
                refine LW.ex rfl rfl rfl rfl (by first | exact Ex.pick_yes rfl rfl | exact Ex.pick_no rfl rfl) hS.rd ?_
                refine LW.nil fun aa ha => hK61 _ _ _ ?_ aa ha
                refine CW.no rfl ?_
                refine CW.skip fun aa ha => hK60 _ _ _ ?_ aa ha
                refine CW.region [0, 1] rfl ?_
                refine LW.ex rfl rfl rfl rfl (Ex.move rfl) hS.rd ?_
                refine LW.ex rfl rfl rfl rfl (Ex.assign rfl) hS.rd ?_
                refine LW.nil fun aa ha => hK58 _ _ _ ?_ aa ha
                refine CW.region [0, 1, 2] rfl ?_
                refine LW.ex rfl rfl rfl rfl (Ex.move rfl) hS.rd ?_
                refine LW.ex rfl rfl rfl rfl (Ex.add rfl rfl (by first | exact inc64 (by omega) | exact addN (by omega) | exact w64 (by omega) (by omega))) hS.rd ?_
                refine LW.ex rfl rfl rfl rfl (Ex.assign rfl) hS.rd ?_
                refine LW.nil fun aa ha => ?_
                refine ⟨_, _, ?m14, ⟨i + 1, tapsN z.Key dx dy (nOf (i + 1)), ad112, c112, μ112, (by first | omega | (simp; done) | (simp; omega)), rfl, rfl, hS, rfl, hsa, hs112⟩, ha.sub ⟨rfl, rfl, rfl, rfl, rfl, rfl, rfl, rfl, rfl, trivial⟩⟩
                case m14 => omega
              · rw [hnv] at h17_9; cases h17_9
        · have h14_6 := of_decide_eq_false h14_6
          refine LW.nil fun aa ha => hK57 _ _ _ ?_ aa ha
          refine CW.no rfl ?_
          refine CW.exit fun aa ha => hK54 _ _ _ ?_ aa ha
          refine CW.seq fun K62 hK62 => ?_
          have hn4 : 4 ≤ nOf i := by have := nOf_ge i; omega
          have hsh := tapsN_shift (key := z.Key) (dx := dx) (dy := dy) hn4
          rw [← htp] at hsh
          obtain ⟨r1, hr1, hr1a, hr1b⟩ := tmod_room x.e (q := z.X1 - z.X0 + 1) (by omega)
          obtain ⟨r2, hr2, hr2a, hr2b⟩ := tmod_room x.f (q := z.Y1 - z.Y0 + 1) (by omega)
          have hTF := tapsN_F (key := z.Key) (dx := dx) (dy := dy) (by rw [hz0]; exact hlet) hdx1 hdy1 i
          rw [← htp] at hTF
          have hTr : Rising tp := by rw [htp]; exact tapsN_r _ _ _ _
          have hTl : tp.length ≤ 1 := by rw [htp]; exact tapsN_len _ _ _ _
          have hTb : ∀ y ∈ tp, TapB y := fun y hy => tapF_b (hTF y hy).1
          have hpp : inP ⟨z.X0 + r1 + dx, z.Y0 + r2 + dy⟩ = true := inP_of (by simp only; omega) (by simp only; omega) (by simp only; omega) (by simp only; omega)
          have hc0 : costOf z tp ⟨z.X0 + r1 + dx, z.Y0 + r2 + dy⟩ = 0 := cost_in (by rw [hsh]; simp only; omega) (by rw [hsh]; simp only; omega) (by rw [hsh]; simp only; omega) (by rw [hsh]; simp only; omega)
          have hme : meant [z] tp ⟨z.X0 + r1 + dx, z.Y0 + r2 + dy⟩ = [⟨z.Key, 0⟩] := by
            unfold meant mayMean; rw [List.filterMap_cons, hc0]; simp
          have hT : touchR [z] tp ⟨z.X0 + r1 + dx, z.Y0 + r2 + dy⟩ = ([⟨z.Key, 0⟩], 0) := by rw [touchR_in hpp (by rw [hme]; simp), hme, few_one]
          have hS := hS.drew
          refine CW.draw 32 (.ex 0 <| .ex 1 <| .ex 2 <| .ex 3 <| .ex 4 <| .ex 5 <| .ex 6 <| .ex 7 <| .ex 8 <| .ex 9 <| .ex 10 <| .ex 11 <| .ex 12 <| .ex 13 <| .ex 14 <| .ex 15 <| .ex 16 <| .ex 17 <| .ex 18 <| .ex 19 <| .ex 20 <| .ex 21 <| .ex 22 <| .ex 23 <| .ex 24 <| .ex 25 <| .ex 26 <| .ex 27 <| .ex 28 <| .ex 29 <| .two 30 (.one 31 <| .done) 31 (.one 30 <| .done)) [32] (Rd _ _) mixed (by kernel_rfl) rfl rfl hS.rd ?_
          refine PW.ex rfl rfl rfl rfl (Ex.fieldO 1 Try.underlying57 rfl rfl ti3 rfl) ?_
          refine PW.ex rfl rfl rfl rfl (Ex.load1 ti3 rfl rfl (by first | exact ob 0 rfl rfl | exact ob 1 rfl rfl | exact ob 2 rfl rfl | exact ob 3 rfl rfl | exact ob 4 rfl rfl | exact ob 5 rfl rfl | exact ob 6 rfl rfl | exact Rd.imm ‹_› | exact sb 0 rfl ‹_› | exact sb 1 rfl ‹_› | exact sb 2 rfl ‹_› | exact sb 3 rfl ‹_›)) ?_
          refine PW.ex rfl rfl rfl rfl (Ex.indexArr (j := 4) Try.underlying76 ti5 rfl rfl rfl (by omega)) ?_
          refine PW.ex rfl rfl rfl rfl (Ex.load1 ti5 rfl rfl (by first | exact ob 0 rfl rfl | exact ob 1 rfl rfl | exact ob 2 rfl rfl | exact ob 3 rfl rfl | exact ob 4 rfl rfl | exact ob 5 rfl rfl | exact ob 6 rfl rfl | exact Rd.imm ‹_› | exact sb 0 rfl ‹_› | exact sb 1 rfl ‹_› | exact sb 2 rfl ‹_› | exact sb 3 rfl ‹_›)) ?_
          refine PW.ex rfl rfl rfl rfl (Ex.conv Try.underlying5 Try.underlying3 rfl (by first | exact w64 (by omega) (by omega) | exact wu8 (by omega) (by omega))) ?_
          refine PW.ex rfl rfl rfl rfl (Ex.fieldO 3 Try.underlying57 rfl rfl ti3 rfl) ?_
          refine PW.ex rfl rfl rfl rfl (Ex.load1 ti3 rfl rfl (by first | exact ob 0 rfl rfl | exact ob 1 rfl rfl | exact ob 2 rfl rfl | exact ob 3 rfl rfl | exact ob 4 rfl rfl | exact ob 5 rfl rfl | exact ob 6 rfl rfl | exact Rd.imm ‹_› | exact sb 0 rfl ‹_› | exact sb 1 rfl ‹_› | exact sb 2 rfl ‹_› | exact sb 3 rfl ‹_›)) ?_
          refine PW.ex rfl rfl rfl rfl (Ex.fieldO 1 Try.underlying57 rfl rfl ti3 rfl) ?_
          refine PW.ex rfl rfl rfl rfl (Ex.load1 ti3 rfl rfl (by first | exact ob 0 rfl rfl | exact ob 1 rfl rfl | exact ob 2 rfl rfl | exact ob 3 rfl rfl | exact ob 4 rfl rfl | exact ob 5 rfl rfl | exact ob 6 rfl rfl | exact Rd.imm ‹_› | exact sb 0 rfl ‹_› | exact sb 1 rfl ‹_› | exact sb 2 rfl ‹_› | exact sb 3 rfl ‹_›)) ?_
          refine PW.ex rfl rfl rfl rfl (Ex.sub rfl rfl (w64 (by omega) (by omega))) ?_
          refine PW.ex rfl rfl rfl rfl (Ex.add rfl rfl (w64 (by omega) (by omega))) ?_
          refine PW.ex rfl rfl rfl rfl (Ex.rem rfl rfl (by omega) hr1) ?_
          refine PW.ex rfl rfl rfl rfl (Ex.add rfl rfl (w64 (by omega) (by omega))) ?_
          refine PW.ex rfl rfl rfl rfl (Ex.move rfl) ?_
          refine PW.ex rfl rfl rfl rfl (Ex.add rfl rfl (w64 (by omega) (by omega))) ?_
          refine PW.ex rfl rfl rfl rfl (Ex.fieldO 2 Try.underlying57 rfl rfl ti3 rfl) ?_
          refine PW.ex rfl rfl rfl rfl (Ex.load1 ti3 rfl rfl (by first | exact ob 0 rfl rfl | exact ob 1 rfl rfl | exact ob 2 rfl rfl | exact ob 3 rfl rfl | exact ob 4 rfl rfl | exact ob 5 rfl rfl | exact ob 6 rfl rfl | exact Rd.imm ‹_› | exact sb 0 rfl ‹_› | exact sb 1 rfl ‹_› | exact sb 2 rfl ‹_› | exact sb 3 rfl ‹_›)) ?_
          refine PW.ex rfl rfl rfl rfl (Ex.indexArr (j := 5) Try.underlying76 ti5 rfl rfl rfl (by omega)) ?_
          refine PW.ex rfl rfl rfl rfl (Ex.load1 ti5 rfl rfl (by first | exact ob 0 rfl rfl | exact ob 1 rfl rfl | exact ob 2 rfl rfl | exact ob 3 rfl rfl | exact ob 4 rfl rfl | exact ob 5 rfl rfl | exact ob 6 rfl rfl | exact Rd.imm ‹_› | exact sb 0 rfl ‹_› | exact sb 1 rfl ‹_› | exact sb 2 rfl ‹_› | exact sb 3 rfl ‹_›)) ?_
          refine PW.ex rfl rfl rfl rfl (Ex.conv Try.underlying5 Try.underlying3 rfl (by first | exact w64 (by omega) (by omega) | exact wu8 (by omega) (by omega))) ?_
          refine PW.ex rfl rfl rfl rfl (Ex.fieldO 4 Try.underlying57 rfl rfl ti3 rfl) ?_
          refine PW.ex rfl rfl rfl rfl (Ex.load1 ti3 rfl rfl (by first | exact ob 0 rfl rfl | exact ob 1 rfl rfl | exact ob 2 rfl rfl | exact ob 3 rfl rfl | exact ob 4 rfl rfl | exact ob 5 rfl rfl | exact ob 6 rfl rfl | exact Rd.imm ‹_› | exact sb 0 rfl ‹_› | exact sb 1 rfl ‹_› | exact sb 2 rfl ‹_› | exact sb 3 rfl ‹_›)) ?_
          refine PW.ex rfl rfl rfl rfl (Ex.fieldO 2 Try.underlying57 rfl rfl ti3 rfl) ?_
          refine PW.ex rfl rfl rfl rfl (Ex.load1 ti3 rfl rfl (by first | exact ob 0 rfl rfl | exact ob 1 rfl rfl | exact ob 2 rfl rfl | exact ob 3 rfl rfl | exact ob 4 rfl rfl | exact ob 5 rfl rfl | exact ob 6 rfl rfl | exact Rd.imm ‹_› | exact sb 0 rfl ‹_› | exact sb 1 rfl ‹_› | exact sb 2 rfl ‹_› | exact sb 3 rfl ‹_›)) ?_
          refine PW.ex rfl rfl rfl rfl (Ex.sub rfl rfl (w64 (by omega) (by omega))) ?_
          refine PW.ex rfl rfl rfl rfl (Ex.add rfl rfl (w64 (by omega) (by omega))) ?_
          refine PW.ex rfl rfl rfl rfl (Ex.rem rfl rfl (by omega) hr2) ?_
          refine PW.ex rfl rfl rfl rfl (Ex.add rfl rfl (w64 (by omega) (by omega))) ?_
          refine PW.ex rfl rfl rfl rfl (Ex.move rfl) ?_
          refine PW.ex rfl rfl rfl rfl (Ex.add rfl rfl (w64 (by omega) (by omega))) ?_
          refine PW.two rfl rfl rfl rfl rfl rfl rfl rfl (Hv.callS hS rfl rfl rfl cb14 (point_c (z.X0 + r1 + dx) (z.Y0 + r2 + dy) _)) (fun _ _ h => h.2.rd) (Hv.alloc ti36 hS) (fun _ _ ⟨_, _, _, h⟩ => h.rd.tail) (fun v w158 ⟨hv, hS⟩ => ?gA63) (fun v w16 ⟨b16, hv, hb16, hS⟩ => ?gB63)
          case gA63 =>
            skip
            subst hv
            refine PW.hv rfl rfl rfl rfl (Hv.alloc ti36 hS) (fun _ _ ⟨_, _, _, h⟩ => h.rd.tail) fun v w16 ⟨b16, hv, hb16, hS⟩ => ?_
            subst hv
            refine PW.nil ?_
            refine LW.hu rfl rfl rfl (Hv.storeN (k := 0) ti36 hS rfl rfl rfl rfl (by simp [Value.oneCell'])) fun _ w_32 hS => ?_
            dsimp only [List.set] at hS
            refine LW.nil fun aa ha => hK62 _ _ _ ?_ aa ha
            refine CW.seq fun K64 hK64 => ?_
            refine CW.region [0, 1, 2, 3, 4, 5, 6, 7, 8] rfl ?_
            refine LW.ex rfl rfl rfl rfl (Ex.load3c ti31 rfl rfl (by first | exact ob 0 rfl rfl | exact ob 1 rfl rfl | exact ob 2 rfl rfl | exact ob 3 rfl rfl | exact ob 4 rfl rfl | exact ob 5 rfl rfl | exact ob 6 rfl rfl | exact Rd.imm ‹_› | exact sb 0 rfl ‹_› | exact sb 1 rfl ‹_› | exact sb 2 rfl ‹_› | exact sb 3 rfl ‹_›) (by first | exact ob 0 rfl rfl | exact ob 1 rfl rfl | exact ob 2 rfl rfl | exact ob 3 rfl rfl | exact ob 4 rfl rfl | exact ob 5 rfl rfl | exact ob 6 rfl rfl | exact Rd.imm ‹_› | exact sb 0 rfl ‹_› | exact sb 1 rfl ‹_› | exact sb 2 rfl ‹_› | exact sb 3 rfl ‹_›) (by first | exact ob 0 rfl rfl | exact ob 1 rfl rfl | exact ob 2 rfl rfl | exact ob 3 rfl rfl | exact ob 4 rfl rfl | exact ob 5 rfl rfl | exact ob 6 rfl rfl | exact Rd.imm ‹_› | exact sb 0 rfl ‹_› | exact sb 1 rfl ‹_› | exact sb 2 rfl ‹_› | exact sb 3 rfl ‹_›)) hS.rd ?_
            refine LW.ex rfl rfl rfl rfl (Ex.move rfl) hS.rd ?_
            refine LW.ex rfl rfl rfl rfl (Ex.load2c ti36 rfl rfl (by first | exact ob 0 rfl rfl | exact ob 1 rfl rfl | exact ob 2 rfl rfl | exact ob 3 rfl rfl | exact ob 4 rfl rfl | exact ob 5 rfl rfl | exact ob 6 rfl rfl | exact Rd.imm ‹_› | exact sb 0 rfl ‹_› | exact sb 1 rfl ‹_› | exact sb 2 rfl ‹_› | exact sb 3 rfl ‹_›) (by first | exact ob 0 rfl rfl | exact ob 1 rfl rfl | exact ob 2 rfl rfl | exact ob 3 rfl rfl | exact ob 4 rfl rfl | exact ob 5 rfl rfl | exact ob 6 rfl rfl | exact Rd.imm ‹_› | exact sb 0 rfl ‹_› | exact sb 1 rfl ‹_› | exact sb 2 rfl ‹_› | exact sb 3 rfl ‹_›)) hS.rd ?_
            refine LW.hv rfl rfl rfl rfl (Hv.callV hS rfl rfl rfl cb15 (touchF_c (l := [z]) (taps := tp) (p := ⟨z.X0 + r1 + dx, z.Y0 + r2 + dy⟩) hS.imm hsa hst hzbl hTb hTr hzk (by simp) (by omega))) fun v w163 ⟨μ163, hv163, hm163, hS⟩ => ?_
            unfold IsTR at hv163
            rw [hT] at hv163
            obtain ⟨ad163, c163, hv, hs163⟩ := hv163
            subst hv
            have hst := hst.mono hm163
            refine LW.ex rfl rfl rfl rfl (Ex.move rfl) hS.rd ?_
            refine LW.ex rfl rfl rfl rfl (Ex.extract rfl rfl) hS.rd ?_
            refine LW.ex rfl rfl rfl rfl (Ex.extract rfl rfl) hS.rd ?_
            refine LW.ex rfl rfl rfl rfl (Ex.assign rfl) hS.rd ?_
            refine LW.ex rfl rfl rfl rfl (Ex.assign rfl) hS.rd ?_
            refine LW.nil fun aa ha => hK64 _ _ _ ?_ aa ha
            refine CW.seq fun K65 hK65 => ?_
            refine CW.region [0, 1, 2, 3, 4, 5, 6, 7, 8, 9, 10, 11, 12, 13, 14, 15, 16, 17, 18, 19, 20, 21, 22] rfl ?_
            refine LW.ex rfl rfl rfl rfl (Ex.move rfl) hS.rd ?_
            refine LW.ex rfl rfl rfl rfl (Ex.eql rfl rfl rfl) hS.rd ?_
            refine LW.splitB (fun h22_1 => ?_) (fun h22_1 => ?_)
            · have h22_1 := of_decide_eq_true h22_1
              refine LW.ex rfl rfl rfl rfl (Ex.move rfl) hS.rd ?_
              refine LW.ex rfl rfl rfl rfl (Ex.move rfl) hS.rd ?_
              refine LW.ex rfl rfl rfl rfl (Ex.fieldO 0 Try.underlying57 rfl rfl ti5 rfl) hS.rd ?_
              refine LW.ex rfl rfl rfl rfl (Ex.load1 ti5 rfl rfl (by first | exact ob 0 rfl rfl | exact ob 1 rfl rfl | exact ob 2 rfl rfl | exact ob 3 rfl rfl | exact ob 4 rfl rfl | exact ob 5 rfl rfl | exact ob 6 rfl rfl | exact Rd.imm ‹_› | exact sb 0 rfl ‹_› | exact sb 1 rfl ‹_› | exact sb 2 rfl ‹_› | exact sb 3 rfl ‹_›)) hS.rd ?_
              refine LW.hv rfl rfl rfl rfl (Hv.callS hS rfl rfl rfl cb27 (costIn_c [⟨z.Key, 0⟩] z.Key _ _ _ _ hS.imm hs163)) fun v w172 ⟨hv, hS⟩ => ?_
              subst hv
              refine LW.ex rfl rfl rfl rfl (Ex.eql rfl rfl rfl) hS.rd ?_
              refine LW.splitB (fun h22_7 => ?_) (fun h22_7 => ?_)
              · have h22_7 := of_decide_eq_true h22_7
                refine LW.ex rfl rfl rfl rfl (by first | exact Ex.pick_yes rfl rfl | exact Ex.pick_no rfl rfl) hS.rd ?_
                refine LW.ex rfl rfl rfl rfl (Ex.move rfl) hS.rd ?_
                refine LW.ex rfl rfl rfl rfl (Ex.move rfl) hS.rd ?_
                refine LW.ex rfl rfl rfl rfl (Ex.fieldO 0 Try.underlying57 rfl rfl ti5 rfl) hS.rd ?_
                refine LW.ex rfl rfl rfl rfl (Ex.load1 ti5 rfl rfl (by first | exact ob 0 rfl rfl | exact ob 1 rfl rfl | exact ob 2 rfl rfl | exact ob 3 rfl rfl | exact ob 4 rfl rfl | exact ob 5 rfl rfl | exact ob 6 rfl rfl | exact Rd.imm ‹_› | exact sb 0 rfl ‹_› | exact sb 1 rfl ‹_› | exact sb 2 rfl ‹_› | exact sb 3 rfl ‹_›)) hS.rd ?_
                refine LW.hv rfl rfl rfl rfl (Hv.callS hS rfl rfl rfl cb21 (shiftR_c tp z.Key _ _ _ _ hS.imm hst hTb hTr (by omega))) fun v w179 ⟨hv, hS⟩ => ?_
                subst hv
                refine LW.ex rfl rfl rfl rfl (Ex.move rfl) hS.rd ?_
                refine LW.ex rfl rfl rfl rfl (Ex.move rfl) hS.rd ?_
                refine LW.hv rfl rfl rfl rfl (Hv.callS hS rfl rfl rfl cb14 (point_c dx dy _)) fun v w182 ⟨hv, hS⟩ => ?_
                subst hv
                refine LW.ex rfl rfl rfl rfl (Ex.eqlSt (by kernel_rfl) rfl rfl (ptEq (shiftOf tp z.Key) ⟨dx, dy⟩)) hS.rd ?_
                refine LW.splitB (fun h22_17 => ?_) (fun h22_17 => ?_)
                · skip
                  refine LW.ex rfl rfl rfl rfl (by first | exact Ex.pick_yes rfl rfl | exact Ex.pick_no rfl rfl) hS.rd ?_
                  refine LW.ex rfl rfl rfl rfl (Ex.move rfl) hS.rd ?_
                  refine LW.ex rfl rfl rfl rfl (Ex.move rfl) hS.rd ?_
                  refine LW.ex rfl rfl rfl rfl (by first | exact Ex.pick_yes rfl rfl | exact Ex.pick_no rfl rfl) hS.rd ?_
                  refine LW.ex rfl rfl rfl rfl (Ex.assign rfl) hS.rd ?_
                  refine LW.nil fun aa ha => hK65 _ _ _ ?_ aa ha
                  refine CW.ret fun aa ha => ?_
                  refine ret_one ha Try.results9 rfl ?_
                  exact hS.retS
                · rw [hsh] at h22_17
                  simp at h22_17
              · have h22_7 := of_decide_eq_false h22_7
                exfalso
                apply h22_7
                simp [costIn]
            · have h22_1 := of_decide_eq_false h22_1
              omega
          case gB63 =>
            skip
            subst hv
            refine PW.hv rfl rfl rfl rfl (Hv.callS hS rfl rfl rfl cb14 (point_c (z.X0 + r1 + dx) (z.Y0 + r2 + dy) _)) (fun _ _ h => h.2.rd.tail) fun v w158 ⟨hv, hS⟩ => ?_
            subst hv
            refine PW.nil ?_
            refine LW.hu rfl rfl rfl (Hv.storeN (k := 0) ti36 hS rfl rfl rfl rfl (by simp [Value.oneCell'])) fun _ w_32 hS => ?_
            dsimp only [List.set] at hS
            refine LW.nil fun aa ha => hK62 _ _ _ ?_ aa ha
            refine CW.seq fun K66 hK66 => ?_
            refine CW.region [0, 1, 2, 3, 4, 5, 6, 7, 8] rfl ?_
            refine LW.ex rfl rfl rfl rfl (Ex.load3c ti31 rfl rfl (by first | exact ob 0 rfl rfl | exact ob 1 rfl rfl | exact ob 2 rfl rfl | exact ob 3 rfl rfl | exact ob 4 rfl rfl | exact ob 5 rfl rfl | exact ob 6 rfl rfl | exact Rd.imm ‹_› | exact sb 0 rfl ‹_› | exact sb 1 rfl ‹_› | exact sb 2 rfl ‹_› | exact sb 3 rfl ‹_›) (by first | exact ob 0 rfl rfl | exact ob 1 rfl rfl | exact ob 2 rfl rfl | exact ob 3 rfl rfl | exact ob 4 rfl rfl | exact ob 5 rfl rfl | exact ob 6 rfl rfl | exact Rd.imm ‹_› | exact sb 0 rfl ‹_› | exact sb 1 rfl ‹_› | exact sb 2 rfl ‹_› | exact sb 3 rfl ‹_›) (by first | exact ob 0 rfl rfl | exact ob 1 rfl rfl | exact ob 2 rfl rfl | exact ob 3 rfl rfl | exact ob 4 rfl rfl | exact ob 5 rfl rfl | exact ob 6 rfl rfl | exact Rd.imm ‹_› | exact sb 0 rfl ‹_› | exact sb 1 rfl ‹_› | exact sb 2 rfl ‹_› | exact sb 3 rfl ‹_›)) hS.rd ?_
            refine LW.ex rfl rfl rfl rfl (Ex.move rfl) hS.rd ?_
            refine LW.ex rfl rfl rfl rfl (Ex.load2c ti36 rfl rfl (by first | exact ob 0 rfl rfl | exact ob 1 rfl rfl | exact ob 2 rfl rfl | exact ob 3 rfl rfl | exact ob 4 rfl rfl | exact ob 5 rfl rfl | exact ob 6 rfl rfl | exact Rd.imm ‹_› | exact sb 0 rfl ‹_› | exact sb 1 rfl ‹_› | exact sb 2 rfl ‹_› | exact sb 3 rfl ‹_›) (by first | exact ob 0 rfl rfl | exact ob 1 rfl rfl | exact ob 2 rfl rfl | exact ob 3 rfl rfl | exact ob 4 rfl rfl | exact ob 5 rfl rfl | exact ob 6 rfl rfl | exact Rd.imm ‹_› | exact sb 0 rfl ‹_› | exact sb 1 rfl ‹_› | exact sb 2 rfl ‹_› | exact sb 3 rfl ‹_›)) hS.rd ?_
            refine LW.hv rfl rfl rfl rfl (Hv.callV hS rfl rfl rfl cb15 (touchF_c (l := [z]) (taps := tp) (p := ⟨z.X0 + r1 + dx, z.Y0 + r2 + dy⟩) hS.imm hsa hst hzbl hTb hTr hzk (by simp) (by omega))) fun v w163 ⟨μ163, hv163, hm163, hS⟩ => ?_
            unfold IsTR at hv163
            rw [hT] at hv163
            obtain ⟨ad163, c163, hv, hs163⟩ := hv163
            subst hv
            have hst := hst.mono hm163
            refine LW.ex rfl rfl rfl rfl (Ex.move rfl) hS.rd ?_
            refine LW.ex rfl rfl rfl rfl (Ex.extract rfl rfl) hS.rd ?_
            refine LW.ex rfl rfl rfl rfl (Ex.extract rfl rfl) hS.rd ?_
            refine LW.ex rfl rfl rfl rfl (Ex.assign rfl) hS.rd ?_
            refine LW.ex rfl rfl rfl rfl (Ex.assign rfl) hS.rd ?_
            refine LW.nil fun aa ha => hK66 _ _ _ ?_ aa ha
            refine CW.seq fun K67 hK67 => ?_
            refine CW.region [0, 1, 2, 3, 4, 5, 6, 7, 8, 9, 10, 11, 12, 13, 14, 15, 16, 17, 18, 19, 20, 21, 22] rfl ?_
            refine LW.ex rfl rfl rfl rfl (Ex.move rfl) hS.rd ?_
            refine LW.ex rfl rfl rfl rfl (Ex.eql rfl rfl rfl) hS.rd ?_
            refine LW.splitB (fun h22_1 => ?_) (fun h22_1 => ?_)
            · have h22_1 := of_decide_eq_true h22_1
              refine LW.ex rfl rfl rfl rfl (Ex.move rfl) hS.rd ?_
              refine LW.ex rfl rfl rfl rfl (Ex.move rfl) hS.rd ?_
              refine LW.ex rfl rfl rfl rfl (Ex.fieldO 0 Try.underlying57 rfl rfl ti5 rfl) hS.rd ?_
              refine LW.ex rfl rfl rfl rfl (Ex.load1 ti5 rfl rfl (by first | exact ob 0 rfl rfl | exact ob 1 rfl rfl | exact ob 2 rfl rfl | exact ob 3 rfl rfl | exact ob 4 rfl rfl | exact ob 5 rfl rfl | exact ob 6 rfl rfl | exact Rd.imm ‹_› | exact sb 0 rfl ‹_› | exact sb 1 rfl ‹_› | exact sb 2 rfl ‹_› | exact sb 3 rfl ‹_›)) hS.rd ?_
              refine LW.hv rfl rfl rfl rfl (Hv.callS hS rfl rfl rfl cb27 (costIn_c [⟨z.Key, 0⟩] z.Key _ _ _ _ hS.imm hs163)) fun v w172 ⟨hv, hS⟩ => ?_
              subst hv
              refine LW.ex rfl rfl rfl rfl (Ex.eql rfl rfl rfl) hS.rd ?_
              refine LW.splitB (fun h22_7 => ?_) (fun h22_7 => ?_)
              · have h22_7 := of_decide_eq_true h22_7
                refine LW.ex rfl rfl rfl rfl (by first | exact Ex.pick_yes rfl rfl | exact Ex.pick_no rfl rfl) hS.rd ?_
                refine LW.ex rfl rfl rfl rfl (Ex.move rfl) hS.rd ?_
                refine LW.ex rfl rfl rfl rfl (Ex.move rfl) hS.rd ?_
                refine LW.ex rfl rfl rfl rfl (Ex.fieldO 0 Try.underlying57 rfl rfl ti5 rfl) hS.rd ?_
                refine LW.ex rfl rfl rfl rfl (Ex.load1 ti5 rfl rfl (by first | exact ob 0 rfl rfl | exact ob 1 rfl rfl | exact ob 2 rfl rfl | exact ob 3 rfl rfl | exact ob 4 rfl rfl | exact ob 5 rfl rfl | exact ob 6 rfl rfl | exact Rd.imm ‹_› | exact sb 0 rfl ‹_› | exact sb 1 rfl ‹_› | exact sb 2 rfl ‹_› | exact sb 3 rfl ‹_›)) hS.rd ?_
                refine LW.hv rfl rfl rfl rfl (Hv.callS hS rfl rfl rfl cb21 (shiftR_c tp z.Key _ _ _ _ hS.imm hst hTb hTr (by omega))) fun v w179 ⟨hv, hS⟩ => ?_
                subst hv
                refine LW.ex rfl rfl rfl rfl (Ex.move rfl) hS.rd ?_
                refine LW.ex rfl rfl rfl rfl (Ex.move rfl) hS.rd ?_
                refine LW.hv rfl rfl rfl rfl (Hv.callS hS rfl rfl rfl cb14 (point_c dx dy _)) fun v w182 ⟨hv, hS⟩ => ?_
                subst hv
                refine LW.ex rfl rfl rfl rfl (Ex.eqlSt (by kernel_rfl) rfl rfl (ptEq (shiftOf tp z.Key) ⟨dx, dy⟩)) hS.rd ?_
                refine LW.splitB (fun h22_17 => ?_) (fun h22_17 => ?_)
                · skip
                  refine LW.ex rfl rfl rfl rfl (by first | exact Ex.pick_yes rfl rfl | exact Ex.pick_no rfl rfl) hS.rd ?_
                  refine LW.ex rfl rfl rfl rfl (Ex.move rfl) hS.rd ?_
                  refine LW.ex rfl rfl rfl rfl (Ex.move rfl) hS.rd ?_
                  refine LW.ex rfl rfl rfl rfl (by first | exact Ex.pick_yes rfl rfl | exact Ex.pick_no rfl rfl) hS.rd ?_
                  refine LW.ex rfl rfl rfl rfl (Ex.assign rfl) hS.rd ?_
                  refine LW.nil fun aa ha => hK67 _ _ _ ?_ aa ha
                  refine CW.ret fun aa ha => ?_
                  refine ret_one ha Try.results9 rfl ?_
                  exact hS.retS
                · rw [hsh] at h22_17
                  simp at h22_17
              · have h22_7 := of_decide_eq_false h22_7
                exfalso
                apply h22_7
                simp [costIn]
            · have h22_1 := of_decide_eq_false h22_1
              omega
      case gB52 =>
        skip
        subst hv
        refine PW.hv rfl rfl rfl rfl (Hv.callS hS rfl rfl rfl cb28 (middle_c z _ hzb)) (fun _ _ h => h.2.rd.tail) fun v w87 ⟨hv, hS⟩ => ?_
        subst hv
        refine PW.ex rfl rfl rfl rfl (Ex.assign rfl) ?_
        refine PW.ex rfl rfl rfl rfl (Ex.assign rfl) ?_
        refine PW.nil ?_
        refine LW.hu rfl rfl rfl (Hv.storeN (k := 0) ti36 hS rfl rfl rfl rfl (by simp [Value.oneCell'])) fun _ w_15 hS => ?_
        dsimp only [List.set] at hS
        refine LW.nil fun aa ha => hK51 _ _ _ ?_ aa ha
        refine CW.seq fun K68 hK68 => ?_
        have hS : St w _ μa [Own.obj b11 [.int .i64 (middle z).X, .int .i64 (middle z).Y] 36, Own.obj b8 (areaL z) 57, Own.obj b7 [.slice (some ⟨b38, 0, none⟩) 1 1, .slice none 0 0, .slice none 0 0] 31, Own.obj b6 [.slice (some ⟨bl, ol, none⟩) (made l).length c0, .slice a1 2 c1, .slice a2 2 c2] 31, Own.obj b3 [.int .u8 x.a.toNat, .int .u8 x.b.toNat, .int .u8 x.c.toNat, .int .u8 x.d.toNat, .int .u8 x.e.toNat, .int .u8 x.f.toNat] 76] := hS
        rw [← hcx, ← hcy] at hS
        refine CW.region [0, 1] rfl ?_
        refine LW.hv rfl rfl rfl rfl (Hv.buildSl hS Try.underlying33 ti82 rfl rfl rfl rfl rfl rfl) fun v w88 ⟨b88, hv, hb88, hS⟩ => ?_
        subst hv
        obtain ⟨μt, hmt, hS, hst⟩ := hS.shutRow (α := Tap) 0 rfl (RepL.nil _) (by simp [maxLen])
        dsimp only [List.eraseIdx] at hS
        have hsa := hsa.mono hmt
        refine LW.ex rfl rfl rfl rfl (Ex.assign rfl) hS.rd ?_
        refine LW.nil fun aa ha => hK68 _ _ _ ?_ aa ha
        refine CW.seq fun K69 hK69 => ?_
        refine CW.seq fun K70 hK70 => ?_
        refine CW.region [0] rfl ?_
        refine LW.ex rfl rfl rfl rfl (Ex.assign rfl) hS.rd ?_
        refine LW.nil fun aa ha => hK70 _ _ _ ?_ aa ha
        refine CW.block ?_
        refine CW.loop (fun q m wl14 => ∃ (i : Nat) (tp : List Tap) (adp : Option Addr) (cp : Nat) (μ6 : Mem), i ≤ 4 + q3 ∧ q = 100 - i ∧ m = [(3, .pointer (some ⟨b3, 0, none⟩)), (5, .bool true), (7, .pointer (some ⟨b7, 0, none⟩)), (8, .pointer (some ⟨b8, 0, none⟩)), (9, .int .i64 dx), (10, .int .i64 dy), (11, .pointer (some ⟨b11, 0, none⟩)), (12, .slice adp tp.length cp), (13, .int .i64 i)] ∧ St w wl14 μ6 [Own.obj b11 [.int .i64 cx, .int .i64 cy] 36, Own.obj b8 (areaL z) 57, Own.obj b7 [.slice (some ⟨b38, 0, none⟩) 1 1, .slice none 0 0, .slice none 0 0] 31, Own.obj b6 [.slice (some ⟨bl, ol, none⟩) (made l).length c0, .slice a1 2 c1, .slice a2 2 c2] 31, Own.obj b3 [.int .u8 x.a.toNat, .int .u8 x.b.toNat, .int .u8 x.c.toNat, .int .u8 x.d.toNat, .int .u8 x.e.toNat, .int .u8 x.f.toNat] 76] ∧ (tp = tapsN z.Key dx dy (nOf i)) ∧ (Sl μ6 (some ⟨b38, 0, none⟩) 1 [z]) ∧ (Sl μ6 adp cp tp)) _ ⟨0, [], some ⟨b88, 0, none⟩, 0, μt, (by first | omega | (simp; done) | (simp; omega)), rfl, rfl, hS, rfl, hsa, hst⟩ ⟨rfl, rfl, rfl, rfl, rfl, rfl, rfl, rfl, rfl, trivial⟩ ?_
        clear hS
        rintro q m wl14 ⟨i, tp, adp, cp, μ6, hi, hq, rfl, hS, htp, hsa, hst⟩
        refine CW.seq fun K71 hK71 => ?_
        refine CW.seq fun K72 hK72 => ?_
        refine CW.region [0, 1, 2, 3, 4, 5, 6] rfl ?_
        refine LW.ex rfl rfl rfl rfl (Ex.move rfl) hS.rd ?_
        refine LW.ex rfl rfl rfl rfl (Ex.indexArr (j := 3) Try.underlying76 ti5 rfl rfl rfl (by omega)) hS.rd ?_
        refine LW.ex rfl rfl rfl rfl (Ex.load1 ti5 rfl rfl (by first | exact ob 0 rfl rfl | exact ob 1 rfl rfl | exact ob 2 rfl rfl | exact ob 3 rfl rfl | exact ob 4 rfl rfl | exact ob 5 rfl rfl | exact ob 6 rfl rfl | exact Rd.imm ‹_› | exact sb 0 rfl ‹_› | exact sb 1 rfl ‹_› | exact sb 2 rfl ‹_› | exact sb 3 rfl ‹_›)) hS.rd ?_
        refine LW.ex rfl rfl rfl rfl (Ex.conv Try.underlying5 Try.underlying3 rfl (by first | exact w64 (by omega) (by omega) | exact wu8 (by omega) (by omega))) hS.rd ?_
        refine LW.ex rfl rfl rfl rfl (Ex.rem rfl rfl (by omega) (show _ = ((q3 : Nat) : Int) from by rw [hq3]; exact tmodN x.d.toNat 77)) hS.rd ?_
        refine LW.ex rfl rfl rfl rfl (Ex.add rfl rfl (w64 (by omega) (by omega))) hS.rd ?_
        refine LW.ex rfl rfl rfl rfl (Ex.lss rfl rfl rfl) hS.rd ?_
        refine LW.splitB (fun h14_6 => ?_) (fun h14_6 => ?_)
        · have h14_6 := of_decide_eq_true h14_6
          refine LW.nil fun aa ha => hK72 _ _ _ ?_ aa ha
          refine CW.yes rfl ?_
          refine CW.skip fun aa ha => hK71 _ _ _ ?_ aa ha
          refine CW.seq fun K73 hK73 => ?_
          refine CW.block ?_
          refine CW.seq fun K74 hK74 => ?_
          have hTF := tapsN_F (key := z.Key) (dx := dx) (dy := dy) (by rw [hz0]; exact hlet) hdx1 hdy1 i
          rw [← htp] at hTF
          have hTF2 := tapsN_F (key := z.Key) (dx := dx) (dy := dy) (by rw [hz0]; exact hlet) hdx1 hdy1 (i + 1)
          have hTr : Rising tp := by rw [htp]; exact tapsN_r _ _ _ _
          have hTl : tp.length ≤ 1 := by rw [htp]; exact tapsN_len _ _ _ _
          have hAr := adapt_one (a := z) (key := z.Key) (dx := dx) (dy := dy) rfl i (by rw [← hcx, ← hcy]; exact hpc)
          rw [← hcx, ← hcy, ← htp] at hAr
          have hnv := tapsR_of (tapsN_r z.Key dx dy (nOf (i + 1))) hTF2
          have hn1 : (tapsN z.Key dx dy (nOf (i + 1))).length = 1 := by
            have := nOf_ge (i + 1)
            unfold tapsN; rw [if_neg (by omega)]; rfl
          have hS := hS.drew
          refine CW.draw 19 (.ex 0 <| .ex 1 <| .ex 2 <| .ex 3 <| .ex 4 <| .ex 5 <| .ex 6 <| .ex 7 <| .ex 8 <| .ex 9 <| .ex 10 <| .ex 11 <| .one 12 <| .one 13 <| .ex 14 <| .ex 15 <| .ex 16 <| .ex 17 <| .ex 18 <| .done) [] (Rd _ _) mixed (by kernel_rfl) rfl rfl hS.rd ?_
          refine PW.ex rfl rfl rfl rfl (Ex.load3c ti31 rfl rfl (by first | exact ob 0 rfl rfl | exact ob 1 rfl rfl | exact ob 2 rfl rfl | exact ob 3 rfl rfl | exact ob 4 rfl rfl | exact ob 5 rfl rfl | exact ob 6 rfl rfl | exact Rd.imm ‹_› | exact sb 0 rfl ‹_› | exact sb 1 rfl ‹_› | exact sb 2 rfl ‹_› | exact sb 3 rfl ‹_›) (by first | exact ob 0 rfl rfl | exact ob 1 rfl rfl | exact ob 2 rfl rfl | exact ob 3 rfl rfl | exact ob 4 rfl rfl | exact ob 5 rfl rfl | exact ob 6 rfl rfl | exact Rd.imm ‹_› | exact sb 0 rfl ‹_› | exact sb 1 rfl ‹_› | exact sb 2 rfl ‹_› | exact sb 3 rfl ‹_›) (by first | exact ob 0 rfl rfl | exact ob 1 rfl rfl | exact ob 2 rfl rfl | exact ob 3 rfl rfl | exact ob 4 rfl rfl | exact ob 5 rfl rfl | exact ob 6 rfl rfl | exact Rd.imm ‹_› | exact sb 0 rfl ‹_› | exact sb 1 rfl ‹_› | exact sb 2 rfl ‹_› | exact sb 3 rfl ‹_›)) ?_
          refine PW.ex rfl rfl rfl rfl (Ex.move rfl) ?_
          refine PW.ex rfl rfl rfl rfl (Ex.fieldO 0 Try.underlying57 rfl rfl ti5 rfl) ?_
          refine PW.ex rfl rfl rfl rfl (Ex.load1 ti5 rfl rfl (by first | exact ob 0 rfl rfl | exact ob 1 rfl rfl | exact ob 2 rfl rfl | exact ob 3 rfl rfl | exact ob 4 rfl rfl | exact ob 5 rfl rfl | exact ob 6 rfl rfl | exact Rd.imm ‹_› | exact sb 0 rfl ‹_› | exact sb 1 rfl ‹_› | exact sb 2 rfl ‹_› | exact sb 3 rfl ‹_›)) ?_
          refine PW.ex rfl rfl rfl rfl (Ex.fieldO 0 Try.underlying36 rfl rfl ti3 rfl) ?_
          refine PW.ex rfl rfl rfl rfl (Ex.load1 ti3 rfl rfl (by first | exact ob 0 rfl rfl | exact ob 1 rfl rfl | exact ob 2 rfl rfl | exact ob 3 rfl rfl | exact ob 4 rfl rfl | exact ob 5 rfl rfl | exact ob 6 rfl rfl | exact Rd.imm ‹_› | exact sb 0 rfl ‹_› | exact sb 1 rfl ‹_› | exact sb 2 rfl ‹_› | exact sb 3 rfl ‹_›)) ?_
          refine PW.ex rfl rfl rfl rfl (Ex.move rfl) ?_
          refine PW.ex rfl rfl rfl rfl (Ex.add rfl rfl (w64 (by omega) (by omega))) ?_
          refine PW.ex rfl rfl rfl rfl (Ex.fieldO 1 Try.underlying36 rfl rfl ti3 rfl) ?_
          refine PW.ex rfl rfl rfl rfl (Ex.load1 ti3 rfl rfl (by first | exact ob 0 rfl rfl | exact ob 1 rfl rfl | exact ob 2 rfl rfl | exact ob 3 rfl rfl | exact ob 4 rfl rfl | exact ob 5 rfl rfl | exact ob 6 rfl rfl | exact Rd.imm ‹_› | exact sb 0 rfl ‹_› | exact sb 1 rfl ‹_› | exact sb 2 rfl ‹_› | exact sb 3 rfl ‹_›)) ?_
          refine PW.ex rfl rfl rfl rfl (Ex.move rfl) ?_
          refine PW.ex rfl rfl rfl rfl (Ex.add rfl rfl (w64 (by omega) (by omega))) ?_
          refine PW.hv rfl rfl rfl rfl (Hv.callS hS rfl rfl rfl cb14 (point_c (cx + dx) (cy + dy) _)) (fun _ _ h => h.2.rd) fun v w111 ⟨hv, hS⟩ => ?_
          subst hv
          refine PW.hv rfl rfl rfl rfl (Hv.callV hS rfl rfl rfl cb17 (adaptF_c (l := [z]) (taps := tp) (key := z.Key) (p := ⟨cx + dx, cy + dy⟩) hS.imm hsa hst hzbl (fun y hy => tapF_b (hTF y hy).1) hTr (fun y hy => (hTF y hy).1.2.2.2) (by simp) (by omega))) (fun _ _ ⟨_, _, hm, h⟩ => Rd.le hm h.rd) fun v w112 ⟨μ112, hv112, hm112, hS⟩ => ?_
          unfold IsAdapt at hv112
          rw [hAr] at hv112
          obtain ⟨ad112, c112, hv, hs112⟩ := hv112
          subst hv
          have hsa := hsa.mono hm112
          refine PW.ex rfl rfl rfl rfl (Ex.move rfl) ?_
          refine PW.ex rfl rfl rfl rfl (Ex.extract rfl rfl) ?_
          refine PW.ex rfl rfl rfl rfl (Ex.extract rfl rfl) ?_
          refine PW.ex rfl rfl rfl rfl (Ex.assign rfl) ?_
          refine PW.ex rfl rfl rfl rfl (Ex.assign rfl) ?_
          refine PW.nil ?_
          refine LW.nil fun aa ha => hK74 _ _ _ ?_ aa ha
          refine CW.seq fun K75 hK75 => ?_
          refine CW.seq fun K76 hK76 => ?_
          refine CW.region [0, 1, 2, 3, 4, 5, 6, 7, 8, 9, 10, 11] rfl ?_
          refine LW.ex rfl rfl rfl rfl (Ex.move rfl) hS.rd ?_
          refine LW.ex rfl rfl rfl rfl (Ex.neq rfl rfl rfl) hS.rd ?_
          refine LW.splitB (fun h17_1 => ?_) (fun h17_1 => ?_)
          · have h17_1 := of_decide_eq_true h17_1
            omega
          · have h17_1 := of_decide_eq_false h17_1
            refine LW.ex rfl rfl rfl rfl (Ex.move rfl) hS.rd ?_
            refine LW.ex rfl rfl rfl rfl (Ex.move rfl) hS.rd ?_
            refine LW.ex rfl rfl rfl rfl (Ex.lenSl rfl Try.underlying33 rfl) hS.rd ?_
            refine LW.ex rfl rfl rfl rfl (Ex.neq rfl rfl rfl) hS.rd ?_
            refine LW.splitB (fun h17_5 => ?_) (fun h17_5 => ?_)
            · have h17_5 := of_decide_eq_true h17_5
              simp only at h17_5
              omega
            · have h17_5 := of_decide_eq_false h17_5
              refine LW.ex rfl rfl rfl rfl (by first | exact Ex.pick_yes rfl rfl | exact Ex.pick_no rfl rfl) hS.rd ?_
              refine LW.ex rfl rfl rfl rfl (Ex.move rfl) hS.rd ?_
              refine LW.ex rfl rfl rfl rfl (Ex.move rfl) hS.rd ?_
              refine LW.hv rfl rfl rfl rfl (Hv.callS hS rfl rfl rfl cb29 (taps_c (tapsN z.Key dx dy (nOf (i + 1))) _ _ _ _ hS.imm hs112)) fun v w124 ⟨hv, hS⟩ => ?_
              subst hv
              refine LW.splitB (fun h17_9 => ?_) (fun h17_9 => ?_)
              · skip
                refine LW.ex rfl rfl rfl rfl (Ex.not rfl rfl) hS.rd ?_
                refine LW.ex rfl rfl rfl rfl (by first | exact Ex.pick_yes rfl rfl | exact Ex.pick_no rfl rfl) hS.rd ?_
                refine LW.nil fun aa ha => hK76 _ _ _ ?_ aa ha
                refine CW.no rfl ?_
                refine CW.skip fun aa ha => hK75 _ _ _ ?_ aa ha
                refine CW.region [0, 1] rfl ?_
                refine LW.ex rfl rfl rfl rfl (Ex.move rfl) hS.rd ?_
                refine LW.ex rfl rfl rfl rfl (Ex.assign rfl) hS.rd ?_
                refine LW.nil fun aa ha => hK73 _ _ _ ?_ aa ha
                refine CW.region [0, 1, 2] rfl ?_
                refine LW.ex rfl rfl rfl rfl (Ex.move rfl) hS.rd ?_
                refine LW.ex rfl rfl rfl rfl (Ex.add rfl rfl (by first | exact inc64 (by omega) | exact addN (by omega) | exact w64 (by omega) (by omega))) hS.rd ?_
                refine LW.ex rfl rfl rfl rfl (Ex.assign rfl) hS.rd ?_
                refine LW.nil fun aa ha => ?_
                refine ⟨_, _, ?m14, ⟨i + 1, tapsN z.Key dx dy (nOf (i + 1)), ad112, c112, μ112, (by first | omega | (simp; done) | (simp; omega)), rfl, rfl, hS, rfl, hsa, hs112⟩, ha.sub ⟨rfl, rfl, rfl, rfl, rfl, rfl, rfl, rfl, rfl, trivial⟩⟩
                case m14 => omega
              · rw [hnv] at h17_9; cases h17_9
        · have h14_6 := of_decide_eq_false h14_6
          refine LW.nil fun aa ha => hK72 _ _ _ ?_ aa ha
          refine CW.no rfl ?_
          refine CW.exit fun aa ha => hK69 _ _ _ ?_ aa ha
          refine CW.seq fun K77 hK77 => ?_
          have hn4 : 4 ≤ nOf i := by have := nOf_ge i; omega
          have hsh := tapsN_shift (key := z.Key) (dx := dx) (dy := dy) hn4
          rw [← htp] at hsh
          obtain ⟨r1, hr1, hr1a, hr1b⟩ := tmod_room x.e (q := z.X1 - z.X0 + 1) (by omega)
          obtain ⟨r2, hr2, hr2a, hr2b⟩ := tmod_room x.f (q := z.Y1 - z.Y0 + 1) (by omega)
          have hTF := tapsN_F (key := z.Key) (dx := dx) (dy := dy) (by rw [hz0]; exact hlet) hdx1 hdy1 i
          rw [← htp] at hTF
          have hTr : Rising tp := by rw [htp]; exact tapsN_r _ _ _ _
          have hTl : tp.length ≤ 1 := by rw [htp]; exact tapsN_len _ _ _ _
          have hTb : ∀ y ∈ tp, TapB y := fun y hy => tapF_b (hTF y hy).1
          have hpp : inP ⟨z.X0 + r1 + dx, z.Y0 + r2 + dy⟩ = true := inP_of (by simp only; omega) (by simp only; omega) (by simp only; omega) (by simp only; omega)
          have hc0 : costOf z tp ⟨z.X0 + r1 + dx, z.Y0 + r2 + dy⟩ = 0 := cost_in (by rw [hsh]; simp only; omega) (by rw [hsh]; simp only; omega) (by rw [hsh]; simp only; omega) (by rw [hsh]; simp only; omega)
          have hme : meant [z] tp ⟨z.X0 + r1 + dx, z.Y0 + r2 + dy⟩ = [⟨z.Key, 0⟩] := by
            unfold meant mayMean; rw [List.filterMap_cons, hc0]; simp
          have hT : touchR [z] tp ⟨z.X0 + r1 + dx, z.Y0 + r2 + dy⟩ = ([⟨z.Key, 0⟩], 0) := by rw [touchR_in hpp (by rw [hme]; simp), hme, few_one]
          have hS := hS.drew
          refine CW.draw 32 (.ex 0 <| .ex 1 <| .ex 2 <| .ex 3 <| .ex 4 <| .ex 5 <| .ex 6 <| .ex 7 <| .ex 8 <| .ex 9 <| .ex 10 <| .ex 11 <| .ex 12 <| .ex 13 <| .ex 14 <| .ex 15 <| .ex 16 <| .ex 17 <| .ex 18 <| .ex 19 <| .ex 20 <| .ex 21 <| .ex 22 <| .ex 23 <| .ex 24 <| .ex 25 <| .ex 26 <| .ex 27 <| .ex 28 <| .ex 29 <| .two 30 (.one 31 <| .done) 31 (.one 30 <| .done)) [32] (Rd _ _) mixed (by kernel_rfl) rfl rfl hS.rd ?_
          refine PW.ex rfl rfl rfl rfl (Ex.fieldO 1 Try.underlying57 rfl rfl ti3 rfl) ?_
          refine PW.ex rfl rfl rfl rfl (Ex.load1 ti3 rfl rfl (by first | exact ob 0 rfl rfl | exact ob 1 rfl rfl | exact ob 2 rfl rfl | exact ob 3 rfl rfl | exact ob 4 rfl rfl | exact ob 5 rfl rfl | exact ob 6 rfl rfl | exact Rd.imm ‹_› | exact sb 0 rfl ‹_› | exact sb 1 rfl ‹_› | exact sb 2 rfl ‹_› | exact sb 3 rfl ‹_›)) ?_
          refine PW.ex rfl rfl rfl rfl (Ex.indexArr (j := 4) Try.underlying76 ti5 rfl rfl rfl (by omega)) ?_
          refine PW.ex rfl rfl rfl rfl (Ex.load1 ti5 rfl rfl (by first | exact ob 0 rfl rfl | exact ob 1 rfl rfl | exact ob 2 rfl rfl | exact ob 3 rfl rfl | exact ob 4 rfl rfl | exact ob 5 rfl rfl | exact ob 6 rfl rfl | exact Rd.imm ‹_› | exact sb 0 rfl ‹_› | exact sb 1 rfl ‹_› | exact sb 2 rfl ‹_› | exact sb 3 rfl ‹_›)) ?_
          refine PW.ex rfl rfl rfl rfl (Ex.conv Try.underlying5 Try.underlying3 rfl (by first | exact w64 (by omega) (by omega) | exact wu8 (by omega) (by omega))) ?_
          refine PW.ex rfl rfl rfl rfl (Ex.fieldO 3 Try.underlying57 rfl rfl ti3 rfl) ?_
          refine PW.ex rfl rfl rfl rfl (Ex.load1 ti3 rfl rfl (by first | exact ob 0 rfl rfl | exact ob 1 rfl rfl | exact ob 2 rfl rfl | exact ob 3 rfl rfl | exact ob 4 rfl rfl | exact ob 5 rfl rfl | exact ob 6 rfl rfl | exact Rd.imm ‹_› | exact sb 0 rfl ‹_› | exact sb 1 rfl ‹_› | exact sb 2 rfl ‹_› | exact sb 3 rfl ‹_›)) ?_
          refine PW.ex rfl rfl rfl rfl (Ex.fieldO 1 Try.underlying57 rfl rfl ti3 rfl) ?_
          refine PW.ex rfl rfl rfl rfl (Ex.load1 ti3 rfl rfl (by first | exact ob 0 rfl rfl | exact ob 1 rfl rfl | exact ob 2 rfl rfl | exact ob 3 rfl rfl | exact ob 4 rfl rfl | exact ob 5 rfl rfl | exact ob 6 rfl rfl | exact Rd.imm ‹_› | exact sb 0 rfl ‹_› | exact sb 1 rfl ‹_› | exact sb 2 rfl ‹_› | exact sb 3 rfl ‹_›)) ?_
          refine PW.ex rfl rfl rfl rfl (Ex.sub rfl rfl (w64 (by omega) (by omega))) ?_
          refine PW.ex rfl rfl rfl rfl (Ex.add rfl rfl (w64 (by omega) (by omega))) ?_
          refine PW.ex rfl rfl rfl rfl (Ex.rem rfl rfl (by omega) hr1) ?_
          refine PW.ex rfl rfl rfl rfl (Ex.add rfl rfl (w64 (by omega) (by omega))) ?_
          refine PW.ex rfl rfl rfl rfl (Ex.move rfl) ?_
          refine PW.ex rfl rfl rfl rfl (Ex.add rfl rfl (w64 (by omega) (by omega))) ?_
          refine PW.ex rfl rfl rfl rfl (Ex.fieldO 2 Try.underlying57 rfl rfl ti3 rfl) ?_
          refine PW.ex rfl rfl rfl rfl (Ex.load1 ti3 rfl rfl (by first | exact ob 0 rfl rfl | exact ob 1 rfl rfl | exact ob 2 rfl rfl | exact ob 3 rfl rfl | exact ob 4 rfl rfl | exact ob 5 rfl rfl | exact ob 6 rfl rfl | exact Rd.imm ‹_› | exact sb 0 rfl ‹_› | exact sb 1 rfl ‹_› | exact sb 2 rfl ‹_› | exact sb 3 rfl ‹_›)) ?_
          refine PW.ex rfl rfl rfl rfl (Ex.indexArr (j := 5) Try.underlying76 ti5 rfl rfl rfl (by omega)) ?_
          refine PW.ex rfl rfl rfl rfl (Ex.load1 ti5 rfl rfl (by first | exact ob 0 rfl rfl | exact ob 1 rfl rfl | exact ob 2 rfl rfl | exact ob 3 rfl rfl | exact ob 4 rfl rfl | exact ob 5 rfl rfl | exact ob 6 rfl rfl | exact Rd.imm ‹_› | exact sb 0 rfl ‹_› | exact sb 1 rfl ‹_› | exact sb 2 rfl ‹_› | exact sb 3 rfl ‹_›)) ?_
          refine PW.ex rfl rfl rfl rfl (Ex.conv Try.underlying5 Try.underlying3 rfl (by first | exact w64 (by omega) (by omega) | exact wu8 (by omega) (by omega))) ?_
          refine PW.ex rfl rfl rfl rfl (Ex.fieldO 4 Try.underlying57 rfl rfl ti3 rfl) ?_
          refine PW.ex rfl rfl rfl rfl (Ex.load1 ti3 rfl rfl (by first | exact ob 0 rfl rfl | exact ob 1 rfl rfl | exact ob 2 rfl rfl | exact ob 3 rfl rfl | exact ob 4 rfl rfl | exact ob 5 rfl rfl | exact ob 6 rfl rfl | exact Rd.imm ‹_› | exact sb 0 rfl ‹_› | exact sb 1 rfl ‹_› | exact sb 2 rfl ‹_› | exact sb 3 rfl ‹_›)) ?_
          refine PW.ex rfl rfl rfl rfl (Ex.fieldO 2 Try.underlying57 rfl rfl ti3 rfl) ?_
          refine PW.ex rfl rfl rfl rfl (Ex.load1 ti3 rfl rfl (by first | exact ob 0 rfl rfl | exact ob 1 rfl rfl | exact ob 2 rfl rfl | exact ob 3 rfl rfl | exact ob 4 rfl rfl | exact ob 5 rfl rfl | exact ob 6 rfl rfl | exact Rd.imm ‹_› | exact sb 0 rfl ‹_› | exact sb 1 rfl ‹_› | exact sb 2 rfl ‹_› | exact sb 3 rfl ‹_›)) ?_
          refine PW.ex rfl rfl rfl rfl (Ex.sub rfl rfl (w64 (by omega) (by omega))) ?_
          refine PW.ex rfl rfl rfl rfl (Ex.add rfl rfl (w64 (by omega) (by omega))) ?_
          refine PW.ex rfl rfl rfl rfl (Ex.rem rfl rfl (by omega) hr2) ?_
          refine PW.ex rfl rfl rfl rfl (Ex.add rfl rfl (w64 (by omega) (by omega))) ?_
          refine PW.ex rfl rfl rfl rfl (Ex.move rfl) ?_
          refine PW.ex rfl rfl rfl rfl (Ex.add rfl rfl (w64 (by omega) (by omega))) ?_
          refine PW.two rfl rfl rfl rfl rfl rfl rfl rfl (Hv.callS hS rfl rfl rfl cb14 (point_c (z.X0 + r1 + dx) (z.Y0 + r2 + dy) _)) (fun _ _ h => h.2.rd) (Hv.alloc ti36 hS) (fun _ _ ⟨_, _, _, h⟩ => h.rd.tail) (fun v w158 ⟨hv, hS⟩ => ?gA78) (fun v w16 ⟨b16, hv, hb16, hS⟩ => ?gB78)
          case gA78 =>
            skip
            subst hv
            refine PW.hv rfl rfl rfl rfl (Hv.alloc ti36 hS) (fun _ _ ⟨_, _, _, h⟩ => h.rd.tail) fun v w16 ⟨b16, hv, hb16, hS⟩ => ?_
            subst hv
            refine PW.nil ?_
            refine LW.hu rfl rfl rfl (Hv.storeN (k := 0) ti36 hS rfl rfl rfl rfl (by simp [Value.oneCell'])) fun _ w_32 hS => ?_
            dsimp only [List.set] at hS
            refine LW.nil fun aa ha => hK77 _ _ _ ?_ aa ha
            refine CW.seq fun K79 hK79 => ?_
            refine CW.region [0, 1, 2, 3, 4, 5, 6, 7, 8] rfl ?_
            refine LW.ex rfl rfl rfl rfl (Ex.load3c ti31 rfl rfl (by first | exact ob 0 rfl rfl | exact ob 1 rfl rfl | exact ob 2 rfl rfl | exact ob 3 rfl rfl | exact ob 4 rfl rfl | exact ob 5 rfl rfl | exact ob 6 rfl rfl | exact Rd.imm ‹_› | exact sb 0 rfl ‹_› | exact sb 1 rfl ‹_› | exact sb 2 rfl ‹_› | exact sb 3 rfl ‹_›) (by first | exact ob 0 rfl rfl | exact ob 1 rfl rfl | exact ob 2 rfl rfl | exact ob 3 rfl rfl | exact ob 4 rfl rfl | exact ob 5 rfl rfl | exact ob 6 rfl rfl | exact Rd.imm ‹_› | exact sb 0 rfl ‹_› | exact sb 1 rfl ‹_› | exact sb 2 rfl ‹_› | exact sb 3 rfl ‹_›) (by first | exact ob 0 rfl rfl | exact ob 1 rfl rfl | exact ob 2 rfl rfl | exact ob 3 rfl rfl | exact ob 4 rfl rfl | exact ob 5 rfl rfl | exact ob 6 rfl rfl | exact Rd.imm ‹_› | exact sb 0 rfl ‹_› | exact sb 1 rfl ‹_› | exact sb 2 rfl ‹_› | exact sb 3 rfl ‹_›)) hS.rd ?_
            refine LW.ex rfl rfl rfl rfl (Ex.move rfl) hS.rd ?_
            refine LW.ex rfl rfl rfl rfl (Ex.load2c ti36 rfl rfl (by first | exact ob 0 rfl rfl | exact ob 1 rfl rfl | exact ob 2 rfl rfl | exact ob 3 rfl rfl | exact ob 4 rfl rfl | exact ob 5 rfl rfl | exact ob 6 rfl rfl | exact Rd.imm ‹_› | exact sb 0 rfl ‹_› | exact sb 1 rfl ‹_› | exact sb 2 rfl ‹_› | exact sb 3 rfl ‹_›) (by first | exact ob 0 rfl rfl | exact ob 1 rfl rfl | exact ob 2 rfl rfl | exact ob 3 rfl rfl | exact ob 4 rfl rfl | exact ob 5 rfl rfl | exact ob 6 rfl rfl | exact Rd.imm ‹_› | exact sb 0 rfl ‹_› | exact sb 1 rfl ‹_› | exact sb 2 rfl ‹_› | exact sb 3 rfl ‹_›)) hS.rd ?_
            refine LW.hv rfl rfl rfl rfl (Hv.callV hS rfl rfl rfl cb15 (touchF_c (l := [z]) (taps := tp) (p := ⟨z.X0 + r1 + dx, z.Y0 + r2 + dy⟩) hS.imm hsa hst hzbl hTb hTr hzk (by simp) (by omega))) fun v w163 ⟨μ163, hv163, hm163, hS⟩ => ?_
            unfold IsTR at hv163
            rw [hT] at hv163
            obtain ⟨ad163, c163, hv, hs163⟩ := hv163
            subst hv
            have hst := hst.mono hm163
            refine LW.ex rfl rfl rfl rfl (Ex.move rfl) hS.rd ?_
            refine LW.ex rfl rfl rfl rfl (Ex.extract rfl rfl) hS.rd ?_
            refine LW.ex rfl rfl rfl rfl (Ex.extract rfl rfl) hS.rd ?_
            refine LW.ex rfl rfl rfl rfl (Ex.assign rfl) hS.rd ?_
            refine LW.ex rfl rfl rfl rfl (Ex.assign rfl) hS.rd ?_
            refine LW.nil fun aa ha => hK79 _ _ _ ?_ aa ha
            refine CW.seq fun K80 hK80 => ?_
            refine CW.region [0, 1, 2, 3, 4, 5, 6, 7, 8, 9, 10, 11, 12, 13, 14, 15, 16, 17, 18, 19, 20, 21, 22] rfl ?_
            refine LW.ex rfl rfl rfl rfl (Ex.move rfl) hS.rd ?_
            refine LW.ex rfl rfl rfl rfl (Ex.eql rfl rfl rfl) hS.rd ?_
            refine LW.splitB (fun h22_1 => ?_) (fun h22_1 => ?_)
            · have h22_1 := of_decide_eq_true h22_1
              refine LW.ex rfl rfl rfl rfl (Ex.move rfl) hS.rd ?_
              refine LW.ex rfl rfl rfl rfl (Ex.move rfl) hS.rd ?_
              refine LW.ex rfl rfl rfl rfl (Ex.fieldO 0 Try.underlying57 rfl rfl ti5 rfl) hS.rd ?_
              refine LW.ex rfl rfl rfl rfl (Ex.load1 ti5 rfl rfl (by first | exact ob 0 rfl rfl | exact ob 1 rfl rfl | exact ob 2 rfl rfl | exact ob 3 rfl rfl | exact ob 4 rfl rfl | exact ob 5 rfl rfl | exact ob 6 rfl rfl | exact Rd.imm ‹_› | exact sb 0 rfl ‹_› | exact sb 1 rfl ‹_› | exact sb 2 rfl ‹_› | exact sb 3 rfl ‹_›)) hS.rd ?_
              refine LW.hv rfl rfl rfl rfl (Hv.callS hS rfl rfl rfl cb27 (costIn_c [⟨z.Key, 0⟩] z.Key _ _ _ _ hS.imm hs163)) fun v w172 ⟨hv, hS⟩ => ?_
              subst hv
              refine LW.ex rfl rfl rfl rfl (Ex.eql rfl rfl rfl) hS.rd ?_
              refine LW.splitB (fun h22_7 => ?_) (fun h22_7 => ?_)
              · have h22_7 := of_decide_eq_true h22_7
                refine LW.ex rfl rfl rfl rfl (by first | exact Ex.pick_yes rfl rfl | exact Ex.pick_no rfl rfl) hS.rd ?_
                refine LW.ex rfl rfl rfl rfl (Ex.move rfl) hS.rd ?_
                refine LW.ex rfl rfl rfl rfl (Ex.move rfl) hS.rd ?_
                refine LW.ex rfl rfl rfl rfl (Ex.fieldO 0 Try.underlying57 rfl rfl ti5 rfl) hS.rd ?_
                refine LW.ex rfl rfl rfl rfl (Ex.load1 ti5 rfl rfl (by first | exact ob 0 rfl rfl | exact ob 1 rfl rfl | exact ob 2 rfl rfl | exact ob 3 rfl rfl | exact ob 4 rfl rfl | exact ob 5 rfl rfl | exact ob 6 rfl rfl | exact Rd.imm ‹_› | exact sb 0 rfl ‹_› | exact sb 1 rfl ‹_› | exact sb 2 rfl ‹_› | exact sb 3 rfl ‹_›)) hS.rd ?_
                refine LW.hv rfl rfl rfl rfl (Hv.callS hS rfl rfl rfl cb21 (shiftR_c tp z.Key _ _ _ _ hS.imm hst hTb hTr (by omega))) fun v w179 ⟨hv, hS⟩ => ?_
                subst hv
                refine LW.ex rfl rfl rfl rfl (Ex.move rfl) hS.rd ?_
                refine LW.ex rfl rfl rfl rfl (Ex.move rfl) hS.rd ?_
                refine LW.hv rfl rfl rfl rfl (Hv.callS hS rfl rfl rfl cb14 (point_c dx dy _)) fun v w182 ⟨hv, hS⟩ => ?_
                subst hv
                refine LW.ex rfl rfl rfl rfl (Ex.eqlSt (by kernel_rfl) rfl rfl (ptEq (shiftOf tp z.Key) ⟨dx, dy⟩)) hS.rd ?_
                refine LW.splitB (fun h22_17 => ?_) (fun h22_17 => ?_)
                · skip
                  refine LW.ex rfl rfl rfl rfl (by first | exact Ex.pick_yes rfl rfl | exact Ex.pick_no rfl rfl) hS.rd ?_
                  refine LW.ex rfl rfl rfl rfl (Ex.move rfl) hS.rd ?_
                  refine LW.ex rfl rfl rfl rfl (Ex.move rfl) hS.rd ?_
                  refine LW.ex rfl rfl rfl rfl (by first | exact Ex.pick_yes rfl rfl | exact Ex.pick_no rfl rfl) hS.rd ?_
                  refine LW.ex rfl rfl rfl rfl (Ex.assign rfl) hS.rd ?_
                  refine LW.nil fun aa ha => hK80 _ _ _ ?_ aa ha
                  refine CW.ret fun aa ha => ?_
                  refine ret_one ha Try.results9 rfl ?_
                  exact hS.retS
                · rw [hsh] at h22_17
                  simp at h22_17
              · have h22_7 := of_decide_eq_false h22_7
                exfalso
                apply h22_7
                simp [costIn]
            · have h22_1 := of_decide_eq_false h22_1
              omega
          case gB78 =>
            skip
            subst hv
            refine PW.hv rfl rfl rfl rfl (Hv.callS hS rfl rfl rfl cb14 (point_c (z.X0 + r1 + dx) (z.Y0 + r2 + dy) _)) (fun _ _ h => h.2.rd.tail) fun v w158 ⟨hv, hS⟩ => ?_
            subst hv
            refine PW.nil ?_
            refine LW.hu rfl rfl rfl (Hv.storeN (k := 0) ti36 hS rfl rfl rfl rfl (by simp [Value.oneCell'])) fun _ w_32 hS => ?_
            dsimp only [List.set] at hS
            refine LW.nil fun aa ha => hK77 _ _ _ ?_ aa ha
            refine CW.seq fun K81 hK81 => ?_
            refine CW.region [0, 1, 2, 3, 4, 5, 6, 7, 8] rfl ?_
            refine LW.ex rfl rfl rfl rfl (Ex.load3c ti31 rfl rfl (by first | exact ob 0 rfl rfl | exact ob 1 rfl rfl | exact ob 2 rfl rfl | exact ob 3 rfl rfl | exact ob 4 rfl rfl | exact ob 5 rfl rfl | exact ob 6 rfl rfl | exact Rd.imm ‹_› | exact sb 0 rfl ‹_› | exact sb 1 rfl ‹_› | exact sb 2 rfl ‹_› | exact sb 3 rfl ‹_›) (by first | exact ob 0 rfl rfl | exact ob 1 rfl rfl | exact ob 2 rfl rfl | exact ob 3 rfl rfl | exact ob 4 rfl rfl | exact ob 5 rfl rfl | exact ob 6 rfl rfl | exact Rd.imm ‹_› | exact sb 0 rfl ‹_› | exact sb 1 rfl ‹_› | exact sb 2 rfl ‹_› | exact sb 3 rfl ‹_›) (by first | exact ob 0 rfl rfl | exact ob 1 rfl rfl | exact ob 2 rfl rfl | exact ob 3 rfl rfl | exact ob 4 rfl rfl | exact ob 5 rfl rfl | exact ob 6 rfl rfl | exact Rd.imm ‹_› | exact sb 0 rfl ‹_› | exact sb 1 rfl ‹_› | exact sb 2 rfl ‹_› | exact sb 3 rfl ‹_›)) hS.rd ?_
            refine LW.ex rfl rfl rfl rfl (Ex.move rfl) hS.rd ?_
            refine LW.ex rfl rfl rfl rfl (Ex.load2c ti36 rfl rfl (by first | exact ob 0 rfl rfl | exact ob 1 rfl rfl | exact ob 2 rfl rfl | exact ob 3 rfl rfl | exact ob 4 rfl rfl | exact ob 5 rfl rfl | exact ob 6 rfl rfl | exact Rd.imm ‹_› | exact sb 0 rfl ‹_› | exact sb 1 rfl ‹_› | exact sb 2 rfl ‹_› | exact sb 3 rfl ‹_›) (by first | exact ob 0 rfl rfl | exact ob 1 rfl rfl | exact ob 2 rfl rfl | exact ob 3 rfl rfl | exact ob 4 rfl rfl | exact ob 5 rfl rfl | exact ob 6 rfl rfl | exact Rd.imm ‹_› | exact sb 0 rfl ‹_› | exact sb 1 rfl ‹_› | exact sb 2 rfl ‹_› | exact sb 3 rfl ‹_›)) hS.rd ?_
            refine LW.hv rfl rfl rfl rfl (Hv.callV hS rfl rfl rfl cb15 (touchF_c (l := [z]) (taps := tp) (p := ⟨z.X0 + r1 + dx, z.Y0 + r2 + dy⟩) hS.imm hsa hst hzbl hTb hTr hzk (by simp) (by omega))) fun v w163 ⟨μ163, hv163, hm163, hS⟩ => ?_
            unfold IsTR at hv163
            rw [hT] at hv163
            obtain ⟨ad163, c163, hv, hs163⟩ := hv163
            subst hv
            have hst := hst.mono hm163
            refine LW.ex rfl rfl rfl rfl (Ex.move rfl) hS.rd ?_
            refine LW.ex rfl rfl rfl rfl (Ex.extract rfl rfl) hS.rd ?_
            refine LW.ex rfl rfl rfl rfl (Ex.extract rfl rfl) hS.rd ?_
            refine LW.ex rfl rfl rfl rfl (Ex.assign rfl) hS.rd ?_
            refine LW.ex rfl rfl rfl rfl (Ex.assign rfl) hS.rd ?_
            refine LW.nil fun aa ha => hK81 _ _ _ ?_ aa ha
            refine CW.seq fun K82 hK82 => ?_
            refine CW.region [0, 1, 2, 3, 4, 5, 6, 7, 8, 9, 10, 11, 12, 13, 14, 15, 16, 17, 18, 19, 20, 21, 22] rfl ?_
            refine LW.ex rfl rfl rfl rfl (Ex.move rfl) hS.rd ?_
            refine LW.ex rfl rfl rfl rfl (Ex.eql rfl rfl rfl) hS.rd ?_
            refine LW.splitB (fun h22_1 => ?_) (fun h22_1 => ?_)
            · have h22_1 := of_decide_eq_true h22_1
              refine LW.ex rfl rfl rfl rfl (Ex.move rfl) hS.rd ?_
              refine LW.ex rfl rfl rfl rfl (Ex.move rfl) hS.rd ?_
              refine LW.ex rfl rfl rfl rfl (Ex.fieldO 0 Try.underlying57 rfl rfl ti5 rfl) hS.rd ?_
              refine LW.ex rfl rfl rfl rfl (Ex.load1 ti5 rfl rfl (by first | exact ob 0 rfl rfl | exact ob 1 rfl rfl | exact ob 2 rfl rfl | exact ob 3 rfl rfl | exact ob 4 rfl rfl | exact ob 5 rfl rfl | exact ob 6 rfl rfl | exact Rd.imm ‹_› | exact sb 0 rfl ‹_› | exact sb 1 rfl ‹_› | exact sb 2 rfl ‹_› | exact sb 3 rfl ‹_›)) hS.rd ?_
              refine LW.hv rfl rfl rfl rfl (Hv.callS hS rfl rfl rfl cb27 (costIn_c [⟨z.Key, 0⟩] z.Key _ _ _ _ hS.imm hs163)) fun v w172 ⟨hv, hS⟩ => ?_
              subst hv
              refine LW.ex rfl rfl rfl rfl (Ex.eql rfl rfl rfl) hS.rd ?_
              refine LW.splitB (fun h22_7 => ?_) (fun h22_7 => ?_)
              · have h22_7 := of_decide_eq_true h22_7
                refine LW.ex rfl rfl rfl rfl (by first | exact Ex.pick_yes rfl rfl | exact Ex.pick_no rfl rfl) hS.rd ?_
                refine LW.ex rfl rfl rfl rfl (Ex.move rfl) hS.rd ?_
                refine LW.ex rfl rfl rfl rfl (Ex.move rfl) hS.rd ?_
                refine LW.ex rfl rfl rfl rfl (Ex.fieldO 0 Try.underlying57 rfl rfl ti5 rfl) hS.rd ?_
                refine LW.ex rfl rfl rfl rfl (Ex.load1 ti5 rfl rfl (by first | exact ob 0 rfl rfl | exact ob 1 rfl rfl | exact ob 2 rfl rfl | exact ob 3 rfl rfl | exact ob 4 rfl rfl | exact ob 5 rfl rfl | exact ob 6 rfl rfl | exact Rd.imm ‹_› | exact sb 0 rfl ‹_› | exact sb 1 rfl ‹_› | exact sb 2 rfl ‹_› | exact sb 3 rfl ‹_›)) hS.rd ?_
                refine LW.hv rfl rfl rfl rfl (Hv.callS hS rfl rfl rfl cb21 (shiftR_c tp z.Key _ _ _ _ hS.imm hst hTb hTr (by omega))) fun v w179 ⟨hv, hS⟩ => ?_
                subst hv
                refine LW.ex rfl rfl rfl rfl (Ex.move rfl) hS.rd ?_
                refine LW.ex rfl rfl rfl rfl (Ex.move rfl) hS.rd ?_
                refine LW.hv rfl rfl rfl rfl (Hv.callS hS rfl rfl rfl cb14 (point_c dx dy _)) fun v w182 ⟨hv, hS⟩ => ?_
                subst hv
                refine LW.ex rfl rfl rfl rfl (Ex.eqlSt (by kernel_rfl) rfl rfl (ptEq (shiftOf tp z.Key) ⟨dx, dy⟩)) hS.rd ?_
                refine LW.splitB (fun h22_17 => ?_) (fun h22_17 => ?_)
                · skip
                  refine LW.ex rfl rfl rfl rfl (by first | exact Ex.pick_yes rfl rfl | exact Ex.pick_no rfl rfl) hS.rd ?_
                  refine LW.ex rfl rfl rfl rfl (Ex.move rfl) hS.rd ?_
                  refine LW.ex rfl rfl rfl rfl (Ex.move rfl) hS.rd ?_
                  refine LW.ex rfl rfl rfl rfl (by first | exact Ex.pick_yes rfl rfl | exact Ex.pick_no rfl rfl) hS.rd ?_
                  refine LW.ex rfl rfl rfl rfl (Ex.assign rfl) hS.rd ?_
                  refine LW.nil fun aa ha => hK82 _ _ _ ?_ aa ha
                  refine CW.ret fun aa ha => ?_
                  refine ret_one ha Try.results9 rfl ?_
                  exact hS.retS
                · rw [hsh] at h22_17
                  simp at h22_17
              · have h22_7 := of_decide_eq_false h22_7
                exfalso
                apply h22_7
                simp [costIn]
            · have h22_1 := of_decide_eq_false h22_1
              omega
end Go.Proofs.Ytphgjongflkolaa

