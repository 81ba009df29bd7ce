/-
  Areas: moved boards; made boards are valid; the walk of AreaMoves.
-/
import Derived.Test.YtphgjongflkolaaArV5
namespace Go.Proofs.Ytphgjongflkolaa
open Go.RowKit Sy Go.Sort

theorem rises_of {α : Type} (right : α → Bool) (lt : α → α → Bool) : ∀ (L : List α) (o : Option α), L.Pairwise (fun a b => lt a b = true) → (∀ x ∈ L, right x = true) → (∀ p, o = some p → ∀ x ∈ L, lt p x = true) → rises right lt o L = true
  | [], _, _, _, _ => by rename_i o _ _ _; cases o <;> rfl
  | x :: r, o, hp, hr, ho => by
    rw [List.pairwise_cons] at hp
    have ih := rises_of right lt r (some x) hp.2 (fun y hy => hr y (List.mem_cons_of_mem _ hy)) (fun p hpe y hy => by obtain rfl := Option.some.inj hpe; exact hp.1 y hy)
    have hx := hr x (List.mem_cons_self ..)
    cases o with
    | none => rw [rises, hx, ih]; rfl
    | some p => rw [rises, hx, ih, ho p rfl x (List.mem_cons_self ..)]; rfl
theorem madeX_le (l : List B2) (j : Nat) : ∀ d, j % 5 + d < 5 → 0 < d → madeX l j + wOf (bAt l j) < madeX l (j + d)
  | 0, _, h => by omega
  | d + 1, hd, _ => by
    rw [← Nat.add_assoc, madeX, if_neg (by omega)]
    have hs : wOf (bAt l (j + d)) < stepOf (bAt l (j + d)) := by unfold stepOf; omega
    by_cases h0 : d = 0
    · subst h0; rw [Nat.add_zero] at hs ⊢; omega
    · have := madeX_le l j d (by omega) (by omega); omega
theorem made_apart (l : List B2) {i j : Nat} (hj : j < i) : apartA (madeA l i) (madeA l j) = true := by
  unfold apartA
  rw [decide_eq_true_eq]
  simp only [madeA]
  by_cases hr : i / 5 = j / 5
  · have := madeX_le l j (i - j) (by omega) (by omega)
    rw [show j + (i - j) = i by omega] at this
    right; left; omega
  · have hh := hOf_lt (bAt l j)
    right; right; right
    unfold madeY; omega
def movA (d e : Int) (a : Area) : Area := ⟨a.Key, a.X0 + d, a.Y0 + e, a.X1 + d, a.Y1 + e⟩
def movL (d e : Int) (l : List Area) : List Area := l.map (movA d e)
theorem apart_mov (d e : Int) (a b : Area) : apartA (movA d e a) (movA d e b) = apartA a b := by
  unfold apartA movA; exact decide_eq_decide.2 (by simp only; omega)
theorem let_C97 {i : Nat} (h : i < 26) : isLet (C97 i) = true := by unfold isLet; rw [C97_nat (by omega)]; exact decide_eq_true (by omega)
theorem mov_valid (l : List B2) {d e : Int} (hd : 0 ≤ d ∧ d ≤ 500) (he : 0 ≤ e ∧ e ≤ 500) : areasR (movL d e (made l)) = true := by
  have hml := made_len l
  have hlen : (movL d e (made l)).length = (made l).length := by simp [movL]
  unfold areasR
  have h1 : rises okArea (fun x y => keyLt x.Key y.Key) none (movL d e (made l)) = true := by
    refine rises_of _ _ _ _ ?_ ?_ (fun p hp => by cases hp)
    · unfold movL
      rw [List.pairwise_map]
      exact (made_k l).imp fun {a b} h => decide_eq_true h
    · intro x hx
      obtain ⟨a, ha, rfl⟩ := List.mem_map.1 hx
      obtain ⟨i, hi, rfl⟩ := made_mem ha
      have hin := madeA_in l (i := i) (by omega)
      unfold okArea movA
      simp only
      rw [show isLet (madeA l i).Key = true from let_C97 (by omega), inP_of (by simp only; omega) (by simp only; omega) (by simp only; omega) (by simp only; omega), inP_of (by simp only; omega) (by simp only; omega) (by simp only; omega) (by simp only; omega), decide_eq_true (by omega), decide_eq_true (by omega)]; rfl
  rw [h1, decide_eq_true (by omega), Bool.true_and, Bool.true_and, List.all_eq_true]
  intro i hi
  rw [List.mem_range] at hi
  rw [List.all_eq_true]
  intro x hx
  obtain ⟨j, hj, rfl⟩ := List.getElem_of_mem hx
  rw [List.length_take] at hj
  rw [List.getElem_take, List.getElem?_eq_getElem hi]
  simp only [movL, List.getElem_map]
  rw [apart_mov]
  simp only [made, List.getElem_map, List.getElem_range]
  exact made_apart l (by omega)
theorem movL_zero (l : List Area) : movL 0 0 l = l := by
  unfold movL
  have : movA 0 0 = id := by funext a; simp [movA]
  rw [this, List.map_id]
theorem cost_mov (a : Area) (taps : List Tap) (p : Pt) (d e : Int) : costOf (movA d e a) taps ⟨p.X + d, p.Y + e⟩ = costOf a taps p := by
  unfold costOf movA
  simp only
  rw [show p.X + d - (shiftOf taps a.Key).X = (p.X - (shiftOf taps a.Key).X) + d by omega, show p.Y + e - (shiftOf taps a.Key).Y = (p.Y - (shiftOf taps a.Key).Y) + e by omega, away_shift, away_shift]
theorem meant_mov (l : List Area) (taps : List Tap) (p : Pt) (d e : Int) : meant (movL d e l) taps ⟨p.X + d, p.Y + e⟩ = meant l taps p := by
  unfold meant movL
  rw [List.filterMap_map]
  congr 1
  funext a
  simp only [Function.comp, mayMean, cost_mov]
  rfl
theorem touch_mov {l : List Area} {taps : List Tap} {p : Pt} {d e : Int} (h1 : inP p = true) (h2 : inP ⟨p.X + d, p.Y + e⟩ = true) : touchR (movL d e l) taps ⟨p.X + d, p.Y + e⟩ = touchR l taps p := by
  unfold touchR
  rw [meant_mov, h1, h2]
theorem mov_b {l : List B2} {d e : Int} (hd : 0 ≤ d ∧ d ≤ 500) (he : 0 ≤ e ∧ e ≤ 500) : ∀ a ∈ movL d e (made l), ArB a := fun a ha => by
  obtain ⟨b, hb, rfl⟩ := List.mem_map.1 ha
  obtain ⟨i, hi, rfl⟩ := made_mem hb
  have := madeA_in l (i := i) (by omega)
  exact ⟨by simp only [movA]; omega, by simp only [movA]; omega, by simp only [movA]; omega, by simp only [movA]; omega⟩
theorem mov_k {l : List Area} (h : AKeys l) (d e : Int) : AKeys (movL d e l) := by
  unfold AKeys movL; rw [List.pairwise_map]; exact h

set_option maxRecDepth 100000 in
set_option maxHeartbeats 2000000 in
theorem law6_c (l : List B2) (t : List I3) (x : B4) (adl adt : Option Addr) (cl ct : Nat) (μ : Mem) (w : World) (hμ : Imm μ w) (sl : Sl μ adl cl l) (st : Sl μ adt ct t) :
    Calls Try.prog 8 #[.slice adl l.length cl, .slice adt t.length ct, b4V x] w (RetS w (.bool true)) := by
  have hfine : Fine3 t := i3_fine st
  have hml := made_len l
  have htl := tapsM_len t
  have hb0 := x.a.toNat_lt
  have hb1 := x.b.toNat_lt
  have hb2 := x.c.toNat_lt
  have hb3 := x.d.toNat_lt
  have hp1 : inP ⟨x.a.toNat, x.b.toNat⟩ = true := inP_of (by simp only; omega) (by simp only; omega) (by simp only; omega) (by simp only; omega)
  have hp2 : inP ⟨(x.a.toNat : Int) + x.c.toNat, (x.b.toNat : Int) + x.d.toNat⟩ = true := inP_of (by simp only; omega) (by simp only; omega) (by simp only; omega) (by simp only; omega)
  have hT : touchR (movL x.c.toNat x.d.toNat (made l)) (tapsM t) ⟨(x.a.toNat : Int) + x.c.toNat, (x.b.toNat : Int) + x.d.toNat⟩ = touchR (made l) (tapsM t) ⟨x.a.toNat, x.b.toNat⟩ := touch_mov (p := ⟨x.a.toNat, x.b.toNat⟩) hp1 hp2
  have hmv : validA ⟨movL x.c.toNat x.d.toNat (made l), [], []⟩ = true := by
    rw [valid_same, show areasR (Brd.mk (movL x.c.toNat x.d.toNat (made l)) [] []).Areas = true from mov_valid l ⟨by omega, by omega⟩ ⟨by omega, by omega⟩]; rfl
  have hmvl : (movL x.c.toNat x.d.toNat (made l)).length = (made l).length := by simp [movL]
  have hS := St.start w μ hμ
  refine calls_start 116 [.slice adl l.length cl, .slice adt t.length ct, b4V x] Try.func8 rfl Try.ntmps8 rfl rfl ?_
  refine CW.seq fun K1 hK1 => ?_
  refine CW.region [0, 1] rfl ?_
  refine LW.hv rfl rfl rfl rfl (Hv.boxS hS rfl rfl) fun v w5 ⟨b5, hv, hb5, hS⟩ => ?_
  subst hv
  refine LW.ex rfl rfl rfl rfl (Ex.assign rfl) hS.rd ?_
  refine LW.nil fun aa ha => hK1 _ _ _ ?_ aa ha
  refine CW.seq fun K2 hK2 => ?_
  refine CW.region [0, 1] rfl ?_
  refine LW.hv rfl rfl rfl rfl (Hv.callS hS rfl rfl rfl cb11 (sanity_c _)) fun v w17 ⟨hv, hS⟩ => ?_
  subst hv
  refine LW.ex rfl rfl rfl rfl (Ex.assign rfl) hS.rd ?_
  refine LW.nil fun aa ha => hK2 _ _ _ ?_ aa ha
  refine CW.seq fun K3 hK3 => ?_
  refine CW.region [0, 1, 2, 3, 4, 5, 6] rfl ?_
  refine LW.ex rfl rfl rfl rfl (Ex.move rfl) hS.rd ?_
  refine LW.hv rfl rfl rfl rfl (Hv.callV hS rfl rfl rfl cb12 (made_c l _ _ _ _ hS.imm sl)) fun v w19 ⟨μ19, hv19, hm19, hS⟩ => ?_
  obtain ⟨a0, c0, a1, c1, a2, c2, hv, hd0, hd1, hd2⟩ := hv19
  subst hv
  have st := st.mono hm19
  refine LW.ex rfl rfl rfl rfl (Ex.move rfl) hS.rd ?_
  refine LW.hv rfl rfl rfl rfl (Hv.callV hS rfl rfl rfl cb13 (taps_made_c t _ _ _ _ hS.imm st)) fun v w21 ⟨μ21, hv21, hm21, hS⟩ => ?_
  obtain ⟨ad21, c21, hv, hs21⟩ := hv21
  subst hv
  have hd0 : Sl _ a0 c0 (made l) := hd0.mono hm21
  refine LW.hv rfl rfl rfl rfl (Hv.alloc ti31 hS) fun v w8 ⟨b8, hv, hb8, hS⟩ => ?_
  subst hv
  refine LW.hu rfl rfl rfl (Hv.storeN (k := 0) ti31 hS rfl rfl rfl rfl (by simp [Value.oneCell'])) fun _ w_5 hS => ?_
  dsimp only [List.set] at hS
  refine LW.ex rfl rfl rfl rfl (Ex.assign rfl) hS.rd ?_
  refine LW.nil fun aa ha => hK3 _ _ _ ?_ aa ha
  refine CW.seq fun K4 hK4 => ?_
  refine CW.region [0, 1, 2] rfl ?_
  refine LW.ex rfl rfl rfl rfl (Ex.buildS st31 rfl rfl rfl) hS.rd ?_
  refine LW.hv rfl rfl rfl rfl (Hv.alloc ti31 hS) fun v w10 ⟨b10, hv, hb10, hS⟩ => ?_
  subst hv
  refine LW.hu rfl rfl rfl (Hv.storeN (k := 0) ti31 hS rfl rfl rfl rfl (by simp [Value.oneCell'])) fun _ w_2 hS => ?_
  dsimp only [List.set] at hS
  refine LW.nil fun aa ha => hK4 _ _ _ ?_ aa ha
  refine CW.seq fun K5 hK5 => ?_
  refine CW.seq fun K6 hK6 => ?_
  have hS := nil_sl 57 5 hS
  refine CW.region [0] rfl ?_
  refine LW.ex rfl rfl rfl rfl (Ex.assign rfl) hS.rd ?_
  refine LW.nil fun aa ha => hK6 _ _ _ ?_ aa ha
  refine CW.block ?_
  refine CW.loop (fun q m wl5 => ∃ (i n : Nat) (xs : List Area) (ado : Option Addr) (co : Nat), i ≤ (made l).length ∧ n = xs.length ∧ n = i ∧ q = (made l).length - i ∧ m = [(5, .pointer (some ⟨b5, 0, none⟩)), (7, .bool true), (8, .pointer (some ⟨b8, 0, none⟩)), (9, .slice ad21 (tapsM t).length c21), (10, .pointer (some ⟨b10, 0, none⟩)), (11, .int .i64 i)] ∧ St w wl5 μ21 [Own.sl ado n co 57 5 (xs.flatMap areaL), Own.obj b10 [.slice ado n co, .slice none 0 0, .slice none 0 0] 31, Own.obj b8 [.slice a0 (made l).length c0, .slice a1 2 c1, .slice a2 2 c2] 31, Own.obj b5 [.int .u8 x.a.toNat, .int .u8 x.b.toNat, .int .u8 x.c.toNat, .int .u8 x.d.toNat] 74] ∧ (xs = movL x.c.toNat x.d.toNat ((made l).take i))) _ ⟨0, 0, [], none, 0, (by first | omega | (simp; done) | (simp; omega)), (by first | omega | (simp; done) | (simp; omega)), (by first | omega | (simp; done) | (simp; omega)), rfl, rfl, hS, rfl⟩ ⟨rfl, rfl, rfl, rfl, rfl, rfl, trivial⟩ ?_
  clear hS
  rintro q m wl5 ⟨i, n, xs, ado, co, hi, hn, hni, hq, rfl, hS, hxs⟩
  have hcap := hS.sl_cap 0 rfl
  refine CW.seq fun K7 hK7 => ?_
  refine CW.seq fun K8 hK8 => ?_
  refine CW.region [0, 1, 2, 3, 4] rfl ?_
  refine LW.ex rfl rfl rfl rfl (Ex.move rfl) hS.rd ?_
  refine LW.ex rfl rfl rfl rfl (Ex.fieldO 0 Try.underlying31 rfl rfl ti27 rfl) hS.rd ?_
  refine LW.ex rfl rfl rfl rfl (Ex.load1 ti27 rfl rfl (by first | exact Rd.obj (k := 0) rfl rfl | exact Rd.obj (k := 1) rfl rfl | exact Rd.obj (k := 2) rfl rfl | exact Rd.obj (k := 3) rfl rfl | exact Rd.obj (k := 4) rfl rfl | exact Rd.imm (by assumption) | exact Rd.sl (k := 0) rfl (by assumption) | exact Rd.sl (k := 1) rfl (by assumption) | exact Rd.sl (k := 2) rfl (by assumption) | exact Rd.sl (k := 3) rfl (by assumption))) hS.rd ?_
  refine LW.ex rfl rfl rfl rfl (Ex.lenSl rfl Try.underlying27 rfl) hS.rd ?_
  refine LW.ex rfl rfl rfl rfl (Ex.lss rfl rfl rfl) hS.rd ?_
  refine LW.splitB (fun h5_4 => ?_) (fun h5_4 => ?_)
  · have h5_4 := of_decide_eq_true h5_4
    refine LW.nil fun aa ha => hK8 _ _ _ ?_ aa ha
    refine CW.yes rfl ?_
    refine CW.skip fun aa ha => hK7 _ _ _ ?_ aa ha
    refine CW.seq fun K9 hK9 => ?_
    refine CW.block ?_
    refine CW.seq fun K10 hK10 => ?_
    have h1 : i < (made l).length := by omega
    obtain ⟨bl, ol, rfl, k0, k1, k2, k3, k4⟩ := hd0.at h1
    obtain ⟨a, hae⟩ : ∃ a, a = (made l)[i] := ⟨_, rfl⟩
    have hab := made_b a (by rw [hae]; exact List.getElem_mem h1)
    rw [← hae] at k0 k1 k2 k3 k4
    obtain ⟨⟨a1', a2'⟩, ⟨a3, a4⟩, ⟨a5, a6⟩, ⟨a7, a8⟩⟩ := hab
    refine CW.region [0, 1, 2, 3, 4, 5, 6] rfl ?_
    refine LW.ex rfl rfl rfl rfl (Ex.fieldO 0 Try.underlying31 rfl rfl ti27 rfl) hS.rd ?_
    refine LW.ex rfl rfl rfl rfl (Ex.load1 ti27 rfl rfl (by first | exact Rd.obj (k := 0) rfl rfl | exact Rd.obj (k := 1) rfl rfl | exact Rd.obj (k := 2) rfl rfl | exact Rd.obj (k := 3) rfl rfl | exact Rd.obj (k := 4) rfl rfl | exact Rd.imm (by assumption) | exact Rd.sl (k := 0) rfl (by assumption) | exact Rd.sl (k := 1) rfl (by assumption) | exact Rd.sl (k := 2) rfl (by assumption) | exact Rd.sl (k := 3) rfl (by assumption))) hS.rd ?_
    refine LW.ex rfl rfl rfl rfl (Ex.move rfl) hS.rd ?_
    refine LW.ex rfl rfl rfl rfl (Ex.indexSl Try.underlying27 ti57 rfl rfl rfl (by omega)) hS.rd ?_
    refine LW.ex rfl rfl rfl rfl (Ex.load5c ti57 rfl rfl (by first | exact Rd.obj (k := 0) rfl rfl | exact Rd.obj (k := 1) rfl rfl | exact Rd.obj (k := 2) rfl rfl | exact Rd.obj (k := 3) rfl rfl | exact Rd.obj (k := 4) rfl rfl | exact Rd.imm (by assumption) | exact Rd.sl (k := 0) rfl (by assumption) | exact Rd.sl (k := 1) rfl (by assumption) | exact Rd.sl (k := 2) rfl (by assumption) | exact Rd.sl (k := 3) rfl (by assumption)) (by first | exact Rd.obj (k := 0) rfl rfl | exact Rd.obj (k := 1) rfl rfl | exact Rd.obj (k := 2) rfl rfl | exact Rd.obj (k := 3) rfl rfl | exact Rd.obj (k := 4) rfl rfl | exact Rd.imm (by assumption) | exact Rd.sl (k := 0) rfl (by assumption) | exact Rd.sl (k := 1) rfl (by assumption) | exact Rd.sl (k := 2) rfl (by assumption) | exact Rd.sl (k := 3) rfl (by assumption)) (by first | exact Rd.obj (k := 0) rfl rfl | exact Rd.obj (k := 1) rfl rfl | exact Rd.obj (k := 2) rfl rfl | exact Rd.obj (k := 3) rfl rfl | exact Rd.obj (k := 4) rfl rfl | exact Rd.imm (by assumption) | exact Rd.sl (k := 0) rfl (by assumption) | exact Rd.sl (k := 1) rfl (by assumption) | exact Rd.sl (k := 2) rfl (by assumption) | exact Rd.sl (k := 3) rfl (by assumption)) (by first | exact Rd.obj (k := 0) rfl rfl | exact Rd.obj (k := 1) rfl rfl | exact Rd.obj (k := 2) rfl rfl | exact Rd.obj (k := 3) rfl rfl | exact Rd.obj (k := 4) rfl rfl | exact Rd.imm (by assumption) | exact Rd.sl (k := 0) rfl (by assumption) | exact Rd.sl (k := 1) rfl (by assumption) | exact Rd.sl (k := 2) rfl (by assumption) | exact Rd.sl (k := 3) rfl (by assumption)) (by first | exact Rd.obj (k := 0) rfl rfl | exact Rd.obj (k := 1) rfl rfl | exact Rd.obj (k := 2) rfl rfl | exact Rd.obj (k := 3) rfl rfl | exact Rd.obj (k := 4) rfl rfl | exact Rd.imm (by assumption) | exact Rd.sl (k := 0) rfl (by assumption) | exact Rd.sl (k := 1) rfl (by assumption) | exact Rd.sl (k := 2) rfl (by assumption) | exact Rd.sl (k := 3) rfl (by assumption))) hS.rd ?_
    refine LW.hv rfl rfl rfl rfl (Hv.alloc ti57 hS) fun v w12 ⟨b12, hv, hb12, hS⟩ => ?_
    subst hv
    refine LW.hu rfl rfl rfl (Hv.storeN (k := 0) ti57 hS rfl rfl rfl rfl (by simp [Value.oneCell'])) fun _ w_6 hS => ?_
    dsimp only [List.set] at hS
    refine LW.nil fun aa ha => hK10 _ _ _ ?_ aa ha
    refine CW.region [0, 1, 2, 3, 4, 5, 6, 7, 8, 9, 10, 11, 12, 13, 14, 15, 16, 17, 18, 19, 20, 21, 22, 23, 24, 25, 26, 27, 28, 29, 30, 31, 32] rfl ?_
    refine LW.ex rfl rfl rfl rfl (Ex.fieldO 0 Try.underlying31 rfl rfl ti27 rfl) hS.rd ?_
    refine LW.ex rfl rfl rfl rfl (Ex.load1 ti27 rfl rfl (by first | exact Rd.obj (k := 0) rfl rfl | exact Rd.obj (k := 1) rfl rfl | exact Rd.obj (k := 2) rfl rfl | exact Rd.obj (k := 3) rfl rfl | exact Rd.obj (k := 4) rfl rfl | exact Rd.imm (by assumption) | exact Rd.sl (k := 0) rfl (by assumption) | exact Rd.sl (k := 1) rfl (by assumption) | exact Rd.sl (k := 2) rfl (by assumption) | exact Rd.sl (k := 3) rfl (by assumption))) hS.rd ?_
    refine LW.ex rfl rfl rfl rfl (Ex.fieldO 0 Try.underlying57 rfl rfl ti5 rfl) hS.rd ?_
    refine LW.ex rfl rfl rfl rfl (Ex.load1 ti5 rfl rfl (by first | exact Rd.obj (k := 0) rfl rfl | exact Rd.obj (k := 1) rfl rfl | exact Rd.obj (k := 2) rfl rfl | exact Rd.obj (k := 3) rfl rfl | exact Rd.obj (k := 4) rfl rfl | exact Rd.imm (by assumption) | exact Rd.sl (k := 0) rfl (by assumption) | exact Rd.sl (k := 1) rfl (by assumption) | exact Rd.sl (k := 2) rfl (by assumption) | exact Rd.sl (k := 3) rfl (by assumption))) hS.rd ?_
    refine LW.ex rfl rfl rfl rfl (Ex.fieldO 1 Try.underlying57 rfl rfl ti3 rfl) hS.rd ?_
    refine LW.ex rfl rfl rfl rfl (Ex.load1 ti3 rfl rfl (by first | exact Rd.obj (k := 0) rfl rfl | exact Rd.obj (k := 1) rfl rfl | exact Rd.obj (k := 2) rfl rfl | exact Rd.obj (k := 3) rfl rfl | exact Rd.obj (k := 4) rfl rfl | exact Rd.imm (by assumption) | exact Rd.sl (k := 0) rfl (by assumption) | exact Rd.sl (k := 1) rfl (by assumption) | exact Rd.sl (k := 2) rfl (by assumption) | exact Rd.sl (k := 3) rfl (by assumption))) hS.rd ?_
    refine LW.ex rfl rfl rfl rfl (Ex.indexArr (j := 2) Try.underlying74 ti5 rfl rfl rfl (by omega)) hS.rd ?_
    refine LW.ex rfl rfl rfl rfl (Ex.load1 ti5 rfl rfl (by first | exact Rd.obj (k := 0) rfl rfl | exact Rd.obj (k := 1) rfl rfl | exact Rd.obj (k := 2) rfl rfl | exact Rd.obj (k := 3) rfl rfl | exact Rd.obj (k := 4) rfl rfl | exact Rd.imm (by assumption) | exact Rd.sl (k := 0) rfl (by assumption) | exact Rd.sl (k := 1) rfl (by assumption) | exact Rd.sl (k := 2) rfl (by assumption) | exact Rd.sl (k := 3) rfl (by assumption))) hS.rd ?_
    refine LW.ex rfl rfl rfl rfl (Ex.conv Try.underlying5 Try.underlying3 rfl (by first | exact w64 (by omega) (by omega) | exact wu8 (by omega) (by omega))) hS.rd ?_
    refine LW.ex rfl rfl rfl rfl (Ex.add rfl rfl (w64 (by omega) (by omega))) hS.rd ?_
    refine LW.ex rfl rfl rfl rfl (Ex.fieldO 3 Try.underlying57 rfl rfl ti3 rfl) hS.rd ?_
    refine LW.ex rfl rfl rfl rfl (Ex.load1 ti3 rfl rfl (by first | exact Rd.obj (k := 0) rfl rfl | exact Rd.obj (k := 1) rfl rfl | exact Rd.obj (k := 2) rfl rfl | exact Rd.obj (k := 3) rfl rfl | exact Rd.obj (k := 4) rfl rfl | exact Rd.imm (by assumption) | exact Rd.sl (k := 0) rfl (by assumption) | exact Rd.sl (k := 1) rfl (by assumption) | exact Rd.sl (k := 2) rfl (by assumption) | exact Rd.sl (k := 3) rfl (by assumption))) hS.rd ?_
    refine LW.ex rfl rfl rfl rfl (Ex.indexArr (j := 2) Try.underlying74 ti5 rfl rfl rfl (by omega)) hS.rd ?_
    refine LW.ex rfl rfl rfl rfl (Ex.load1 ti5 rfl rfl (by first | exact Rd.obj (k := 0) rfl rfl | exact Rd.obj (k := 1) rfl rfl | exact Rd.obj (k := 2) rfl rfl | exact Rd.obj (k := 3) rfl rfl | exact Rd.obj (k := 4) rfl rfl | exact Rd.imm (by assumption) | exact Rd.sl (k := 0) rfl (by assumption) | exact Rd.sl (k := 1) rfl (by assumption) | exact Rd.sl (k := 2) rfl (by assumption) | exact Rd.sl (k := 3) rfl (by assumption))) hS.rd ?_
    refine LW.ex rfl rfl rfl rfl (Ex.conv Try.underlying5 Try.underlying3 rfl (by first | exact w64 (by omega) (by omega) | exact wu8 (by omega) (by omega))) hS.rd ?_
    refine LW.ex rfl rfl rfl rfl (Ex.add rfl rfl (w64 (by omega) (by omega))) hS.rd ?_
    refine LW.ex rfl rfl rfl rfl (Ex.fieldO 2 Try.underlying57 rfl rfl ti3 rfl) hS.rd ?_
    refine LW.ex rfl rfl rfl rfl (Ex.load1 ti3 rfl rfl (by first | exact Rd.obj (k := 0) rfl rfl | exact Rd.obj (k := 1) rfl rfl | exact Rd.obj (k := 2) rfl rfl | exact Rd.obj (k := 3) rfl rfl | exact Rd.obj (k := 4) rfl rfl | exact Rd.imm (by assumption) | exact Rd.sl (k := 0) rfl (by assumption) | exact Rd.sl (k := 1) rfl (by assumption) | exact Rd.sl (k := 2) rfl (by assumption) | exact Rd.sl (k := 3) rfl (by assumption))) hS.rd ?_
    refine LW.ex rfl rfl rfl rfl (Ex.indexArr (j := 3) Try.underlying74 ti5 rfl rfl rfl (by omega)) hS.rd ?_
    refine LW.ex rfl rfl rfl rfl (Ex.load1 ti5 rfl rfl (by first | exact Rd.obj (k := 0) rfl rfl | exact Rd.obj (k := 1) rfl rfl | exact Rd.obj (k := 2) rfl rfl | exact Rd.obj (k := 3) rfl rfl | exact Rd.obj (k := 4) rfl rfl | exact Rd.imm (by assumption) | exact Rd.sl (k := 0) rfl (by assumption) | exact Rd.sl (k := 1) rfl (by assumption) | exact Rd.sl (k := 2) rfl (by assumption) | exact Rd.sl (k := 3) rfl (by assumption))) hS.rd ?_
    refine LW.ex rfl rfl rfl rfl (Ex.conv Try.underlying5 Try.underlying3 rfl (by first | exact w64 (by omega) (by omega) | exact wu8 (by omega) (by omega))) hS.rd ?_
    refine LW.ex rfl rfl rfl rfl (Ex.add rfl rfl (w64 (by omega) (by omega))) hS.rd ?_
    refine LW.ex rfl rfl rfl rfl (Ex.fieldO 4 Try.underlying57 rfl rfl ti3 rfl) hS.rd ?_
    refine LW.ex rfl rfl rfl rfl (Ex.load1 ti3 rfl rfl (by first | exact Rd.obj (k := 0) rfl rfl | exact Rd.obj (k := 1) rfl rfl | exact Rd.obj (k := 2) rfl rfl | exact Rd.obj (k := 3) rfl rfl | exact Rd.obj (k := 4) rfl rfl | exact Rd.imm (by assumption) | exact Rd.sl (k := 0) rfl (by assumption) | exact Rd.sl (k := 1) rfl (by assumption) | exact Rd.sl (k := 2) rfl (by assumption) | exact Rd.sl (k := 3) rfl (by assumption))) hS.rd ?_
    refine LW.ex rfl rfl rfl rfl (Ex.indexArr (j := 3) Try.underlying74 ti5 rfl rfl rfl (by omega)) hS.rd ?_
    refine LW.ex rfl rfl rfl rfl (Ex.load1 ti5 rfl rfl (by first | exact Rd.obj (k := 0) rfl rfl | exact Rd.obj (k := 1) rfl rfl | exact Rd.obj (k := 2) rfl rfl | exact Rd.obj (k := 3) rfl rfl | exact Rd.obj (k := 4) rfl rfl | exact Rd.imm (by assumption) | exact Rd.sl (k := 0) rfl (by assumption) | exact Rd.sl (k := 1) rfl (by assumption) | exact Rd.sl (k := 2) rfl (by assumption) | exact Rd.sl (k := 3) rfl (by assumption))) hS.rd ?_
    refine LW.ex rfl rfl rfl rfl (Ex.conv Try.underlying5 Try.underlying3 rfl (by first | exact w64 (by omega) (by omega) | exact wu8 (by omega) (by omega))) hS.rd ?_
    refine LW.ex rfl rfl rfl rfl (Ex.add rfl rfl (w64 (by omega) (by omega))) hS.rd ?_
    refine LW.ex rfl rfl rfl rfl (Ex.buildS st57 rfl rfl rfl) hS.rd ?_
    refine LW.hv rfl rfl rfl rfl (Hv.buildSl hS Try.underlying27 ti57 rfl rfl rfl rfl rfl rfl) fun v w64 ⟨b64, hv, hb64, hS⟩ => ?_
    subst hv
    refine LW.hv rfl rfl rfl rfl (Hv.append (k := 2) rfl Try.underlying27 ti57 rfl hS rfl rfl rfl rfl (Rd.objAll (k := 0) rfl hS.rd) (by simp [Value.oneCell']) (by unfold maxLen; omega) (by omega)) fun v w65 ⟨ad65, c65, hv, hS⟩ => ?_
    subst hv
    dsimp only [List.set] at hS
    have hS := hS.drop 0 rfl
    dsimp only [List.eraseIdx] at hS
    rw [show xs.flatMap areaL ++ [.int .u8 a.Key.toNat, .int .i64 (a.X0 + x.c.toNat), .int .i64 (a.Y0 + x.d.toNat), .int .i64 (a.X1 + x.c.toNat), .int .i64 (a.Y1 + x.d.toNat)] = (xs ++ [movA x.c.toNat x.d.toNat a]).flatMap areaL by rw [List.flatMap_append]; rfl] at hS
    refine LW.ex rfl rfl rfl rfl (Ex.fieldO 0 Try.underlying31 rfl rfl ti27 rfl) hS.rd ?_
    refine LW.hu rfl rfl rfl (Hv.storeObj (k := 2) ti27 hS rfl rfl rfl rfl (by first | (simp; done) | omega)) fun _ w_32 hS => ?_
    dsimp only [List.set] at hS
    refine LW.nil fun aa ha => hK9 _ _ _ ?_ aa ha
    refine CW.region [0, 1, 2] rfl ?_
    refine LW.ex rfl rfl rfl rfl (Ex.move rfl) hS.rd ?_
    refine LW.ex rfl rfl rfl rfl (Ex.add rfl rfl (by first | exact inc64 (by omega) | exact addN (by omega) | exact w64 (by omega) (by omega))) hS.rd ?_
    refine LW.ex rfl rfl rfl rfl (Ex.assign rfl) hS.rd ?_
    refine LW.nil fun aa ha => ?_
    have hS := hS.drop 0 rfl
    dsimp only [List.eraseIdx] at hS
    refine ⟨_, _, ?m5, ⟨i + 1, n + 1, xs ++ [movA x.c.toNat x.d.toNat a], _, _, (by first | omega | (simp; done) | (simp; omega)), (by first | omega | (simp; done) | (simp; omega)), (by first | omega | (simp; done) | (simp; omega)), rfl, rfl, hS, ?_⟩, ha.sub ⟨rfl, rfl, rfl, rfl, rfl, rfl, trivial⟩⟩
    case m5 => omega
    rw [hxs, List.take_succ_eq_append_getElem h1]; unfold movL; rw [List.map_append, ← hae]; rfl
  · have h5_4 := of_decide_eq_false h5_4
    refine LW.nil fun aa ha => hK8 _ _ _ ?_ aa ha
    refine CW.no rfl ?_
    refine CW.exit fun aa ha => hK5 _ _ _ ?_ aa ha
    refine CW.seq fun K11 hK11 => ?_
    obtain ⟨bs, μs, hms, hS, hφ⟩ := hS.shut 0 rfl
    dsimp only [List.eraseIdx] at hS
    have hxe : xs = movL x.c.toNat x.d.toNat (made l) := by rw [hxs, List.take_of_length_le (by omega)]
    have hsm : Sl μs ado co (movL x.c.toNat x.d.toNat (made l)) := by rw [← hxe]; exact Sl.of_own hφ (areaReps _ _) hn
    have hd0 := hd0.mono hms
    have hs21 := hs21.mono hms
    have hnl : n = (movL x.c.toNat x.d.toNat (made l)).length := by rw [← hxe]; exact hn
    rw [hnl] at hS
    have hS := hS.drew
    refine CW.draw 15 (.ex 0 <| .ex 1 <| .ex 2 <| .ex 3 <| .ex 4 <| .ex 5 <| .ex 6 <| .ex 7 <| .one 8 <| .one 9 <| .ex 10 <| .ex 11 <| .ex 12 <| .ex 13 <| .ex 14 <| .done) [] (Rd _ _) mixed (by kernel_rfl) rfl rfl hS.rd ?_
    refine PW.ex rfl rfl rfl rfl (Ex.load3c ti31 rfl rfl (by first | exact Rd.obj (k := 0) rfl rfl | exact Rd.obj (k := 1) rfl rfl | exact Rd.obj (k := 2) rfl rfl | exact Rd.obj (k := 3) rfl rfl | exact Rd.obj (k := 4) rfl rfl | exact Rd.imm (by assumption) | exact Rd.sl (k := 0) rfl (by assumption) | exact Rd.sl (k := 1) rfl (by assumption) | exact Rd.sl (k := 2) rfl (by assumption) | exact Rd.sl (k := 3) rfl (by assumption)) (by first | exact Rd.obj (k := 0) rfl rfl | exact Rd.obj (k := 1) rfl rfl | exact Rd.obj (k := 2) rfl rfl | exact Rd.obj (k := 3) rfl rfl | exact Rd.obj (k := 4) rfl rfl | exact Rd.imm (by assumption) | exact Rd.sl (k := 0) rfl (by assumption) | exact Rd.sl (k := 1) rfl (by assumption) | exact Rd.sl (k := 2) rfl (by assumption) | exact Rd.sl (k := 3) rfl (by assumption)) (by first | exact Rd.obj (k := 0) rfl rfl | exact Rd.obj (k := 1) rfl rfl | exact Rd.obj (k := 2) rfl rfl | exact Rd.obj (k := 3) rfl rfl | exact Rd.obj (k := 4) rfl rfl | exact Rd.imm (by assumption) | exact Rd.sl (k := 0) rfl (by assumption) | exact Rd.sl (k := 1) rfl (by assumption) | exact Rd.sl (k := 2) rfl (by assumption) | exact Rd.sl (k := 3) rfl (by assumption))) ?_
    refine PW.ex rfl rfl rfl rfl (Ex.move rfl) ?_
    refine PW.ex rfl rfl rfl rfl (Ex.indexArr (j := 0) Try.underlying74 ti5 rfl rfl rfl (by omega)) ?_
    refine PW.ex rfl rfl rfl rfl (Ex.load1 ti5 rfl rfl (by first | exact Rd.obj (k := 0) rfl rfl | exact Rd.obj (k := 1) rfl rfl | exact Rd.obj (k := 2) rfl rfl | exact Rd.obj (k := 3) rfl rfl | exact Rd.obj (k := 4) rfl rfl | exact Rd.imm (by assumption) | exact Rd.sl (k := 0) rfl (by assumption) | exact Rd.sl (k := 1) rfl (by assumption) | exact Rd.sl (k := 2) rfl (by assumption) | exact Rd.sl (k := 3) rfl (by assumption))) ?_
    refine PW.ex rfl rfl rfl rfl (Ex.conv Try.underlying5 Try.underlying3 rfl (by first | exact w64 (by omega) (by omega) | exact wu8 (by omega) (by omega))) ?_
    refine PW.ex rfl rfl rfl rfl (Ex.indexArr (j := 1) Try.underlying74 ti5 rfl rfl rfl (by omega)) ?_
    refine PW.ex rfl rfl rfl rfl (Ex.load1 ti5 rfl rfl (by first | exact Rd.obj (k := 0) rfl rfl | exact Rd.obj (k := 1) rfl rfl | exact Rd.obj (k := 2) rfl rfl | exact Rd.obj (k := 3) rfl rfl | exact Rd.obj (k := 4) rfl rfl | exact Rd.imm (by assumption) | exact Rd.sl (k := 0) rfl (by assumption) | exact Rd.sl (k := 1) rfl (by assumption) | exact Rd.sl (k := 2) rfl (by assumption) | exact Rd.sl (k := 3) rfl (by assumption))) ?_
    refine PW.ex rfl rfl rfl rfl (Ex.conv Try.underlying5 Try.underlying3 rfl (by first | exact w64 (by omega) (by omega) | exact wu8 (by omega) (by omega))) ?_
    refine PW.hv rfl rfl rfl rfl (Hv.callS hS rfl rfl rfl cb14 (point_c x.a.toNat x.b.toNat _)) (fun _ _ h => h.2.rd) fun v w76 ⟨hv, hS⟩ => ?_
    subst hv
    refine PW.hv rfl rfl rfl rfl (Hv.callV hS rfl rfl rfl cb15 (touchF_c (l := made l) (taps := tapsM t) (p := ⟨x.a.toNat, x.b.toNat⟩) hS.imm hd0 hs21 made_b (tapsM_b hfine) (tapsM_r t) (made_k l) (by omega) (by omega))) (fun _ _ ⟨_, _, hm, h⟩ => Rd.le hm h.rd) fun v w77 ⟨μ77, hv77, hm77, hS⟩ => ?_
    obtain ⟨ad77, c77, hv, hs77⟩ := hv77
    subst hv
    have hsm := hsm.mono hm77
    have hs21 := hs21.mono hm77
    refine PW.ex rfl rfl rfl rfl (Ex.move rfl) ?_
    refine PW.ex rfl rfl rfl rfl (Ex.extract rfl rfl) ?_
    refine PW.ex rfl rfl rfl rfl (Ex.extract rfl rfl) ?_
    refine PW.ex rfl rfl rfl rfl (Ex.assign rfl) ?_
    refine PW.ex rfl rfl rfl rfl (Ex.assign rfl) ?_
    refine PW.nil ?_
    refine LW.nil fun aa ha => hK11 _ _ _ ?_ aa ha
    refine CW.seq fun K12 hK12 => ?_
    have hS := hS.drew
    refine CW.draw 23 (.ex 0 <| .ex 1 <| .ex 2 <| .ex 3 <| .ex 4 <| .ex 5 <| .ex 6 <| .ex 7 <| .ex 8 <| .ex 9 <| .ex 10 <| .ex 11 <| .ex 12 <| .ex 13 <| .ex 14 <| .ex 15 <| .one 16 <| .one 17 <| .ex 18 <| .ex 19 <| .ex 20 <| .ex 21 <| .ex 22 <| .done) [] (Rd _ _) mixed (by kernel_rfl) rfl rfl hS.rd ?_
    refine PW.ex rfl rfl rfl rfl (Ex.load3c ti31 rfl rfl (by first | exact Rd.obj (k := 0) rfl rfl | exact Rd.obj (k := 1) rfl rfl | exact Rd.obj (k := 2) rfl rfl | exact Rd.obj (k := 3) rfl rfl | exact Rd.obj (k := 4) rfl rfl | exact Rd.imm (by assumption) | exact Rd.sl (k := 0) rfl (by assumption) | exact Rd.sl (k := 1) rfl (by assumption) | exact Rd.sl (k := 2) rfl (by assumption) | exact Rd.sl (k := 3) rfl (by assumption)) (by first | exact Rd.obj (k := 0) rfl rfl | exact Rd.obj (k := 1) rfl rfl | exact Rd.obj (k := 2) rfl rfl | exact Rd.obj (k := 3) rfl rfl | exact Rd.obj (k := 4) rfl rfl | exact Rd.imm (by assumption) | exact Rd.sl (k := 0) rfl (by assumption) | exact Rd.sl (k := 1) rfl (by assumption) | exact Rd.sl (k := 2) rfl (by assumption) | exact Rd.sl (k := 3) rfl (by assumption)) (by first | exact Rd.obj (k := 0) rfl rfl | exact Rd.obj (k := 1) rfl rfl | exact Rd.obj (k := 2) rfl rfl | exact Rd.obj (k := 3) rfl rfl | exact Rd.obj (k := 4) rfl rfl | exact Rd.imm (by assumption) | exact Rd.sl (k := 0) rfl (by assumption) | exact Rd.sl (k := 1) rfl (by assumption) | exact Rd.sl (k := 2) rfl (by assumption) | exact Rd.sl (k := 3) rfl (by assumption))) ?_
    refine PW.ex rfl rfl rfl rfl (Ex.move rfl) ?_
    refine PW.ex rfl rfl rfl rfl (Ex.indexArr (j := 0) Try.underlying74 ti5 rfl rfl rfl (by omega)) ?_
    refine PW.ex rfl rfl rfl rfl (Ex.load1 ti5 rfl rfl (by first | exact Rd.obj (k := 0) rfl rfl | exact Rd.obj (k := 1) rfl rfl | exact Rd.obj (k := 2) rfl rfl | exact Rd.obj (k := 3) rfl rfl | exact Rd.obj (k := 4) rfl rfl | exact Rd.imm (by assumption) | exact Rd.sl (k := 0) rfl (by assumption) | exact Rd.sl (k := 1) rfl (by assumption) | exact Rd.sl (k := 2) rfl (by assumption) | exact Rd.sl (k := 3) rfl (by assumption))) ?_
    refine PW.ex rfl rfl rfl rfl (Ex.conv Try.underlying5 Try.underlying3 rfl (by first | exact w64 (by omega) (by omega) | exact wu8 (by omega) (by omega))) ?_
    refine PW.ex rfl rfl rfl rfl (Ex.indexArr (j := 2) Try.underlying74 ti5 rfl rfl rfl (by omega)) ?_
    refine PW.ex rfl rfl rfl rfl (Ex.load1 ti5 rfl rfl (by first | exact Rd.obj (k := 0) rfl rfl | exact Rd.obj (k := 1) rfl rfl | exact Rd.obj (k := 2) rfl rfl | exact Rd.obj (k := 3) rfl rfl | exact Rd.obj (k := 4) rfl rfl | exact Rd.imm (by assumption) | exact Rd.sl (k := 0) rfl (by assumption) | exact Rd.sl (k := 1) rfl (by assumption) | exact Rd.sl (k := 2) rfl (by assumption) | exact Rd.sl (k := 3) rfl (by assumption))) ?_
    refine PW.ex rfl rfl rfl rfl (Ex.conv Try.underlying5 Try.underlying3 rfl (by first | exact w64 (by omega) (by omega) | exact wu8 (by omega) (by omega))) ?_
    refine PW.ex rfl rfl rfl rfl (Ex.add rfl rfl (w64 (by omega) (by omega))) ?_
    refine PW.ex rfl rfl rfl rfl (Ex.indexArr (j := 1) Try.underlying74 ti5 rfl rfl rfl (by omega)) ?_
    refine PW.ex rfl rfl rfl rfl (Ex.load1 ti5 rfl rfl (by first | exact Rd.obj (k := 0) rfl rfl | exact Rd.obj (k := 1) rfl rfl | exact Rd.obj (k := 2) rfl rfl | exact Rd.obj (k := 3) rfl rfl | exact Rd.obj (k := 4) rfl rfl | exact Rd.imm (by assumption) | exact Rd.sl (k := 0) rfl (by assumption) | exact Rd.sl (k := 1) rfl (by assumption) | exact Rd.sl (k := 2) rfl (by assumption) | exact Rd.sl (k := 3) rfl (by assumption))) ?_
    refine PW.ex rfl rfl rfl rfl (Ex.conv Try.underlying5 Try.underlying3 rfl (by first | exact w64 (by omega) (by omega) | exact wu8 (by omega) (by omega))) ?_
    refine PW.ex rfl rfl rfl rfl (Ex.indexArr (j := 3) Try.underlying74 ti5 rfl rfl rfl (by omega)) ?_
    refine PW.ex rfl rfl rfl rfl (Ex.load1 ti5 rfl rfl (by first | exact Rd.obj (k := 0) rfl rfl | exact Rd.obj (k := 1) rfl rfl | exact Rd.obj (k := 2) rfl rfl | exact Rd.obj (k := 3) rfl rfl | exact Rd.obj (k := 4) rfl rfl | exact Rd.imm (by assumption) | exact Rd.sl (k := 0) rfl (by assumption) | exact Rd.sl (k := 1) rfl (by assumption) | exact Rd.sl (k := 2) rfl (by assumption) | exact Rd.sl (k := 3) rfl (by assumption))) ?_
    refine PW.ex rfl rfl rfl rfl (Ex.conv Try.underlying5 Try.underlying3 rfl (by first | exact w64 (by omega) (by omega) | exact wu8 (by omega) (by omega))) ?_
    refine PW.ex rfl rfl rfl rfl (Ex.add rfl rfl (w64 (by omega) (by omega))) ?_
    refine PW.hv rfl rfl rfl rfl (Hv.callS hS rfl rfl rfl cb14 (point_c ((x.a.toNat : Int) + x.c.toNat) ((x.b.toNat : Int) + x.d.toNat) _)) (fun _ _ h => h.2.rd) fun v w97 ⟨hv, hS⟩ => ?_
    subst hv
    refine PW.hv rfl rfl rfl rfl (Hv.callV hS rfl rfl rfl cb15 (touchF_c (l := movL x.c.toNat x.d.toNat (made l)) (taps := tapsM t) (p := ⟨(x.a.toNat : Int) + x.c.toNat, (x.b.toNat : Int) + x.d.toNat⟩) hS.imm hsm hs21 (mov_b ⟨by omega, by omega⟩ ⟨by omega, by omega⟩) (tapsM_b hfine) (tapsM_r t) (mov_k (made_k l) _ _) (by omega) (by omega))) (fun _ _ ⟨_, _, hm, h⟩ => Rd.le hm h.rd) fun v w98 ⟨μ98, hv98, hm98, hS⟩ => ?_
    unfold IsTR at hv98
    rw [hT] at hv98
    obtain ⟨ad98, c98, hv, hs98⟩ := hv98
    subst hv
    have hsm := hsm.mono hm98
    have hs77 := hs77.mono hm98
    refine PW.ex rfl rfl rfl rfl (Ex.move rfl) ?_
    refine PW.ex rfl rfl rfl rfl (Ex.extract rfl rfl) ?_
    refine PW.ex rfl rfl rfl rfl (Ex.extract rfl rfl) ?_
    refine PW.ex rfl rfl rfl rfl (Ex.assign rfl) ?_
    refine PW.ex rfl rfl rfl rfl (Ex.assign rfl) ?_
    refine PW.nil ?_
    refine LW.nil fun aa ha => hK12 _ _ _ ?_ aa ha
    refine CW.seq fun K13 hK13 => ?_
    refine CW.region [0, 1, 2, 3, 4, 5, 6, 7, 8, 9, 10, 11, 12, 13, 14, 15] rfl ?_
    refine LW.ex rfl rfl rfl rfl (Ex.move rfl) hS.rd ?_
    refine LW.ex rfl rfl rfl rfl (Ex.move rfl) hS.rd ?_
    refine LW.hv rfl rfl rfl rfl (Hv.callS hS rfl rfl rfl cb19 (sameS_c (touchR (made l) (tapsM t) ⟨x.a.toNat, x.b.toNat⟩).1 (touchR (made l) (tapsM t) ⟨x.a.toNat, x.b.toNat⟩).1 _ _ _ _ _ _ hS.imm hs77 hs98)) fun v w103 ⟨hv, hS⟩ => ?_
    subst hv
    refine LW.splitB (fun h11_2 => ?_) (fun h11_2 => ?_)
    · skip
      refine LW.ex rfl rfl rfl rfl (Ex.move rfl) hS.rd ?_
      refine LW.ex rfl rfl rfl rfl (Ex.move rfl) hS.rd ?_
      refine LW.ex rfl rfl rfl rfl (Ex.move rfl) hS.rd ?_
      refine LW.ex rfl rfl rfl rfl (Ex.eql rfl rfl rfl) hS.rd ?_
      refine LW.splitB (fun h11_6 => ?_) (fun h11_6 => ?_)
      · have h11_6 := of_decide_eq_true h11_6
        refine LW.ex rfl rfl rfl rfl (by first | exact Ex.pick_yes rfl rfl | exact Ex.pick_no rfl rfl) hS.rd ?_
        refine LW.ex rfl rfl rfl rfl (Ex.move rfl) hS.rd ?_
        refine LW.ex rfl rfl rfl rfl (Ex.load3c ti31 rfl rfl (by first | exact Rd.obj (k := 0) rfl rfl | exact Rd.obj (k := 1) rfl rfl | exact Rd.obj (k := 2) rfl rfl | exact Rd.obj (k := 3) rfl rfl | exact Rd.obj (k := 4) rfl rfl | exact Rd.imm (by assumption) | exact Rd.sl (k := 0) rfl (by assumption) | exact Rd.sl (k := 1) rfl (by assumption) | exact Rd.sl (k := 2) rfl (by assumption) | exact Rd.sl (k := 3) rfl (by assumption)) (by first | exact Rd.obj (k := 0) rfl rfl | exact Rd.obj (k := 1) rfl rfl | exact Rd.obj (k := 2) rfl rfl | exact Rd.obj (k := 3) rfl rfl | exact Rd.obj (k := 4) rfl rfl | exact Rd.imm (by assumption) | exact Rd.sl (k := 0) rfl (by assumption) | exact Rd.sl (k := 1) rfl (by assumption) | exact Rd.sl (k := 2) rfl (by assumption) | exact Rd.sl (k := 3) rfl (by assumption)) (by first | exact Rd.obj (k := 0) rfl rfl | exact Rd.obj (k := 1) rfl rfl | exact Rd.obj (k := 2) rfl rfl | exact Rd.obj (k := 3) rfl rfl | exact Rd.obj (k := 4) rfl rfl | exact Rd.imm (by assumption) | exact Rd.sl (k := 0) rfl (by assumption) | exact Rd.sl (k := 1) rfl (by assumption) | exact Rd.sl (k := 2) rfl (by assumption) | exact Rd.sl (k := 3) rfl (by assumption))) hS.rd ?_
        refine LW.hv rfl rfl rfl rfl (Hv.callS hS rfl rfl rfl cb23 (valid_c ⟨movL x.c.toNat x.d.toNat (made l), [], []⟩ _ _ _ _ _ _ _ _ hS.imm hsm (Sl.nil _ _ _ (by simp [maxLen])) (Sl.nil _ _ _ (by simp [maxLen])))) fun v w111 ⟨hv, hS⟩ => ?_
        subst hv
        refine LW.splitB (fun h11_10 => ?_) (fun h11_10 => ?_)
        · skip
          refine LW.ex rfl rfl rfl rfl (by first | exact Ex.pick_yes rfl rfl | exact Ex.pick_no rfl rfl) hS.rd ?_
          refine LW.ex rfl rfl rfl rfl (Ex.move rfl) hS.rd ?_
          refine LW.ex rfl rfl rfl rfl (Ex.move rfl) hS.rd ?_
          refine LW.ex rfl rfl rfl rfl (by first | exact Ex.pick_yes rfl rfl | exact Ex.pick_no rfl rfl) hS.rd ?_
          refine LW.ex rfl rfl rfl rfl (Ex.assign rfl) hS.rd ?_
          refine LW.nil fun aa ha => hK13 _ _ _ ?_ aa ha
          refine CW.ret fun aa ha => ?_
          refine ret_one ha Try.results8 rfl ?_
          exact hS.retS
        · rw [hmv] at h11_10; cases h11_10
      · have h11_6 := of_decide_eq_false h11_6
        exact absurd rfl h11_6
    · simp at h11_2
end Go.Proofs.Ytphgjongflkolaa

