/-
  Areas: the walk of AreaOthers.
-/
import Derived.Test.YtphgjongflkolaaArV6
namespace Go.Proofs.Ytphgjongflkolaa
open Go.RowKit Sy Go.Sort

theorem shift_ins {key k : UInt8} {t : Tap} (ht : t.Key = key) (hk : k ≠ key) : ∀ l : List Tap, shiftOf (insT key t l) k = shiftOf l k := by
  have hn : tapHit k t = false := by simp [tapHit, ht, Ne.symm hk]
  have key1 : ∀ l : List Tap, (insT key t l).find? (tapHit k) = l.find? (tapHit k) := by
    intro l
    induction l with
    | nil => simp [insT, hn]
    | cons x r ih =>
      rw [insT]
      split
      · rw [List.find?_cons, List.find?_cons, ih]
      · split
        · rename_i hx
          rw [List.find?_cons_of_neg (by rw [hn]; simp), List.find?_cons_of_neg (by simp [tapHit, hx, Ne.symm hk])]
        · rw [List.find?_cons_of_neg (by rw [hn]; simp)]
  intro l
  unfold shiftOf; rw [key1]
theorem ins_mem {key : UInt8} {t x : Tap} : ∀ {l : List Tap}, x ∈ insT key t l → x = t ∨ x ∈ l
  | [], h => by simp [insT] at h; exact .inl h
  | y :: r, h => by
    rw [insT] at h
    split at h
    · rcases List.mem_cons.1 h with h | h
      · exact .inr (h ▸ List.mem_cons_self ..)
      · exact (ins_mem h).imp id (List.mem_cons_of_mem _)
    · split at h
      · exact (List.mem_cons.1 h).imp id (List.mem_cons_of_mem _)
      · exact List.mem_cons.1 h
theorem ins_len {key : UInt8} {t : Tap} : ∀ {l : List Tap}, (insT key t l).length ≤ l.length + 1
  | [] => by simp [insT]
  | y :: r => by
    rw [insT]; have := ins_len (key := key) (t := t) (l := r)
    split <;> (try split) <;> simp <;> omega
theorem ins_rising {key : UInt8} {t : Tap} (ht : t.Key = key) : ∀ {l : List Tap}, Rising l → Rising (insT key t l)
  | [], _ => by rw [insT]; exact List.pairwise_singleton ..
  | y :: r, h => by
    have h' := List.pairwise_cons.1 h
    rw [insT]
    split
    · rename_i hlt
      refine List.pairwise_cons.2 ⟨fun x hx => ?_, ins_rising ht h'.2⟩
      rcases ins_mem hx with rfl | hx
      · rw [ht]; exact hlt
      · exact h'.1 x hx
    · split
      · rename_i hy
        refine List.pairwise_cons.2 ⟨fun x hx => ?_, h'.2⟩
        have := h'.1 x hx; rw [hy] at this; rw [ht]; exact this
      · rename_i h1 h2
        have h3 : key.toNat < y.Key.toNat := by have : y.Key.toNat ≠ key.toNat := fun e => h2 (UInt8.toNat_inj.1 e); omega
        refine List.pairwise_cons.2 ⟨fun x hx => ?_, h⟩
        rw [ht]
        rcases List.mem_cons.1 hx with rfl | hx
        · exact h3
        · have := h'.1 x hx; omega
theorem tapFor_key (key : UInt8) : ∀ l : List Tap, (tapFor key l).Key = key
  | [] => rfl
  | x :: r => by
    rw [tapFor]
    split
    · assumption
    · exact tapFor_key key r
theorem tapFor_mem {key : UInt8} : ∀ {l : List Tap}, tapFor key l ∈ l ∨ tapFor key l = ⟨key, 0, 0, 0⟩
  | [] => .inr rfl
  | x :: r => by
    rw [tapFor]; split
    · exact .inl (List.mem_cons_self ..)
    · exact (tapFor_mem (l := r)).imp (List.mem_cons_of_mem _) id
def TapF (t : Tap) : Prop := (-63000 ≤ t.DX ∧ t.DX ≤ 63000) ∧ (-63000 ≤ t.DY ∧ t.DY ≤ 63000) ∧ 1 ≤ t.N ∧ t.N ≤ 63
theorem tapNextR_in {t : Tap} {dx dy : Int} (h1 : -40000 ≤ t.DX ∧ t.DX ≤ 40000) (h2 : -40000 ≤ t.DY ∧ t.DY ≤ 40000) (h3 : 0 ≤ t.N ∧ t.N ≤ 63) (h4 : -2000 ≤ dx ∧ dx ≤ 2000) (h5 : -2000 ≤ dy ∧ dy ≤ 2000) : TapF (tapNextR t dx dy) := by
  unfold tapNextR TapF
  split
  · have a := tdiv2_in (a := t.DX + dx) (B := 42000) ⟨by omega, by omega⟩
    have b := tdiv2_in (a := t.DY + dy) (B := 42000) ⟨by omega, by omega⟩
    simp only; omega
  · simp only; omega
theorem tapNextR_key (t : Tap) (dx dy : Int) : (tapNextR t dx dy).Key = t.Key := by unfold tapNextR; split <;> rfl
theorem touch_few {L : List Area} {taps : List Tap} {p : Pt} (hk : AKeys L) (hl : L.length ≤ 8) (hp : inP p = true) : (touchR L taps p).1 = meant L taps p := by
  rcases touchR_or (l := L) (taps := taps) hp with ⟨h1, _, h3⟩ | ⟨h1, _, _⟩
  · rw [h1, h3]
  · rw [h1]; exact few_all (meant_keys hk _ _) (Nat.le_trans (List.length_filterMap_le _ _) hl)
theorem costIn_meant {L : List Area} {taps : List Tap} {p : Pt} (hk : AKeys L) {a : Area} (ha : a ∈ L) : costIn (meant L taps p) a.Key = if costOf a taps p ≤ 1000 then costOf a taps p else -1 := by
  by_cases h : costOf a taps p ≤ 1000
  · rw [if_pos h]
    exact costIn_mem (meant_keys hk taps p) (c := ⟨a.Key, costOf a taps p⟩) (meant_mem.2 ⟨a, ha, h, rfl⟩)
  · rw [if_neg h]
    refine costIn_not fun c hc => ?_
    obtain ⟨b, hb, hbc, rfl⟩ := meant_mem.1 hc
    intro e
    have := areas_inj hk hb ha e
    subst this; exact h hbc
theorem costOf_same {a : Area} {t1 t2 : List Tap} {p : Pt} (h : shiftOf t1 a.Key = shiftOf t2 a.Key) : costOf a t1 p = costOf a t2 p := by unfold costOf; rw [h]
theorem tapF_b {t : Tap} (h : TapF t) : TapB t := by obtain ⟨⟨a, b⟩, ⟨c, d⟩, e, f⟩ := h; exact ⟨by omega, by omega, by omega⟩
theorem tapOf_F {t : List I3} (h : Fine3 t) (i : Nat) : TapF (tapOf t i) := by have := tapOf_in h i; unfold TapF; omega
theorem okTap_of {t : Tap} (h : TapF t) (hk : isLet t.Key = true) : okTap t = true := by
  obtain ⟨⟨a, b⟩, ⟨c, d⟩, e, f⟩ := h
  unfold okTap; rw [hk, decide_eq_true (by omega), decide_eq_true (by omega), decide_eq_true (by omega)]; rfl
theorem tapsR_of {l : List Tap} (hr : Rising l) (h : ∀ t ∈ l, TapF t ∧ isLet t.Key = true) : tapsR l = true :=
  rises_of _ _ _ _ (hr.imp fun {a b} hab => decide_eq_true hab) (fun x hx => okTap_of (h x hx).1 (h x hx).2) (fun p hp => by cases hp)

set_option maxRecDepth 100000 in
set_option maxHeartbeats 2000000 in
theorem law8_c (l : List B2) (t : List I3) (x : B4) (adl adt : Option Addr) (cl ct : Nat) (μ : Mem) (w : World) (hμ : Imm μ w) (sl : Sl μ adl cl l) (st : Sl μ adt ct t) :
    Calls Try.prog 10 #[.slice adl l.length cl, .slice adt t.length ct, b4V x] w (RetS w (.bool true)) := by
  have hfine : Fine3 t := i3_fine st
  have htl := tapsM_len t
  have hb0 := x.a.toNat_lt
  have hb1 := x.b.toNat_lt
  have hb2 := x.c.toNat_lt
  obtain ⟨l8, h8⟩ : ∃ l8, l8 = l.take 8 := ⟨_, rfl⟩
  have hml := made_len l8
  have h8l : l8.length = min 8 l.length := by rw [h8, List.length_take]
  have hmin : min (l.length : Int) 8 = (l8.length : Int) := by omega
  have sl8 : Sl μ adl cl l8 := by rw [h8]; exact sl.take 8
  have hlc := sl.1
  have hp1 : inP ⟨x.b.toNat, x.c.toNat⟩ = true := inP_of (by simp only; omega) (by simp only; omega) (by simp only; omega) (by simp only; omega)
  have hS := St.start w μ hμ
  refine calls_start 117 [.slice adl l.length cl, .slice adt t.length ct, b4V x] Try.func10 rfl Try.ntmps10 rfl rfl ?_
  refine CW.seq fun K1 hK1 => ?_
  refine CW.region [0, 1] rfl ?_
  refine LW.hv rfl rfl rfl rfl (Hv.boxS hS rfl rfl) fun v w5 ⟨b5, hv, hb5, hS⟩ => ?_
  subst hv
  refine LW.ex rfl rfl rfl rfl (Ex.assign rfl) hS.rd ?_
  refine LW.nil fun aa ha => hK1 _ _ _ ?_ aa ha
  refine CW.seq fun K2 hK2 => ?_
  refine CW.region [0, 1] rfl ?_
  refine LW.hv rfl rfl rfl rfl (Hv.callS hS rfl rfl rfl cb11 (sanity_c _)) fun v w20 ⟨hv, hS⟩ => ?_
  subst hv
  refine LW.ex rfl rfl rfl rfl (Ex.assign rfl) hS.rd ?_
  refine LW.nil fun aa ha => hK2 _ _ _ ?_ aa ha
  refine CW.seq fun K3 hK3 => ?_
  refine CW.region [0, 1, 2, 3, 4, 5, 6, 7, 8, 9, 10] rfl ?_
  refine LW.ex rfl rfl rfl rfl (Ex.move rfl) hS.rd ?_
  refine LW.ex rfl rfl rfl rfl (Ex.move rfl) hS.rd ?_
  refine LW.ex rfl rfl rfl rfl (Ex.lenSl rfl Try.underlying22 rfl) hS.rd ?_
  refine LW.ex rfl rfl rfl rfl (Ex.min2 rfl rfl rfl) hS.rd ?_
  refine LW.ex rfl rfl rfl rfl (Ex.sliceTo (j := l8.length) Try.underlying22 ti63 rfl rfl hmin (by omega)) hS.rd ?_
  refine LW.hv rfl rfl rfl rfl (Hv.callV hS rfl rfl rfl cb12 (made_c l8 _ _ _ _ hS.imm sl8)) fun v w26 ⟨μ26, hv26, hm26, hS⟩ => ?_
  obtain ⟨a0, c0, a1, c1, a2, c2, hv, hd0, hd1, hd2⟩ := hv26
  subst hv
  have st := st.mono hm26
  refine LW.ex rfl rfl rfl rfl (Ex.move rfl) hS.rd ?_
  refine LW.hv rfl rfl rfl rfl (Hv.callV hS rfl rfl rfl cb13 (taps_made_c t _ _ _ _ hS.imm st)) fun v w28 ⟨μ28, hv28, hm28, hS⟩ => ?_
  obtain ⟨ad28, c28, hv, hs28⟩ := hv28
  subst hv
  have hd0 : Sl _ a0 c0 (made l8) := hd0.mono hm28
  refine LW.hv rfl rfl rfl rfl (Hv.alloc ti31 hS) fun v w8 ⟨b8, hv, hb8, hS⟩ => ?_
  subst hv
  refine LW.hu rfl rfl rfl (Hv.storeN (k := 0) ti31 hS rfl rfl rfl rfl (by simp [Value.oneCell'])) fun _ w_9 hS => ?_
  dsimp only [List.set] at hS
  refine LW.ex rfl rfl rfl rfl (Ex.assign rfl) hS.rd ?_
  refine LW.nil fun aa ha => hK3 _ _ _ ?_ aa ha
  refine CW.seq fun K4 hK4 => ?_
  refine CW.seq fun K5 hK5 => ?_
  have hdl : (madeB l8).Areas.length = (made l8).length := rfl
  refine CW.region [0, 1, 2, 3] rfl ?_
  refine LW.ex rfl rfl rfl rfl (Ex.fieldO 0 Try.underlying31 rfl rfl ti27 rfl) hS.rd ?_
  refine LW.ex rfl rfl rfl rfl (Ex.load1 ti27 rfl rfl (by first | exact ob 0 rfl rfl | exact ob 1 rfl rfl | exact ob 2 rfl rfl | exact ob 3 rfl rfl | exact ob 4 rfl rfl | exact ob 5 rfl rfl | exact ob 6 rfl rfl | exact Rd.imm ‹_› | exact sb 0 rfl ‹_› | exact sb 1 rfl ‹_› | exact sb 2 rfl ‹_› | exact sb 3 rfl ‹_›)) hS.rd ?_
  refine LW.ex rfl rfl rfl rfl (Ex.lenSl rfl Try.underlying27 rfl) hS.rd ?_
  refine LW.ex rfl rfl rfl rfl (Ex.eql rfl rfl rfl) hS.rd ?_
  refine LW.splitB (fun h3_3 => ?_) (fun h3_3 => ?_)
  · have h3_3 := of_decide_eq_true h3_3
    refine LW.nil fun aa ha => hK5 _ _ _ ?_ aa ha
    refine CW.yes rfl ?_
    refine CW.seq fun K6 hK6 => ?_
    refine CW.region [0, 1] rfl ?_
    refine LW.ex rfl rfl rfl rfl (Ex.move rfl) hS.rd ?_
    refine LW.ex rfl rfl rfl rfl (Ex.assign rfl) hS.rd ?_
    refine LW.nil fun aa ha => hK6 _ _ _ ?_ aa ha
    refine CW.ret fun aa ha => ?_
    refine ret_one ha Try.results10 rfl ?_
    exact hS.retS
  · have h3_3 := of_decide_eq_false h3_3
    refine LW.nil fun aa ha => hK5 _ _ _ ?_ aa ha
    refine CW.no rfl ?_
    refine CW.skip fun aa ha => hK4 _ _ _ ?_ aa ha
    refine CW.seq fun K7 hK7 => ?_
    have hpos : 0 < (made l8).length := by omega
    obtain ⟨i, hie⟩ : ∃ i, i = x.a.toNat % (made l8).length := ⟨_, rfl⟩
    have hi : i < (made l8).length := by rw [hie]; exact Nat.mod_lt _ hpos
    have him : (x.a.toNat : Int).tmod ((made l8).length : Int) = (i : Int) := by rw [tmodN, hie]
    obtain ⟨bl, ol, rfl, k0, k1, k2, k3, k4⟩ := hd0.at hi
    obtain ⟨a, hae⟩ : ∃ a, a = (made l8)[i] := ⟨_, rfl⟩
    have ham : a ∈ made l8 := by rw [hae]; exact List.getElem_mem hi
    rw [← hae] at k0 k1 k2 k3 k4
    obtain ⟨j, hj, haj⟩ := made_mem ham
    have hin := madeA_in l8 (i := j) (by omega)
    rw [← haj] at hin
    have hlet : isLet a.Key = true := by rw [haj]; exact let_C97 (by omega)
    have hmx := tdiv2_in (a := a.X0 + a.X1) (B := 400) ⟨by omega, by omega⟩
    have hmy := tdiv2_in (a := a.Y0 + a.Y1) (B := 400) ⟨by omega, by omega⟩
    obtain ⟨tn, htn⟩ : ∃ tn, tn = tapNextR (tapFor a.Key (tapsM t)) (x.b.toNat - (a.X0 + a.X1).tdiv 2) (x.c.toNat - (a.Y0 + a.Y1).tdiv 2) := ⟨_, rfl⟩
    have htk : tn.Key = a.Key := by rw [htn, tapNextR_key, tapFor_key]
    have htf : TapF tn := by
      rw [htn]
      rcases tapFor_mem (key := a.Key) (l := tapsM t) with h | h
      · obtain ⟨q, _, hq⟩ := tapsM_mem h
        have hq2 := tapOf_in hfine q
        rw [← hq] at hq2
        exact tapNextR_in (by omega) (by omega) (by omega) (by omega) (by omega)
      · rw [h]; exact tapNextR_in (by simp) (by simp) (by simp) (by omega) (by omega)
    obtain ⟨nx, hnx⟩ : ∃ nx, nx = insT a.Key tn (tapsM t) := ⟨_, rfl⟩
    have hAr : adaptR (made l8) (tapsM t) a.Key ⟨x.b.toNat, x.c.toNat⟩ = (nx, 0) := by
      unfold adaptR
      rw [if_neg (by rw [hp1]; simp), areaOf_mem (made_k l8) ham]
      simp only
      rw [lastTap_eq (tapsM_r t), putTap_eq (tapsM_r t), hnx, htn]
    have hnr : Rising nx := by rw [hnx]; exact ins_rising htk (tapsM_r t)
    have hnf : ∀ z ∈ nx, TapF z ∧ isLet z.Key = true := fun z hz => by
      rw [hnx] at hz
      rcases ins_mem hz with rfl | hz
      · exact ⟨htf, by rw [htk]; exact hlet⟩
      · obtain ⟨q, hq1, rfl⟩ := tapsM_mem hz
        exact ⟨tapOf_F hfine q, let_C97 (by omega)⟩
    have hnb : ∀ z ∈ nx, TapB z := fun z hz => tapF_b (hnf z hz).1
    have hnl : nx.length ≤ 7 := by rw [hnx]; have := ins_len (key := a.Key) (t := tn) (l := tapsM t); omega
    have hnv := tapsR_of hnr hnf
    have hsh : ∀ k, k ≠ a.Key → shiftOf nx k = shiftOf (tapsM t) k := fun k hk => by rw [hnx]; exact shift_ins htk hk _
    have hS := hS.drew
    refine CW.draw 21 (.ex 0 <| .ex 1 <| .ex 2 <| .ex 3 <| .ex 4 <| .ex 5 <| .ex 6 <| .ex 7 <| .ex 8 <| .ex 9 <| .ex 10 <| .ex 11 <| .ex 12 <| .ex 13 <| .ex 14 <| .ex 15 <| .ex 16 <| .ex 17 <| .two 18 (.one 19 <| .ex 20 <| .done) 19 (.one 18 <| .ex 20 <| .done)) [21] (Rd _ _) mixed (by kernel_rfl) rfl rfl hS.rd ?_
    refine PW.ex rfl rfl rfl rfl (Ex.fieldO 0 Try.underlying31 rfl rfl ti27 rfl) ?_
    refine PW.ex rfl rfl rfl rfl (Ex.load1 ti27 rfl rfl (by first | exact ob 0 rfl rfl | exact ob 1 rfl rfl | exact ob 2 rfl rfl | exact ob 3 rfl rfl | exact ob 4 rfl rfl | exact ob 5 rfl rfl | exact ob 6 rfl rfl | exact Rd.imm ‹_› | exact sb 0 rfl ‹_› | exact sb 1 rfl ‹_› | exact sb 2 rfl ‹_› | exact sb 3 rfl ‹_›)) ?_
    refine PW.ex rfl rfl rfl rfl (Ex.indexArr (j := 0) Try.underlying74 ti5 rfl rfl rfl (by omega)) ?_
    refine PW.ex rfl rfl rfl rfl (Ex.load1 ti5 rfl rfl (by first | exact ob 0 rfl rfl | exact ob 1 rfl rfl | exact ob 2 rfl rfl | exact ob 3 rfl rfl | exact ob 4 rfl rfl | exact ob 5 rfl rfl | exact ob 6 rfl rfl | exact Rd.imm ‹_› | exact sb 0 rfl ‹_› | exact sb 1 rfl ‹_› | exact sb 2 rfl ‹_› | exact sb 3 rfl ‹_›)) ?_
    refine PW.ex rfl rfl rfl rfl (Ex.conv Try.underlying5 Try.underlying3 rfl (by first | exact w64 (by omega) (by omega) | exact wu8 (by omega) (by omega))) ?_
    refine PW.ex rfl rfl rfl rfl (Ex.fieldO 0 Try.underlying31 rfl rfl ti27 rfl) ?_
    refine PW.ex rfl rfl rfl rfl (Ex.load1 ti27 rfl rfl (by first | exact ob 0 rfl rfl | exact ob 1 rfl rfl | exact ob 2 rfl rfl | exact ob 3 rfl rfl | exact ob 4 rfl rfl | exact ob 5 rfl rfl | exact ob 6 rfl rfl | exact Rd.imm ‹_› | exact sb 0 rfl ‹_› | exact sb 1 rfl ‹_› | exact sb 2 rfl ‹_› | exact sb 3 rfl ‹_›)) ?_
    refine PW.ex rfl rfl rfl rfl (Ex.lenSl rfl Try.underlying27 rfl) ?_
    refine PW.ex rfl rfl rfl rfl (Ex.rem rfl rfl (by omega) him) ?_
    refine PW.ex rfl rfl rfl rfl (Ex.indexSl Try.underlying27 ti57 rfl rfl rfl (by omega)) ?_
    refine PW.ex rfl rfl rfl rfl (Ex.fieldO 0 Try.underlying57 rfl rfl ti5 rfl) ?_
    refine PW.ex rfl rfl rfl rfl (Ex.load1 ti5 rfl rfl (by first | exact ob 0 rfl rfl | exact ob 1 rfl rfl | exact ob 2 rfl rfl | exact ob 3 rfl rfl | exact ob 4 rfl rfl | exact ob 5 rfl rfl | exact ob 6 rfl rfl | exact Rd.imm ‹_› | exact sb 0 rfl ‹_› | exact sb 1 rfl ‹_› | exact sb 2 rfl ‹_› | exact sb 3 rfl ‹_›)) ?_
    refine PW.ex rfl rfl rfl rfl (Ex.indexArr (j := 1) Try.underlying74 ti5 rfl rfl rfl (by omega)) ?_
    refine PW.ex rfl rfl rfl rfl (Ex.load1 ti5 rfl rfl (by first | exact ob 0 rfl rfl | exact ob 1 rfl rfl | exact ob 2 rfl rfl | exact ob 3 rfl rfl | exact ob 4 rfl rfl | exact ob 5 rfl rfl | exact ob 6 rfl rfl | exact Rd.imm ‹_› | exact sb 0 rfl ‹_› | exact sb 1 rfl ‹_› | exact sb 2 rfl ‹_› | exact sb 3 rfl ‹_›)) ?_
    refine PW.ex rfl rfl rfl rfl (Ex.conv Try.underlying5 Try.underlying3 rfl (by first | exact w64 (by omega) (by omega) | exact wu8 (by omega) (by omega))) ?_
    refine PW.ex rfl rfl rfl rfl (Ex.indexArr (j := 2) Try.underlying74 ti5 rfl rfl rfl (by omega)) ?_
    refine PW.ex rfl rfl rfl rfl (Ex.load1 ti5 rfl rfl (by first | exact ob 0 rfl rfl | exact ob 1 rfl rfl | exact ob 2 rfl rfl | exact ob 3 rfl rfl | exact ob 4 rfl rfl | exact ob 5 rfl rfl | exact ob 6 rfl rfl | exact Rd.imm ‹_› | exact sb 0 rfl ‹_› | exact sb 1 rfl ‹_› | exact sb 2 rfl ‹_› | exact sb 3 rfl ‹_›)) ?_
    refine PW.ex rfl rfl rfl rfl (Ex.conv Try.underlying5 Try.underlying3 rfl (by first | exact w64 (by omega) (by omega) | exact wu8 (by omega) (by omega))) ?_
    refine PW.two rfl rfl rfl rfl rfl rfl rfl rfl (Hv.callS hS rfl rfl rfl cb14 (point_c x.b.toNat x.c.toNat _)) (fun _ _ h => h.2.rd) (Hv.alloc ti36 hS) (fun _ _ ⟨_, _, _, h⟩ => h.rd.tail) (fun v w52 ⟨hv, hS⟩ => ?gA8) (fun v w11 ⟨b11, hv, hb11, hS⟩ => ?gB8)
    case gA8 =>
      skip
      subst hv
      refine PW.hv rfl rfl rfl rfl (Hv.alloc ti36 hS) (fun _ _ ⟨_, _, _, h⟩ => h.rd.tail) fun v w11 ⟨b11, hv, hb11, hS⟩ => ?_
      subst hv
      refine PW.ex rfl rfl rfl rfl (Ex.assign rfl) ?_
      refine PW.nil ?_
      refine LW.hu rfl rfl rfl (Hv.storeN (k := 0) ti36 hS rfl rfl rfl rfl (by simp [Value.oneCell'])) fun _ w_21 hS => ?_
      dsimp only [List.set] at hS
      refine LW.nil fun aa ha => hK7 _ _ _ ?_ aa ha
      refine CW.seq fun K9 hK9 => ?_
      refine CW.region [0, 1, 2, 3, 4, 5, 6, 7, 8, 9] rfl ?_
      refine LW.ex rfl rfl rfl rfl (Ex.load3c ti31 rfl rfl (by first | exact ob 0 rfl rfl | exact ob 1 rfl rfl | exact ob 2 rfl rfl | exact ob 3 rfl rfl | exact ob 4 rfl rfl | exact ob 5 rfl rfl | exact ob 6 rfl rfl | exact Rd.imm ‹_› | exact sb 0 rfl ‹_› | exact sb 1 rfl ‹_› | exact sb 2 rfl ‹_› | exact sb 3 rfl ‹_›) (by first | exact ob 0 rfl rfl | exact ob 1 rfl rfl | exact ob 2 rfl rfl | exact ob 3 rfl rfl | exact ob 4 rfl rfl | exact ob 5 rfl rfl | exact ob 6 rfl rfl | exact Rd.imm ‹_› | exact sb 0 rfl ‹_› | exact sb 1 rfl ‹_› | exact sb 2 rfl ‹_› | exact sb 3 rfl ‹_›) (by first | exact ob 0 rfl rfl | exact ob 1 rfl rfl | exact ob 2 rfl rfl | exact ob 3 rfl rfl | exact ob 4 rfl rfl | exact ob 5 rfl rfl | exact ob 6 rfl rfl | exact Rd.imm ‹_› | exact sb 0 rfl ‹_› | exact sb 1 rfl ‹_› | exact sb 2 rfl ‹_› | exact sb 3 rfl ‹_›)) hS.rd ?_
      refine LW.ex rfl rfl rfl rfl (Ex.move rfl) hS.rd ?_
      refine LW.ex rfl rfl rfl rfl (Ex.move rfl) hS.rd ?_
      refine LW.ex rfl rfl rfl rfl (Ex.load2c ti36 rfl rfl (by first | exact ob 0 rfl rfl | exact ob 1 rfl rfl | exact ob 2 rfl rfl | exact ob 3 rfl rfl | exact ob 4 rfl rfl | exact ob 5 rfl rfl | exact ob 6 rfl rfl | exact Rd.imm ‹_› | exact sb 0 rfl ‹_› | exact sb 1 rfl ‹_› | exact sb 2 rfl ‹_› | exact sb 3 rfl ‹_›) (by first | exact ob 0 rfl rfl | exact ob 1 rfl rfl | exact ob 2 rfl rfl | exact ob 3 rfl rfl | exact ob 4 rfl rfl | exact ob 5 rfl rfl | exact ob 6 rfl rfl | exact Rd.imm ‹_› | exact sb 0 rfl ‹_› | exact sb 1 rfl ‹_› | exact sb 2 rfl ‹_› | exact sb 3 rfl ‹_›)) hS.rd ?_
      refine LW.hv rfl rfl rfl rfl (Hv.callV hS rfl rfl rfl cb17 (adaptF_c (l := made l8) (taps := tapsM t) (key := a.Key) (p := ⟨x.b.toNat, x.c.toNat⟩) hS.imm hd0 hs28 made_b (tapsM_b hfine) (tapsM_r t) (tapsM_N hfine) (by omega) (by omega))) fun v w58 ⟨μ58, hv58, hm58, hS⟩ => ?_
      unfold IsAdapt at hv58
      rw [hAr] at hv58
      obtain ⟨ad58, c58, hv, hs58⟩ := hv58
      subst hv
      have hd0 := hd0.mono hm58
      have hs28 := hs28.mono hm58
      refine LW.ex rfl rfl rfl rfl (Ex.move rfl) hS.rd ?_
      refine LW.ex rfl rfl rfl rfl (Ex.extract rfl rfl) hS.rd ?_
      refine LW.ex rfl rfl rfl rfl (Ex.extract rfl rfl) hS.rd ?_
      refine LW.ex rfl rfl rfl rfl (Ex.assign rfl) hS.rd ?_
      refine LW.ex rfl rfl rfl rfl (Ex.assign rfl) hS.rd ?_
      refine LW.nil fun aa ha => hK9 _ _ _ ?_ aa ha
      refine CW.seq fun K10 hK10 => ?_
      refine CW.seq fun K11 hK11 => ?_
      refine CW.region [0, 1, 2, 3, 4, 5, 6] rfl ?_
      refine LW.ex rfl rfl rfl rfl (Ex.move rfl) hS.rd ?_
      refine LW.ex rfl rfl rfl rfl (Ex.neq rfl rfl rfl) hS.rd ?_
      refine LW.splitB (fun h7_1 => ?_) (fun h7_1 => ?_)
      · have h7_1 := of_decide_eq_true h7_1
        omega
      · have h7_1 := of_decide_eq_false h7_1
        refine LW.ex rfl rfl rfl rfl (Ex.move rfl) hS.rd ?_
        refine LW.ex rfl rfl rfl rfl (Ex.move rfl) hS.rd ?_
        refine LW.hv rfl rfl rfl rfl (Hv.callS hS rfl rfl rfl cb29 (taps_c nx _ _ _ _ hS.imm hs58)) fun v w65 ⟨hv, hS⟩ => ?_
        subst hv
        refine LW.splitB (fun h7_4 => ?_) (fun h7_4 => ?_)
        · skip
          refine LW.ex rfl rfl rfl rfl (Ex.not rfl rfl) hS.rd ?_
          refine LW.ex rfl rfl rfl rfl (by first | exact Ex.pick_yes rfl rfl | exact Ex.pick_no rfl rfl) hS.rd ?_
          refine LW.nil fun aa ha => hK11 _ _ _ ?_ aa ha
          refine CW.no rfl ?_
          refine CW.skip fun aa ha => hK10 _ _ _ ?_ aa ha
          refine CW.seq fun K12 hK12 => ?_
          refine CW.region [0, 1, 2, 3, 4, 5, 6, 7, 8] rfl ?_
          refine LW.ex rfl rfl rfl rfl (Ex.load3c ti31 rfl rfl (by first | exact ob 0 rfl rfl | exact ob 1 rfl rfl | exact ob 2 rfl rfl | exact ob 3 rfl rfl | exact ob 4 rfl rfl | exact ob 5 rfl rfl | exact ob 6 rfl rfl | exact Rd.imm ‹_› | exact sb 0 rfl ‹_› | exact sb 1 rfl ‹_› | exact sb 2 rfl ‹_› | exact sb 3 rfl ‹_›) (by first | exact ob 0 rfl rfl | exact ob 1 rfl rfl | exact ob 2 rfl rfl | exact ob 3 rfl rfl | exact ob 4 rfl rfl | exact ob 5 rfl rfl | exact ob 6 rfl rfl | exact Rd.imm ‹_› | exact sb 0 rfl ‹_› | exact sb 1 rfl ‹_› | exact sb 2 rfl ‹_› | exact sb 3 rfl ‹_›) (by first | exact ob 0 rfl rfl | exact ob 1 rfl rfl | exact ob 2 rfl rfl | exact ob 3 rfl rfl | exact ob 4 rfl rfl | exact ob 5 rfl rfl | exact ob 6 rfl rfl | exact Rd.imm ‹_› | exact sb 0 rfl ‹_› | exact sb 1 rfl ‹_› | exact sb 2 rfl ‹_› | exact sb 3 rfl ‹_›)) hS.rd ?_
          refine LW.ex rfl rfl rfl rfl (Ex.move rfl) hS.rd ?_
          refine LW.ex rfl rfl rfl rfl (Ex.load2c ti36 rfl rfl (by first | exact ob 0 rfl rfl | exact ob 1 rfl rfl | exact ob 2 rfl rfl | exact ob 3 rfl rfl | exact ob 4 rfl rfl | exact ob 5 rfl rfl | exact ob 6 rfl rfl | exact Rd.imm ‹_› | exact sb 0 rfl ‹_› | exact sb 1 rfl ‹_› | exact sb 2 rfl ‹_› | exact sb 3 rfl ‹_›) (by first | exact ob 0 rfl rfl | exact ob 1 rfl rfl | exact ob 2 rfl rfl | exact ob 3 rfl rfl | exact ob 4 rfl rfl | exact ob 5 rfl rfl | exact ob 6 rfl rfl | exact Rd.imm ‹_› | exact sb 0 rfl ‹_› | exact sb 1 rfl ‹_› | exact sb 2 rfl ‹_› | exact sb 3 rfl ‹_›)) hS.rd ?_
          refine LW.hv rfl rfl rfl rfl (Hv.callV hS rfl rfl rfl cb15 (touchF_c (l := made l8) (taps := tapsM t) (p := ⟨x.b.toNat, x.c.toNat⟩) hS.imm hd0 hs28 made_b (tapsM_b hfine) (tapsM_r t) (made_k l8) (by omega) (by omega))) fun v w72 ⟨μ72, hv72, hm72, hS⟩ => ?_
          unfold IsTR at hv72
          rw [touch_few (made_k l8) (by omega) hp1] at hv72
          obtain ⟨ad72, c72, hv, hs72⟩ := hv72
          subst hv
          have hd0 := hd0.mono hm72
          have hs28 := hs28.mono hm72
          have hs58 := hs58.mono hm72
          refine LW.ex rfl rfl rfl rfl (Ex.move rfl) hS.rd ?_
          refine LW.ex rfl rfl rfl rfl (Ex.extract rfl rfl) hS.rd ?_
          refine LW.ex rfl rfl rfl rfl (Ex.extract rfl rfl) hS.rd ?_
          refine LW.ex rfl rfl rfl rfl (Ex.assign rfl) hS.rd ?_
          refine LW.ex rfl rfl rfl rfl (Ex.assign rfl) hS.rd ?_
          refine LW.nil fun aa ha => hK12 _ _ _ ?_ aa ha
          refine CW.seq fun K13 hK13 => ?_
          refine CW.region [0, 1, 2, 3, 4, 5, 6, 7, 8] rfl ?_
          refine LW.ex rfl rfl rfl rfl (Ex.load3c ti31 rfl rfl (by first | exact ob 0 rfl rfl | exact ob 1 rfl rfl | exact ob 2 rfl rfl | exact ob 3 rfl rfl | exact ob 4 rfl rfl | exact ob 5 rfl rfl | exact ob 6 rfl rfl | exact Rd.imm ‹_› | exact sb 0 rfl ‹_› | exact sb 1 rfl ‹_› | exact sb 2 rfl ‹_› | exact sb 3 rfl ‹_›) (by first | exact ob 0 rfl rfl | exact ob 1 rfl rfl | exact ob 2 rfl rfl | exact ob 3 rfl rfl | exact ob 4 rfl rfl | exact ob 5 rfl rfl | exact ob 6 rfl rfl | exact Rd.imm ‹_› | exact sb 0 rfl ‹_› | exact sb 1 rfl ‹_› | exact sb 2 rfl ‹_› | exact sb 3 rfl ‹_›) (by first | exact ob 0 rfl rfl | exact ob 1 rfl rfl | exact ob 2 rfl rfl | exact ob 3 rfl rfl | exact ob 4 rfl rfl | exact ob 5 rfl rfl | exact ob 6 rfl rfl | exact Rd.imm ‹_› | exact sb 0 rfl ‹_› | exact sb 1 rfl ‹_› | exact sb 2 rfl ‹_› | exact sb 3 rfl ‹_›)) hS.rd ?_
          refine LW.ex rfl rfl rfl rfl (Ex.move rfl) hS.rd ?_
          refine LW.ex rfl rfl rfl rfl (Ex.load2c ti36 rfl rfl (by first | exact ob 0 rfl rfl | exact ob 1 rfl rfl | exact ob 2 rfl rfl | exact ob 3 rfl rfl | exact ob 4 rfl rfl | exact ob 5 rfl rfl | exact ob 6 rfl rfl | exact Rd.imm ‹_› | exact sb 0 rfl ‹_› | exact sb 1 rfl ‹_› | exact sb 2 rfl ‹_› | exact sb 3 rfl ‹_›) (by first | exact ob 0 rfl rfl | exact ob 1 rfl rfl | exact ob 2 rfl rfl | exact ob 3 rfl rfl | exact ob 4 rfl rfl | exact ob 5 rfl rfl | exact ob 6 rfl rfl | exact Rd.imm ‹_› | exact sb 0 rfl ‹_› | exact sb 1 rfl ‹_› | exact sb 2 rfl ‹_› | exact sb 3 rfl ‹_›)) hS.rd ?_
          refine LW.hv rfl rfl rfl rfl (Hv.callV hS rfl rfl rfl cb15 (touchF_c (l := made l8) (taps := nx) (p := ⟨x.b.toNat, x.c.toNat⟩) hS.imm hd0 hs58 made_b hnb hnr (made_k l8) (by omega) (by omega))) fun v w79 ⟨μ79, hv79, hm79, hS⟩ => ?_
          unfold IsTR at hv79
          rw [touch_few (made_k l8) (by omega) hp1] at hv79
          obtain ⟨ad79, c79, hv, hs79⟩ := hv79
          subst hv
          have hd0 := hd0.mono hm79
          have hs28 := hs28.mono hm79
          have hs58 := hs58.mono hm79
          have hs72 := hs72.mono hm79
          refine LW.ex rfl rfl rfl rfl (Ex.move rfl) hS.rd ?_
          refine LW.ex rfl rfl rfl rfl (Ex.extract rfl rfl) hS.rd ?_
          refine LW.ex rfl rfl rfl rfl (Ex.extract rfl rfl) hS.rd ?_
          refine LW.ex rfl rfl rfl rfl (Ex.assign rfl) hS.rd ?_
          refine LW.ex rfl rfl rfl rfl (Ex.assign rfl) hS.rd ?_
          refine LW.nil fun aa ha => hK13 _ _ _ ?_ aa ha
          refine CW.seq fun K14 hK14 => ?_
          refine CW.seq fun K15 hK15 => ?_
          refine CW.region [0] rfl ?_
          refine LW.ex rfl rfl rfl rfl (Ex.assign rfl) hS.rd ?_
          refine LW.nil fun aa ha => hK15 _ _ _ ?_ aa ha
          refine CW.block ?_
          refine CW.loop (fun q m wl12 => ∃ (qq : Nat), qq ≤ (made l8).length ∧ q = (made l8).length - qq ∧ m = [(7, .bool true), (8, .pointer (some ⟨b8, 0, none⟩)), (9, .slice ad28 (tapsM t).length c28), (10, .int .u8 a.Key.toNat), (12, .slice ad58 nx.length c58), (14, .slice ad72 (meant (made l8) (tapsM t) ⟨x.b.toNat, x.c.toNat⟩).length c72), (16, .slice ad79 (meant (made l8) nx ⟨x.b.toNat, x.c.toNat⟩).length c79), (18, .int .i64 qq)] ∧ St w wl12 μ79 [Own.obj b11 [.int .i64 x.b.toNat, .int .i64 x.c.toNat] 36, Own.obj b8 [.slice (some ⟨bl, ol, none⟩) (made l8).length c0, .slice a1 2 c1, .slice a2 2 c2] 31, Own.obj b5 [.int .u8 x.a.toNat, .int .u8 x.b.toNat, .int .u8 x.c.toNat, .int .u8 x.d.toNat] 74]) _ ⟨0, (by first | omega | (simp; done) | (simp; omega)), rfl, rfl, hS⟩ ⟨rfl, rfl, rfl, rfl, rfl, rfl, rfl, rfl, trivial⟩ ?_
          clear hS
          rintro q m wl12 ⟨qq, hqq, hq, rfl, hS⟩
          refine CW.seq fun K16 hK16 => ?_
          refine CW.seq fun K17 hK17 => ?_
          refine CW.region [0, 1, 2, 3, 4] rfl ?_
          refine LW.ex rfl rfl rfl rfl (Ex.move rfl) hS.rd ?_
          refine LW.ex rfl rfl rfl rfl (Ex.fieldO 0 Try.underlying31 rfl rfl ti27 rfl) hS.rd ?_
          refine LW.ex rfl rfl rfl rfl (Ex.load1 ti27 rfl rfl (by first | exact ob 0 rfl rfl | exact ob 1 rfl rfl | exact ob 2 rfl rfl | exact ob 3 rfl rfl | exact ob 4 rfl rfl | exact ob 5 rfl rfl | exact ob 6 rfl rfl | exact Rd.imm ‹_› | exact sb 0 rfl ‹_› | exact sb 1 rfl ‹_› | exact sb 2 rfl ‹_› | exact sb 3 rfl ‹_›)) hS.rd ?_
          refine LW.ex rfl rfl rfl rfl (Ex.lenSl rfl Try.underlying27 rfl) hS.rd ?_
          refine LW.ex rfl rfl rfl rfl (Ex.lss rfl rfl rfl) hS.rd ?_
          refine LW.splitB (fun h12_4 => ?_) (fun h12_4 => ?_)
          · have h12_4 := of_decide_eq_true h12_4
            refine LW.nil fun aa ha => hK17 _ _ _ ?_ aa ha
            refine CW.yes rfl ?_
            refine CW.skip fun aa ha => hK16 _ _ _ ?_ aa ha
            refine CW.seq fun K18 hK18 => ?_
            refine CW.block ?_
            refine CW.seq fun K19 hK19 => ?_
            have hi2 : qq < (made l8).length := by omega
            obtain ⟨bl', ol', e', j0, j1, j2, j3, j4⟩ := hd0.at hi2
            cases e'
            obtain ⟨b, hbe⟩ : ∃ b, b = (made l8)[qq] := ⟨_, rfl⟩
            have hbm : b ∈ made l8 := by rw [hbe]; exact List.getElem_mem hi2
            rw [← hbe] at j0 j1 j2 j3 j4
            refine CW.region [0, 1, 2, 3, 4, 5, 6] rfl ?_
            refine LW.ex rfl rfl rfl rfl (Ex.fieldO 0 Try.underlying31 rfl rfl ti27 rfl) hS.rd ?_
            refine LW.ex rfl rfl rfl rfl (Ex.load1 ti27 rfl rfl (by first | exact ob 0 rfl rfl | exact ob 1 rfl rfl | exact ob 2 rfl rfl | exact ob 3 rfl rfl | exact ob 4 rfl rfl | exact ob 5 rfl rfl | exact ob 6 rfl rfl | exact Rd.imm ‹_› | exact sb 0 rfl ‹_› | exact sb 1 rfl ‹_› | exact sb 2 rfl ‹_› | exact sb 3 rfl ‹_›)) hS.rd ?_
            refine LW.ex rfl rfl rfl rfl (Ex.move rfl) hS.rd ?_
            refine LW.ex rfl rfl rfl rfl (Ex.indexSl Try.underlying27 ti57 rfl rfl rfl (by omega)) hS.rd ?_
            refine LW.ex rfl rfl rfl rfl (Ex.fieldO 0 Try.underlying57 rfl rfl ti5 rfl) hS.rd ?_
            refine LW.ex rfl rfl rfl rfl (Ex.load1 ti5 rfl rfl (by first | exact ob 0 rfl rfl | exact ob 1 rfl rfl | exact ob 2 rfl rfl | exact ob 3 rfl rfl | exact ob 4 rfl rfl | exact ob 5 rfl rfl | exact ob 6 rfl rfl | exact Rd.imm ‹_› | exact sb 0 rfl ‹_› | exact sb 1 rfl ‹_› | exact sb 2 rfl ‹_› | exact sb 3 rfl ‹_›)) hS.rd ?_
            refine LW.ex rfl rfl rfl rfl (Ex.assign rfl) hS.rd ?_
            refine LW.nil fun aa ha => hK19 _ _ _ ?_ aa ha
            refine CW.seq fun K20 hK20 => ?_
            refine CW.region [0, 1, 2, 3, 4, 5, 6, 7, 8, 9, 10, 11, 12, 13, 14, 15, 16, 17, 18, 19, 20] rfl ?_
            refine LW.ex rfl rfl rfl rfl (Ex.move rfl) hS.rd ?_
            refine LW.ex rfl rfl rfl rfl (Ex.move rfl) hS.rd ?_
            refine LW.ex rfl rfl rfl rfl (Ex.neq rfl rfl rfl) hS.rd ?_
            refine LW.splitB (fun h15_2 => ?_) (fun h15_2 => ?_)
            · have h15_2 := of_decide_eq_true h15_2
              have hbk : b.Key ≠ a.Key := fun e => h15_2 (by rw [e])
              have hs1 := hsh b.Key hbk
              refine LW.ex rfl rfl rfl rfl (Ex.move rfl) hS.rd ?_
              refine LW.ex rfl rfl rfl rfl (Ex.move rfl) hS.rd ?_
              refine LW.ex rfl rfl rfl rfl (Ex.move rfl) hS.rd ?_
              refine LW.hv rfl rfl rfl rfl (Hv.callS hS rfl rfl rfl cb27 (costIn_c (meant (made l8) (tapsM t) ⟨x.b.toNat, x.c.toNat⟩) b.Key _ _ _ _ hS.imm hs72)) fun v w101 ⟨hv, hS⟩ => ?_
              subst hv
              refine LW.ex rfl rfl rfl rfl (Ex.move rfl) hS.rd ?_
              refine LW.ex rfl rfl rfl rfl (Ex.move rfl) hS.rd ?_
              refine LW.hv rfl rfl rfl rfl (Hv.callS hS rfl rfl rfl cb27 (costIn_c (meant (made l8) nx ⟨x.b.toNat, x.c.toNat⟩) b.Key _ _ _ _ hS.imm hs79)) fun v w104 ⟨hv, hS⟩ => ?_
              subst hv
              refine LW.ex rfl rfl rfl rfl (Ex.neq rfl rfl rfl) hS.rd ?_
              refine LW.splitB (fun h15_10 => ?_) (fun h15_10 => ?_)
              · have h15_10 := of_decide_eq_true h15_10
                exact absurd (by rw [costIn_meant (made_k l8) hbm, costIn_meant (made_k l8) hbm, costOf_same hs1]) h15_10
              · have h15_10 := of_decide_eq_false h15_10
                refine LW.ex rfl rfl rfl rfl (Ex.move rfl) hS.rd ?_
                refine LW.ex rfl rfl rfl rfl (Ex.move rfl) hS.rd ?_
                refine LW.ex rfl rfl rfl rfl (Ex.move rfl) hS.rd ?_
                refine LW.hv rfl rfl rfl rfl (Hv.callS hS rfl rfl rfl cb21 (shiftR_c (tapsM t) b.Key _ _ _ _ hS.imm hs28 (tapsM_b hfine) (tapsM_r t) (by omega))) fun v w109 ⟨hv, hS⟩ => ?_
                subst hv
                refine LW.ex rfl rfl rfl rfl (Ex.move rfl) hS.rd ?_
                refine LW.ex rfl rfl rfl rfl (Ex.move rfl) hS.rd ?_
                refine LW.hv rfl rfl rfl rfl (Hv.callS hS rfl rfl rfl cb21 (shiftR_c nx b.Key _ _ _ _ hS.imm hs58 hnb hnr (by omega))) fun v w112 ⟨hv, hS⟩ => ?_
                subst hv
                refine LW.ex rfl rfl rfl rfl (Ex.neqSt (by kernel_rfl) rfl rfl (ptEq (shiftOf (tapsM t) b.Key) (shiftOf nx b.Key))) hS.rd ?_
                refine LW.splitB (fun h15_18 => ?_) (fun h15_18 => ?_)
                · rw [hs1] at h15_18
                  simp at h15_18
                · skip
                  refine LW.ex rfl rfl rfl rfl (by first | exact Ex.pick_yes rfl rfl | exact Ex.pick_no rfl rfl) hS.rd ?_
                  refine LW.ex rfl rfl rfl rfl (by first | exact Ex.pick_yes rfl rfl | exact Ex.pick_no rfl rfl) hS.rd ?_
                  refine LW.nil fun aa ha => hK20 _ _ _ ?_ aa ha
                  refine CW.no rfl ?_
                  refine CW.skip fun aa ha => hK18 _ _ _ ?_ aa ha
                  refine CW.region [0, 1, 2] rfl ?_
                  refine LW.ex rfl rfl rfl rfl (Ex.move rfl) hS.rd ?_
                  refine LW.ex rfl rfl rfl rfl (Ex.add rfl rfl (by first | exact inc64 (by omega) | exact addN (by omega) | exact w64 (by omega) (by omega))) hS.rd ?_
                  refine LW.ex rfl rfl rfl rfl (Ex.assign rfl) hS.rd ?_
                  refine LW.nil fun aa ha => ?_
                  refine ⟨_, _, ?m12, ⟨qq + 1, (by first | omega | (simp; done) | (simp; omega)), rfl, rfl, hS⟩, ha.sub ⟨rfl, rfl, rfl, rfl, rfl, rfl, rfl, rfl, trivial⟩⟩
                  case m12 => omega
            · have h15_2 := of_decide_eq_false h15_2
              refine LW.ex rfl rfl rfl rfl (Ex.move rfl) hS.rd ?_
              refine LW.skip rfl rfl rfl rfl ?_
              refine LW.skip rfl rfl rfl rfl ?_
              refine LW.skip rfl rfl rfl rfl ?_
              refine LW.skip rfl rfl rfl rfl ?_
              refine LW.skip rfl rfl rfl rfl ?_
              refine LW.skip rfl rfl rfl rfl ?_
              refine LW.skip rfl rfl rfl rfl ?_
              refine LW.skip rfl rfl rfl rfl ?_
              refine LW.skip rfl rfl rfl rfl ?_
              refine LW.skip rfl rfl rfl rfl ?_
              refine LW.skip rfl rfl rfl rfl ?_
              refine LW.skip rfl rfl rfl rfl ?_
              refine LW.skip rfl rfl rfl rfl ?_
              refine LW.skip rfl rfl rfl rfl ?_
              refine LW.skip rfl rfl rfl rfl ?_
              refine LW.skip rfl rfl rfl rfl ?_
              refine LW.ex rfl rfl rfl rfl (by first | exact Ex.pick_yes rfl rfl | exact Ex.pick_no rfl rfl) hS.rd ?_
              refine LW.nil fun aa ha => hK20 _ _ _ ?_ aa ha
              refine CW.no rfl ?_
              refine CW.skip fun aa ha => hK18 _ _ _ ?_ aa ha
              refine CW.region [0, 1, 2] rfl ?_
              refine LW.ex rfl rfl rfl rfl (Ex.move rfl) hS.rd ?_
              refine LW.ex rfl rfl rfl rfl (Ex.add rfl rfl (by first | exact inc64 (by omega) | exact addN (by omega) | exact w64 (by omega) (by omega))) hS.rd ?_
              refine LW.ex rfl rfl rfl rfl (Ex.assign rfl) hS.rd ?_
              refine LW.nil fun aa ha => ?_
              refine ⟨_, _, ?m12, ⟨qq + 1, (by first | omega | (simp; done) | (simp; omega)), rfl, rfl, hS⟩, ha.sub ⟨rfl, rfl, rfl, rfl, rfl, rfl, rfl, rfl, trivial⟩⟩
              case m12 => omega
          · have h12_4 := of_decide_eq_false h12_4
            refine LW.nil fun aa ha => hK17 _ _ _ ?_ aa ha
            refine CW.no rfl ?_
            refine CW.exit fun aa ha => hK14 _ _ _ ?_ aa ha
            refine CW.seq fun K21 hK21 => ?_
            refine CW.region [0, 1] rfl ?_
            refine LW.ex rfl rfl rfl rfl (Ex.move rfl) hS.rd ?_
            refine LW.ex rfl rfl rfl rfl (Ex.assign rfl) hS.rd ?_
            refine LW.nil fun aa ha => hK21 _ _ _ ?_ aa ha
            refine CW.ret fun aa ha => ?_
            refine ret_one ha Try.results10 rfl ?_
            exact hS.retS
        · rw [hnv] at h7_4; cases h7_4
    case gB8 =>
      skip
      subst hv
      refine PW.hv rfl rfl rfl rfl (Hv.callS hS rfl rfl rfl cb14 (point_c x.b.toNat x.c.toNat _)) (fun _ _ h => h.2.rd.tail) fun v w52 ⟨hv, hS⟩ => ?_
      subst hv
      refine PW.ex rfl rfl rfl rfl (Ex.assign rfl) ?_
      refine PW.nil ?_
      refine LW.hu rfl rfl rfl (Hv.storeN (k := 0) ti36 hS rfl rfl rfl rfl (by simp [Value.oneCell'])) fun _ w_21 hS => ?_
      dsimp only [List.set] at hS
      refine LW.nil fun aa ha => hK7 _ _ _ ?_ aa ha
      refine CW.seq fun K22 hK22 => ?_
      refine CW.region [0, 1, 2, 3, 4, 5, 6, 7, 8, 9] rfl ?_
      refine LW.ex rfl rfl rfl rfl (Ex.load3c ti31 rfl rfl (by first | exact ob 0 rfl rfl | exact ob 1 rfl rfl | exact ob 2 rfl rfl | exact ob 3 rfl rfl | exact ob 4 rfl rfl | exact ob 5 rfl rfl | exact ob 6 rfl rfl | exact Rd.imm ‹_› | exact sb 0 rfl ‹_› | exact sb 1 rfl ‹_› | exact sb 2 rfl ‹_› | exact sb 3 rfl ‹_›) (by first | exact ob 0 rfl rfl | exact ob 1 rfl rfl | exact ob 2 rfl rfl | exact ob 3 rfl rfl | exact ob 4 rfl rfl | exact ob 5 rfl rfl | exact ob 6 rfl rfl | exact Rd.imm ‹_› | exact sb 0 rfl ‹_› | exact sb 1 rfl ‹_› | exact sb 2 rfl ‹_› | exact sb 3 rfl ‹_›) (by first | exact ob 0 rfl rfl | exact ob 1 rfl rfl | exact ob 2 rfl rfl | exact ob 3 rfl rfl | exact ob 4 rfl rfl | exact ob 5 rfl rfl | exact ob 6 rfl rfl | exact Rd.imm ‹_› | exact sb 0 rfl ‹_› | exact sb 1 rfl ‹_› | exact sb 2 rfl ‹_› | exact sb 3 rfl ‹_›)) hS.rd ?_
      refine LW.ex rfl rfl rfl rfl (Ex.move rfl) hS.rd ?_
      refine LW.ex rfl rfl rfl rfl (Ex.move rfl) hS.rd ?_
      refine LW.ex rfl rfl rfl rfl (Ex.load2c ti36 rfl rfl (by first | exact ob 0 rfl rfl | exact ob 1 rfl rfl | exact ob 2 rfl rfl | exact ob 3 rfl rfl | exact ob 4 rfl rfl | exact ob 5 rfl rfl | exact ob 6 rfl rfl | exact Rd.imm ‹_› | exact sb 0 rfl ‹_› | exact sb 1 rfl ‹_› | exact sb 2 rfl ‹_› | exact sb 3 rfl ‹_›) (by first | exact ob 0 rfl rfl | exact ob 1 rfl rfl | exact ob 2 rfl rfl | exact ob 3 rfl rfl | exact ob 4 rfl rfl | exact ob 5 rfl rfl | exact ob 6 rfl rfl | exact Rd.imm ‹_› | exact sb 0 rfl ‹_› | exact sb 1 rfl ‹_› | exact sb 2 rfl ‹_› | exact sb 3 rfl ‹_›)) hS.rd ?_
      refine LW.hv rfl rfl rfl rfl (Hv.callV hS rfl rfl rfl cb17 (adaptF_c (l := made l8) (taps := tapsM t) (key := a.Key) (p := ⟨x.b.toNat, x.c.toNat⟩) hS.imm hd0 hs28 made_b (tapsM_b hfine) (tapsM_r t) (tapsM_N hfine) (by omega) (by omega))) fun v w58 ⟨μ58, hv58, hm58, hS⟩ => ?_
      unfold IsAdapt at hv58
      rw [hAr] at hv58
      obtain ⟨ad58, c58, hv, hs58⟩ := hv58
      subst hv
      have hd0 := hd0.mono hm58
      have hs28 := hs28.mono hm58
      refine LW.ex rfl rfl rfl rfl (Ex.move rfl) hS.rd ?_
      refine LW.ex rfl rfl rfl rfl (Ex.extract rfl rfl) hS.rd ?_
      refine LW.ex rfl rfl rfl rfl (Ex.extract rfl rfl) hS.rd ?_
      refine LW.ex rfl rfl rfl rfl (Ex.assign rfl) hS.rd ?_
      refine LW.ex rfl rfl rfl rfl (Ex.assign rfl) hS.rd ?_
      refine LW.nil fun aa ha => hK22 _ _ _ ?_ aa ha
      refine CW.seq fun K23 hK23 => ?_
      refine CW.seq fun K24 hK24 => ?_
      refine CW.region [0, 1, 2, 3, 4, 5, 6] rfl ?_
      refine LW.ex rfl rfl rfl rfl (Ex.move rfl) hS.rd ?_
      refine LW.ex rfl rfl rfl rfl (Ex.neq rfl rfl rfl) hS.rd ?_
      refine LW.splitB (fun h7_1 => ?_) (fun h7_1 => ?_)
      · have h7_1 := of_decide_eq_true h7_1
        omega
      · have h7_1 := of_decide_eq_false h7_1
        refine LW.ex rfl rfl rfl rfl (Ex.move rfl) hS.rd ?_
        refine LW.ex rfl rfl rfl rfl (Ex.move rfl) hS.rd ?_
        refine LW.hv rfl rfl rfl rfl (Hv.callS hS rfl rfl rfl cb29 (taps_c nx _ _ _ _ hS.imm hs58)) fun v w65 ⟨hv, hS⟩ => ?_
        subst hv
        refine LW.splitB (fun h7_4 => ?_) (fun h7_4 => ?_)
        · skip
          refine LW.ex rfl rfl rfl rfl (Ex.not rfl rfl) hS.rd ?_
          refine LW.ex rfl rfl rfl rfl (by first | exact Ex.pick_yes rfl rfl | exact Ex.pick_no rfl rfl) hS.rd ?_
          refine LW.nil fun aa ha => hK24 _ _ _ ?_ aa ha
          refine CW.no rfl ?_
          refine CW.skip fun aa ha => hK23 _ _ _ ?_ aa ha
          refine CW.seq fun K25 hK25 => ?_
          refine CW.region [0, 1, 2, 3, 4, 5, 6, 7, 8] rfl ?_
          refine LW.ex rfl rfl rfl rfl (Ex.load3c ti31 rfl rfl (by first | exact ob 0 rfl rfl | exact ob 1 rfl rfl | exact ob 2 rfl rfl | exact ob 3 rfl rfl | exact ob 4 rfl rfl | exact ob 5 rfl rfl | exact ob 6 rfl rfl | exact Rd.imm ‹_› | exact sb 0 rfl ‹_› | exact sb 1 rfl ‹_› | exact sb 2 rfl ‹_› | exact sb 3 rfl ‹_›) (by first | exact ob 0 rfl rfl | exact ob 1 rfl rfl | exact ob 2 rfl rfl | exact ob 3 rfl rfl | exact ob 4 rfl rfl | exact ob 5 rfl rfl | exact ob 6 rfl rfl | exact Rd.imm ‹_› | exact sb 0 rfl ‹_› | exact sb 1 rfl ‹_› | exact sb 2 rfl ‹_› | exact sb 3 rfl ‹_›) (by first | exact ob 0 rfl rfl | exact ob 1 rfl rfl | exact ob 2 rfl rfl | exact ob 3 rfl rfl | exact ob 4 rfl rfl | exact ob 5 rfl rfl | exact ob 6 rfl rfl | exact Rd.imm ‹_› | exact sb 0 rfl ‹_› | exact sb 1 rfl ‹_› | exact sb 2 rfl ‹_› | exact sb 3 rfl ‹_›)) hS.rd ?_
          refine LW.ex rfl rfl rfl rfl (Ex.move rfl) hS.rd ?_
          refine LW.ex rfl rfl rfl rfl (Ex.load2c ti36 rfl rfl (by first | exact ob 0 rfl rfl | exact ob 1 rfl rfl | exact ob 2 rfl rfl | exact ob 3 rfl rfl | exact ob 4 rfl rfl | exact ob 5 rfl rfl | exact ob 6 rfl rfl | exact Rd.imm ‹_› | exact sb 0 rfl ‹_› | exact sb 1 rfl ‹_› | exact sb 2 rfl ‹_› | exact sb 3 rfl ‹_›) (by first | exact ob 0 rfl rfl | exact ob 1 rfl rfl | exact ob 2 rfl rfl | exact ob 3 rfl rfl | exact ob 4 rfl rfl | exact ob 5 rfl rfl | exact ob 6 rfl rfl | exact Rd.imm ‹_› | exact sb 0 rfl ‹_› | exact sb 1 rfl ‹_› | exact sb 2 rfl ‹_› | exact sb 3 rfl ‹_›)) hS.rd ?_
          refine LW.hv rfl rfl rfl rfl (Hv.callV hS rfl rfl rfl cb15 (touchF_c (l := made l8) (taps := tapsM t) (p := ⟨x.b.toNat, x.c.toNat⟩) hS.imm hd0 hs28 made_b (tapsM_b hfine) (tapsM_r t) (made_k l8) (by omega) (by omega))) fun v w72 ⟨μ72, hv72, hm72, hS⟩ => ?_
          unfold IsTR at hv72
          rw [touch_few (made_k l8) (by omega) hp1] at hv72
          obtain ⟨ad72, c72, hv, hs72⟩ := hv72
          subst hv
          have hd0 := hd0.mono hm72
          have hs28 := hs28.mono hm72
          have hs58 := hs58.mono hm72
          refine LW.ex rfl rfl rfl rfl (Ex.move rfl) hS.rd ?_
          refine LW.ex rfl rfl rfl rfl (Ex.extract rfl rfl) hS.rd ?_
          refine LW.ex rfl rfl rfl rfl (Ex.extract rfl rfl) hS.rd ?_
          refine LW.ex rfl rfl rfl rfl (Ex.assign rfl) hS.rd ?_
          refine LW.ex rfl rfl rfl rfl (Ex.assign rfl) hS.rd ?_
          refine LW.nil fun aa ha => hK25 _ _ _ ?_ aa ha
          refine CW.seq fun K26 hK26 => ?_
          refine CW.region [0, 1, 2, 3, 4, 5, 6, 7, 8] rfl ?_
          refine LW.ex rfl rfl rfl rfl (Ex.load3c ti31 rfl rfl (by first | exact ob 0 rfl rfl | exact ob 1 rfl rfl | exact ob 2 rfl rfl | exact ob 3 rfl rfl | exact ob 4 rfl rfl | exact ob 5 rfl rfl | exact ob 6 rfl rfl | exact Rd.imm ‹_› | exact sb 0 rfl ‹_› | exact sb 1 rfl ‹_› | exact sb 2 rfl ‹_› | exact sb 3 rfl ‹_›) (by first | exact ob 0 rfl rfl | exact ob 1 rfl rfl | exact ob 2 rfl rfl | exact ob 3 rfl rfl | exact ob 4 rfl rfl | exact ob 5 rfl rfl | exact ob 6 rfl rfl | exact Rd.imm ‹_› | exact sb 0 rfl ‹_› | exact sb 1 rfl ‹_› | exact sb 2 rfl ‹_› | exact sb 3 rfl ‹_›) (by first | exact ob 0 rfl rfl | exact ob 1 rfl rfl | exact ob 2 rfl rfl | exact ob 3 rfl rfl | exact ob 4 rfl rfl | exact ob 5 rfl rfl | exact ob 6 rfl rfl | exact Rd.imm ‹_› | exact sb 0 rfl ‹_› | exact sb 1 rfl ‹_› | exact sb 2 rfl ‹_› | exact sb 3 rfl ‹_›)) hS.rd ?_
          refine LW.ex rfl rfl rfl rfl (Ex.move rfl) hS.rd ?_
          refine LW.ex rfl rfl rfl rfl (Ex.load2c ti36 rfl rfl (by first | exact ob 0 rfl rfl | exact ob 1 rfl rfl | exact ob 2 rfl rfl | exact ob 3 rfl rfl | exact ob 4 rfl rfl | exact ob 5 rfl rfl | exact ob 6 rfl rfl | exact Rd.imm ‹_› | exact sb 0 rfl ‹_› | exact sb 1 rfl ‹_› | exact sb 2 rfl ‹_› | exact sb 3 rfl ‹_›) (by first | exact ob 0 rfl rfl | exact ob 1 rfl rfl | exact ob 2 rfl rfl | exact ob 3 rfl rfl | exact ob 4 rfl rfl | exact ob 5 rfl rfl | exact ob 6 rfl rfl | exact Rd.imm ‹_› | exact sb 0 rfl ‹_› | exact sb 1 rfl ‹_› | exact sb 2 rfl ‹_› | exact sb 3 rfl ‹_›)) hS.rd ?_
          refine LW.hv rfl rfl rfl rfl (Hv.callV hS rfl rfl rfl cb15 (touchF_c (l := made l8) (taps := nx) (p := ⟨x.b.toNat, x.c.toNat⟩) hS.imm hd0 hs58 made_b hnb hnr (made_k l8) (by omega) (by omega))) fun v w79 ⟨μ79, hv79, hm79, hS⟩ => ?_
          unfold IsTR at hv79
          rw [touch_few (made_k l8) (by omega) hp1] at hv79
          obtain ⟨ad79, c79, hv, hs79⟩ := hv79
          subst hv
          have hd0 := hd0.mono hm79
          have hs28 := hs28.mono hm79
          have hs58 := hs58.mono hm79
          have hs72 := hs72.mono hm79
          refine LW.ex rfl rfl rfl rfl (Ex.move rfl) hS.rd ?_
          refine LW.ex rfl rfl rfl rfl (Ex.extract rfl rfl) hS.rd ?_
          refine LW.ex rfl rfl rfl rfl (Ex.extract rfl rfl) hS.rd ?_
          refine LW.ex rfl rfl rfl rfl (Ex.assign rfl) hS.rd ?_
          refine LW.ex rfl rfl rfl rfl (Ex.assign rfl) hS.rd ?_
          refine LW.nil fun aa ha => hK26 _ _ _ ?_ aa ha
          refine CW.seq fun K27 hK27 => ?_
          refine CW.seq fun K28 hK28 => ?_
          refine CW.region [0] rfl ?_
          refine LW.ex rfl rfl rfl rfl (Ex.assign rfl) hS.rd ?_
          refine LW.nil fun aa ha => hK28 _ _ _ ?_ aa ha
          refine CW.block ?_
          refine CW.loop (fun q m wl12 => ∃ (qq : Nat), qq ≤ (made l8).length ∧ q = (made l8).length - qq ∧ m = [(7, .bool true), (8, .pointer (some ⟨b8, 0, none⟩)), (9, .slice ad28 (tapsM t).length c28), (10, .int .u8 a.Key.toNat), (12, .slice ad58 nx.length c58), (14, .slice ad72 (meant (made l8) (tapsM t) ⟨x.b.toNat, x.c.toNat⟩).length c72), (16, .slice ad79 (meant (made l8) nx ⟨x.b.toNat, x.c.toNat⟩).length c79), (18, .int .i64 qq)] ∧ St w wl12 μ79 [Own.obj b11 [.int .i64 x.b.toNat, .int .i64 x.c.toNat] 36, Own.obj b8 [.slice (some ⟨bl, ol, none⟩) (made l8).length c0, .slice a1 2 c1, .slice a2 2 c2] 31, Own.obj b5 [.int .u8 x.a.toNat, .int .u8 x.b.toNat, .int .u8 x.c.toNat, .int .u8 x.d.toNat] 74]) _ ⟨0, (by first | omega | (simp; done) | (simp; omega)), rfl, rfl, hS⟩ ⟨rfl, rfl, rfl, rfl, rfl, rfl, rfl, rfl, trivial⟩ ?_
          clear hS
          rintro q m wl12 ⟨qq, hqq, hq, rfl, hS⟩
          refine CW.seq fun K29 hK29 => ?_
          refine CW.seq fun K30 hK30 => ?_
          refine CW.region [0, 1, 2, 3, 4] rfl ?_
          refine LW.ex rfl rfl rfl rfl (Ex.move rfl) hS.rd ?_
          refine LW.ex rfl rfl rfl rfl (Ex.fieldO 0 Try.underlying31 rfl rfl ti27 rfl) hS.rd ?_
          refine LW.ex rfl rfl rfl rfl (Ex.load1 ti27 rfl rfl (by first | exact ob 0 rfl rfl | exact ob 1 rfl rfl | exact ob 2 rfl rfl | exact ob 3 rfl rfl | exact ob 4 rfl rfl | exact ob 5 rfl rfl | exact ob 6 rfl rfl | exact Rd.imm ‹_› | exact sb 0 rfl ‹_› | exact sb 1 rfl ‹_› | exact sb 2 rfl ‹_› | exact sb 3 rfl ‹_›)) hS.rd ?_
          refine LW.ex rfl rfl rfl rfl (Ex.lenSl rfl Try.underlying27 rfl) hS.rd ?_
          refine LW.ex rfl rfl rfl rfl (Ex.lss rfl rfl rfl) hS.rd ?_
          refine LW.splitB (fun h12_4 => ?_) (fun h12_4 => ?_)
          · have h12_4 := of_decide_eq_true h12_4
            refine LW.nil fun aa ha => hK30 _ _ _ ?_ aa ha
            refine CW.yes rfl ?_
            refine CW.skip fun aa ha => hK29 _ _ _ ?_ aa ha
            refine CW.seq fun K31 hK31 => ?_
            refine CW.block ?_
            refine CW.seq fun K32 hK32 => ?_
            have hi2 : qq < (made l8).length := by omega
            obtain ⟨bl', ol', e', j0, j1, j2, j3, j4⟩ := hd0.at hi2
            cases e'
            obtain ⟨b, hbe⟩ : ∃ b, b = (made l8)[qq] := ⟨_, rfl⟩
            have hbm : b ∈ made l8 := by rw [hbe]; exact List.getElem_mem hi2
            rw [← hbe] at j0 j1 j2 j3 j4
            refine CW.region [0, 1, 2, 3, 4, 5, 6] rfl ?_
            refine LW.ex rfl rfl rfl rfl (Ex.fieldO 0 Try.underlying31 rfl rfl ti27 rfl) hS.rd ?_
            refine LW.ex rfl rfl rfl rfl (Ex.load1 ti27 rfl rfl (by first | exact ob 0 rfl rfl | exact ob 1 rfl rfl | exact ob 2 rfl rfl | exact ob 3 rfl rfl | exact ob 4 rfl rfl | exact ob 5 rfl rfl | exact ob 6 rfl rfl | exact Rd.imm ‹_› | exact sb 0 rfl ‹_› | exact sb 1 rfl ‹_› | exact sb 2 rfl ‹_› | exact sb 3 rfl ‹_›)) hS.rd ?_
            refine LW.ex rfl rfl rfl rfl (Ex.move rfl) hS.rd ?_
            refine LW.ex rfl rfl rfl rfl (Ex.indexSl Try.underlying27 ti57 rfl rfl rfl (by omega)) hS.rd ?_
            refine LW.ex rfl rfl rfl rfl (Ex.fieldO 0 Try.underlying57 rfl rfl ti5 rfl) hS.rd ?_
            refine LW.ex rfl rfl rfl rfl (Ex.load1 ti5 rfl rfl (by first | exact ob 0 rfl rfl | exact ob 1 rfl rfl | exact ob 2 rfl rfl | exact ob 3 rfl rfl | exact ob 4 rfl rfl | exact ob 5 rfl rfl | exact ob 6 rfl rfl | exact Rd.imm ‹_› | exact sb 0 rfl ‹_› | exact sb 1 rfl ‹_› | exact sb 2 rfl ‹_› | exact sb 3 rfl ‹_›)) hS.rd ?_
            refine LW.ex rfl rfl rfl rfl (Ex.assign rfl) hS.rd ?_
            refine LW.nil fun aa ha => hK32 _ _ _ ?_ aa ha
            refine CW.seq fun K33 hK33 => ?_
            refine CW.region [0, 1, 2, 3, 4, 5, 6, 7, 8, 9, 10, 11, 12, 13, 14, 15, 16, 17, 18, 19, 20] rfl ?_
            refine LW.ex rfl rfl rfl rfl (Ex.move rfl) hS.rd ?_
            refine LW.ex rfl rfl rfl rfl (Ex.move rfl) hS.rd ?_
            refine LW.ex rfl rfl rfl rfl (Ex.neq rfl rfl rfl) hS.rd ?_
            refine LW.splitB (fun h15_2 => ?_) (fun h15_2 => ?_)
            · have h15_2 := of_decide_eq_true h15_2
              have hbk : b.Key ≠ a.Key := fun e => h15_2 (by rw [e])
              have hs1 := hsh b.Key hbk
              refine LW.ex rfl rfl rfl rfl (Ex.move rfl) hS.rd ?_
              refine LW.ex rfl rfl rfl rfl (Ex.move rfl) hS.rd ?_
              refine LW.ex rfl rfl rfl rfl (Ex.move rfl) hS.rd ?_
              refine LW.hv rfl rfl rfl rfl (Hv.callS hS rfl rfl rfl cb27 (costIn_c (meant (made l8) (tapsM t) ⟨x.b.toNat, x.c.toNat⟩) b.Key _ _ _ _ hS.imm hs72)) fun v w101 ⟨hv, hS⟩ => ?_
              subst hv
              refine LW.ex rfl rfl rfl rfl (Ex.move rfl) hS.rd ?_
              refine LW.ex rfl rfl rfl rfl (Ex.move rfl) hS.rd ?_
              refine LW.hv rfl rfl rfl rfl (Hv.callS hS rfl rfl rfl cb27 (costIn_c (meant (made l8) nx ⟨x.b.toNat, x.c.toNat⟩) b.Key _ _ _ _ hS.imm hs79)) fun v w104 ⟨hv, hS⟩ => ?_
              subst hv
              refine LW.ex rfl rfl rfl rfl (Ex.neq rfl rfl rfl) hS.rd ?_
              refine LW.splitB (fun h15_10 => ?_) (fun h15_10 => ?_)
              · have h15_10 := of_decide_eq_true h15_10
                exact absurd (by rw [costIn_meant (made_k l8) hbm, costIn_meant (made_k l8) hbm, costOf_same hs1]) h15_10
              · have h15_10 := of_decide_eq_false h15_10
                refine LW.ex rfl rfl rfl rfl (Ex.move rfl) hS.rd ?_
                refine LW.ex rfl rfl rfl rfl (Ex.move rfl) hS.rd ?_
                refine LW.ex rfl rfl rfl rfl (Ex.move rfl) hS.rd ?_
                refine LW.hv rfl rfl rfl rfl (Hv.callS hS rfl rfl rfl cb21 (shiftR_c (tapsM t) b.Key _ _ _ _ hS.imm hs28 (tapsM_b hfine) (tapsM_r t) (by omega))) fun v w109 ⟨hv, hS⟩ => ?_
                subst hv
                refine LW.ex rfl rfl rfl rfl (Ex.move rfl) hS.rd ?_
                refine LW.ex rfl rfl rfl rfl (Ex.move rfl) hS.rd ?_
                refine LW.hv rfl rfl rfl rfl (Hv.callS hS rfl rfl rfl cb21 (shiftR_c nx b.Key _ _ _ _ hS.imm hs58 hnb hnr (by omega))) fun v w112 ⟨hv, hS⟩ => ?_
                subst hv
                refine LW.ex rfl rfl rfl rfl (Ex.neqSt (by kernel_rfl) rfl rfl (ptEq (shiftOf (tapsM t) b.Key) (shiftOf nx b.Key))) hS.rd ?_
                refine LW.splitB (fun h15_18 => ?_) (fun h15_18 => ?_)
                · rw [hs1] at h15_18
                  simp at h15_18
                · skip
                  refine LW.ex rfl rfl rfl rfl (by first | exact Ex.pick_yes rfl rfl | exact Ex.pick_no rfl rfl) hS.rd ?_
                  refine LW.ex rfl rfl rfl rfl (by first | exact Ex.pick_yes rfl rfl | exact Ex.pick_no rfl rfl) hS.rd ?_
                  refine LW.nil fun aa ha => hK33 _ _ _ ?_ aa ha
                  refine CW.no rfl ?_
                  refine CW.skip fun aa ha => hK31 _ _ _ ?_ aa ha
                  refine CW.region [0, 1, 2] rfl ?_
                  refine LW.ex rfl rfl rfl rfl (Ex.move rfl) hS.rd ?_
                  refine LW.ex rfl rfl rfl rfl (Ex.add rfl rfl (by first | exact inc64 (by omega) | exact addN (by omega) | exact w64 (by omega) (by omega))) hS.rd ?_
                  refine LW.ex rfl rfl rfl rfl (Ex.assign rfl) hS.rd ?_
                  refine LW.nil fun aa ha => ?_
                  refine ⟨_, _, ?m12, ⟨qq + 1, (by first | omega | (simp; done) | (simp; omega)), rfl, rfl, hS⟩, ha.sub ⟨rfl, rfl, rfl, rfl, rfl, rfl, rfl, rfl, trivial⟩⟩
                  case m12 => omega
            · have h15_2 := of_decide_eq_false h15_2
              refine LW.ex rfl rfl rfl rfl (Ex.move rfl) hS.rd ?_
              refine LW.skip rfl rfl rfl rfl ?_
              refine LW.skip rfl rfl rfl rfl ?_
              refine LW.skip rfl rfl rfl rfl ?_
              refine LW.skip rfl rfl rfl rfl ?_
              refine LW.skip rfl rfl rfl rfl ?_
              refine LW.skip rfl rfl rfl rfl ?_
              refine LW.skip rfl rfl rfl rfl ?_
              refine LW.skip rfl rfl rfl rfl ?_
              refine LW.skip rfl rfl rfl rfl ?_
              refine LW.skip rfl rfl rfl rfl ?_
              refine LW.skip rfl rfl rfl rfl ?_
              refine LW.skip rfl rfl rfl rfl ?_
              refine LW.skip rfl rfl rfl rfl ?_
              refine LW.skip rfl rfl rfl rfl ?_
              refine LW.skip rfl rfl rfl rfl ?_
              refine LW.skip rfl rfl rfl rfl ?_
              refine LW.ex rfl rfl rfl rfl (by first | exact Ex.pick_yes rfl rfl | exact Ex.pick_no rfl rfl) hS.rd ?_
              refine LW.nil fun aa ha => hK33 _ _ _ ?_ aa ha
              refine CW.no rfl ?_
              refine CW.skip fun aa ha => hK31 _ _ _ ?_ aa ha
              refine CW.region [0, 1, 2] rfl ?_
              refine LW.ex rfl rfl rfl rfl (Ex.move rfl) hS.rd ?_
              refine LW.ex rfl rfl rfl rfl (Ex.add rfl rfl (by first | exact inc64 (by omega) | exact addN (by omega) | exact w64 (by omega) (by omega))) hS.rd ?_
              refine LW.ex rfl rfl rfl rfl (Ex.assign rfl) hS.rd ?_
              refine LW.nil fun aa ha => ?_
              refine ⟨_, _, ?m12, ⟨qq + 1, (by first | omega | (simp; done) | (simp; omega)), rfl, rfl, hS⟩, ha.sub ⟨rfl, rfl, rfl, rfl, rfl, rfl, rfl, rfl, trivial⟩⟩
              case m12 => omega
          · have h12_4 := of_decide_eq_false h12_4
            refine LW.nil fun aa ha => hK30 _ _ _ ?_ aa ha
            refine CW.no rfl ?_
            refine CW.exit fun aa ha => hK27 _ _ _ ?_ aa ha
            refine CW.seq fun K34 hK34 => ?_
            refine CW.region [0, 1] rfl ?_
            refine LW.ex rfl rfl rfl rfl (Ex.move rfl) hS.rd ?_
            refine LW.ex rfl rfl rfl rfl (Ex.assign rfl) hS.rd ?_
            refine LW.nil fun aa ha => hK34 _ _ _ ?_ aa ha
            refine CW.ret fun aa ha => ?_
            refine ret_one ha Try.results10 rfl ?_
            exact hS.retS
        · rw [hnv] at h7_4; cases h7_4
end Go.Proofs.Ytphgjongflkolaa

