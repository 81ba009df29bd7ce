import Derived.Test.YtgbdfgifgngijaaL8
import Derived.Lib.Overlaps
import Derived.Laws.CopyRow
import Derived.Lib.SliceRun

/-
  Rows of the call's own with their spare places; copy, append of zeros, overlaps; slices of slices.
-/
namespace Go.Proofs.Ytgbdfgifgngijaa.Sy
open Go.RowKit

section
variable {w0 w : World} {μ : Mem} {L : List Own} {g l c sz : Nat} {E : TypeId} {us cs : List Value}

end

namespace Hv
variable {P : Program} {m : List (Nat × Value)} {t t2 E E' : TypeId} {x y : Operand} {w0 w : World} {μ : Mem} {L : List Own}
end Hv

/-- append of a slice of immutable memory, element by element. -/
theorem Hv.appendFlat {α : Type} [El α] {enc : α → List Value} {P : Program} {m : List (Nat × Value)} {t E : TypeId} {x y : Operand} {w0 w : World} {μ : Mem} {L : List Own} {o' : Call} {k : Nat} {d : TypeDesc} {z : Value} {by_ : Nat} {ad ad2 : Option Addr} {l c c2 : Nat} {xs ys : List α}
    (hk0 : ∀ x, (enc x).length = El.sz α) (henc : ∀ (μ : Mem) (f : Nat → Option Value) (x : α), El.rep μ f x → ∀ j u, (enc x)[j]? = some u → f j = some u) (hone : ∀ xs : List α, ∀ u ∈ xs.flatMap enc, u.oneCell' = true)
    (ho' : o' = { callee := .builtin .append, args := #[x, y], argTypes := #[t, t] }) (ht : P.underlying t = some (.slice E)) (hE : TI P E d z (El.sz α) by_) (hz : z.cells.size = El.sz α) {h0 : 0 < El.sz α}
    (hS : St w0 w μ L) (hk : L[k]? = some (Own.sl ad l c E (El.sz α) (ys.flatMap enc))) (hs : Sl μ ad2 c2 xs) (hx : ev m x = some (.slice ad l c)) (hy : ev m y = some (.slice ad2 xs.length c2))
    (h63 : l + xs.length ≤ maxLen) (hb : (l + xs.length) * by_ ≤ 140737488355328) :
    Hv P m (.call o') w (fun u w' => ∃ ad' c', u = .slice ad' (l + xs.length) c' ∧ St w0 w' μ (L.set k (Own.sl ad' (l + xs.length) c' E (El.sz α) ((ys ++ xs).flatMap enc)))) := by
  by_cases hl0 : xs.length = 0
  · obtain rfl := List.eq_nil_of_length_eq_zero hl0
    refine (Hv.append0 ho' ht hE hS hk hx hy).mono fun u w' ⟨hu, hS'⟩ => ⟨ad, c, hu, ?_⟩
    rw [List.append_nil]
    show St w0 w' μ (L.set k (Own.sl ad l c E (El.sz α) (ys.flatMap enc)))
    rw [set_same hk]; exact hS'
  · obtain ⟨b, off, rfl, _⟩ := hs.at (i := 0) (by omega)
    have hc := Sl.cells hk0 h0 henc hs
    exact (Hv.append ho' ht hE hz hS hk hx hy (flatMap_len hk0 xs) (fun j u hu => hS.imm.cell (hc j u hu)) (hone xs) h63 hb).mono fun u w' ⟨ad', c', hu, hS'⟩ => ⟨ad', c', hu, by rw [List.flatMap_append]; exact hS'⟩

namespace Ex
variable {P : Program} {S : World → Prop} {m : List (Nat × Value)} {t t' : TypeId} {x y : Operand} {d : TypeDesc} {z : Value} {by_ sz : Nat}
theorem eqlSlN {e : TypeId} {ad : Option Addr} {l c l' c' : Nat} (ht : P.underlying t = some (.slice e)) (hx : ev m x = some (.slice ad l c)) (hy : ev m y = some (.slice none l' c')) : Ex P S m (.binOp .eql t x y t') (.bool ad.isNone) := fun ρ ha w _ o ho => by
  have e1 : ∀ w, (Op.equal t (.slice ad l c) (.slice none l' c')).run P w = .ok ad.isNone w := fun w => Lib.run_equalIn_slice_nil w 9999 t e ad l c l' c' ht
  have e3 : (eqGuard .eql t x y (.slice ad l c) (.slice none l' c')).run P w = .ok () w := by cases ad <;> simp [eqGuard, go_sem]
  have e2 : (binOp .eql t (.slice ad l c) (.slice none l' c')) = (do pure (.bool (← Op.equal t (.slice ad l c) (.slice none l' c')))) := rfl
  simp only [execOp, ho, ha _ _ hx, ha _ _ hy, e3, e2, Sem.run_bind, Result.andThen_ok, e1, Sem.run_pure, Sem.run_map]
end Ex
end Go.Proofs.Ytgbdfgifgngijaa.Sy

/-
  Output: the walks of reached, live, dead and shorter of package flaw; slices.Clone and slices.Compare.
-/
namespace Go.Proofs.Ytgbdfgifgngijaa
open Go.RowKit Sy

def reachM (s : Sch) : Nat := closeR s false s.Modes.toNat 1
def liveM (s : Sch) : Nat := closeR s true s.Modes.toNat s.Accept.toNat
theorem reachM_lt {s : Sch} (hs : SchOk s) : reachM s < 256 := close_lt hs false 1 (by omega) _
theorem liveM_lt {s : Sch} (hs : SchOk s) : liveM s < 256 := close_lt hs true _ s.Accept.toNat_lt _
theorem reached_c (s : Sch) (hs : SchOk s) (a0 : Option Addr) (c0 : Nat) (μ : Mem) (w : World) (hμ : Imm μ w) (h0 : Sl μ a0 c0 s.Rules) :
    Calls Try.prog 91 #[.agg #[.int .i64 s.Modes, .int .u8 s.Accept.toNat, .slice a0 s.Rules.length c0]] w (RetS w (.int .u8 (reachM s : Nat))) := by
  have hS := St.start w μ hμ
  refine calls_start 5 [.agg #[.int .i64 s.Modes, .int .u8 s.Accept.toNat, .slice a0 s.Rules.length c0]] Try.func91 rfl Try.ntmps91 rfl rfl ?_
  refine CW.seq fun K1 hK1 => ?_
  refine CW.region [0, 1] rfl ?_
  refine LW.hv rfl rfl rfl rfl (Hv.boxS hS rfl rfl) fun v w1 ⟨b1, hv, hb1, hS⟩ => ?_
  subst hv
  refine LW.ex rfl rfl rfl rfl (Ex.assign rfl) hS.rd ?_
  refine LW.nil fun aa ha => hK1 _ _ _ ?_ aa ha
  refine CW.seq fun K2 hK2 => ?_
  refine CW.region [0, 1, 2] rfl ?_
  refine LW.ex rfl rfl rfl rfl (Ex.load3c ti29 rfl rfl (by first | exact obT rfl | exact Rd.imm ‹_› | exact slT ‹_›) (by first | exact obT rfl | exact Rd.imm ‹_› | exact slT ‹_›) (by first | exact obT rfl | exact Rd.imm ‹_› | exact slT ‹_›)) hS.rd ?_
  refine LW.hv rfl rfl rfl rfl (Hv.callS hS rfl rfl rfl cb94 (closure_c s hs 1 (by omega) false _ _ μ _ hS.imm h0)) fun v w4 ⟨hv, hS⟩ => ?_
  subst hv
  refine LW.ex rfl rfl rfl rfl (Ex.assign rfl) hS.rd ?_
  refine LW.nil fun aa ha => hK2 _ _ _ ?_ aa ha
  refine CW.ret fun aa ha => ?_
  refine ret_one ha Try.results91 rfl ?_
  exact hS.retS
theorem live_c (s : Sch) (hs : SchOk s) (a0 : Option Addr) (c0 : Nat) (μ : Mem) (w : World) (hμ : Imm μ w) (h0 : Sl μ a0 c0 s.Rules) :
    Calls Try.prog 71 #[.agg #[.int .i64 s.Modes, .int .u8 s.Accept.toNat, .slice a0 s.Rules.length c0]] w (RetS w (.int .u8 (liveM s : Nat))) := by
  have hS := St.start w μ hμ
  refine calls_start 7 [.agg #[.int .i64 s.Modes, .int .u8 s.Accept.toNat, .slice a0 s.Rules.length c0]] Try.func71 rfl Try.ntmps71 rfl rfl ?_
  refine CW.seq fun K3 hK3 => ?_
  refine CW.region [0, 1] rfl ?_
  refine LW.hv rfl rfl rfl rfl (Hv.boxS hS rfl rfl) fun v w1 ⟨b1, hv, hb1, hS⟩ => ?_
  subst hv
  refine LW.ex rfl rfl rfl rfl (Ex.assign rfl) hS.rd ?_
  refine LW.nil fun aa ha => hK3 _ _ _ ?_ aa ha
  refine CW.seq fun K4 hK4 => ?_
  refine CW.region [0, 1, 2, 3, 4] rfl ?_
  refine LW.ex rfl rfl rfl rfl (Ex.load3c ti29 rfl rfl (by first | exact obT rfl | exact Rd.imm ‹_› | exact slT ‹_›) (by first | exact obT rfl | exact Rd.imm ‹_› | exact slT ‹_›) (by first | exact obT rfl | exact Rd.imm ‹_› | exact slT ‹_›)) hS.rd ?_
  refine LW.ex rfl rfl rfl rfl (Ex.fieldO 1 Try.underlying29 rfl rfl ti5 rfl) hS.rd ?_
  refine LW.ex rfl rfl rfl rfl (Ex.load1 ti5 rfl rfl (by first | exact obT rfl | exact Rd.imm ‹_› | exact slT ‹_›)) hS.rd ?_
  refine LW.hv rfl rfl rfl rfl (Hv.callS hS rfl rfl rfl cb94 (closure_c s hs s.Accept.toNat s.Accept.toNat_lt true _ _ μ _ hS.imm h0)) fun v w6 ⟨hv, hS⟩ => ?_
  subst hv
  refine LW.ex rfl rfl rfl rfl (Ex.assign rfl) hS.rd ?_
  refine LW.nil fun aa ha => hK4 _ _ _ ?_ aa ha
  refine CW.ret fun aa ha => ?_
  refine ret_one ha Try.results71 rfl ?_
  exact hS.retS
def deadB (s : Sch) (r : Rule) : Bool := !(reachM s).testBit r.From.toNat || !(liveM s).testBit r.To.toNat
theorem dead_c (s : Sch) (hs : SchOk s) (r : Rule) (hr : rightB r s.Modes = true) (a0 : Option Addr) (c0 : Nat) (μ : Mem) (w : World) (hμ : Imm μ w) (h0 : Sl μ a0 c0 s.Rules) :
    Calls Try.prog 88 #[.agg #[.int .i64 s.Modes, .int .u8 s.Accept.toNat, .slice a0 s.Rules.length c0], ruleV r] w (RetS w (.bool (deadB s r))) := by
  obtain ⟨f, t, hf, ht, hf8, ht8, _, _⟩ := rightN hr hs.m2
  obtain ⟨rF, rT, rI, rO, rC⟩ := r
  simp only at hf ht
  subst hf ht
  have hrl := reachM_lt hs
  have hll := liveM_lt hs
  have hS := St.start w μ hμ
  refine calls_start 19 [.agg #[.int .i64 s.Modes, .int .u8 s.Accept.toNat, .slice a0 s.Rules.length c0], .agg #[.int .i64 f, .int .i64 t, .string rI, .string rO, .int .i64 rC]] Try.func88 rfl Try.ntmps88 rfl rfl ?_
  refine CW.seq fun K5 hK5 => ?_
  refine CW.region [0, 1, 2] rfl ?_
  refine LW.hv rfl rfl rfl rfl (Hv.boxS hS rfl rfl) fun v w2 ⟨b2, hv, hb2, hS⟩ => ?_
  subst hv
  refine LW.hv rfl rfl rfl rfl (Hv.boxS hS rfl rfl) fun v w3 ⟨b3, hv, hb3, hS⟩ => ?_
  subst hv
  refine LW.ex rfl rfl rfl rfl (Ex.assign rfl) hS.rd ?_
  refine LW.nil fun aa ha => hK5 _ _ _ ?_ aa ha
  refine CW.seq fun K6 hK6 => ?_
  have hS := hS.drew
  refine CW.draw 15 (.ex 0 <| .ex 2 <| .ex 3 <| .one 1 <| .one 4 <| .ex 5 <| .ex 6 <| .ex 7 <| .ex 9 <| .ex 10 <| .one 8 <| .one 11 <| .ex 12 <| .ex 13 <| .ex 14 <| .done) [] (Rd _ _) mixed (by kernel_rfl) rfl rfl hS.rd ?_
  refine PW.ex rfl rfl rfl rfl (Ex.load3c ti29 rfl rfl (by first | exact obT rfl | exact Rd.imm ‹_› | exact slT ‹_›) (by first | exact obT rfl | exact Rd.imm ‹_› | exact slT ‹_›) (by first | exact obT rfl | exact Rd.imm ‹_› | exact slT ‹_›)) ?_
  refine PW.ex rfl rfl rfl rfl (Ex.fieldO 0 Try.underlying58 rfl rfl ti3 rfl) ?_
  refine PW.ex rfl rfl rfl rfl (Ex.load1 ti3 rfl rfl (by first | exact obT rfl | exact Rd.imm ‹_› | exact slT ‹_›)) ?_
  refine PW.hv rfl rfl rfl rfl (Hv.callS hS rfl rfl rfl cb91 (reached_c s hs _ _ μ _ hS.imm h0)) (fun _ _ h => h.2.rd) fun v w6 ⟨hv, hS⟩ => ?_
  subst hv
  refine PW.hv rfl rfl rfl rfl (Hv.callS hS rfl rfl rfl cb72 (has8_c (reachM s) f hrl (by omega) _)) (fun _ _ h => h.2.rd) fun v w9 ⟨hv, hS⟩ => ?_
  subst hv
  refine PW.splitB (fun h1_4 => ?_) (fun h1_4 => ?_)
  · skip
    refine PW.ex rfl rfl rfl rfl (Ex.not rfl rfl) ?_
    refine PW.ex rfl rfl rfl rfl (Ex.move rfl) ?_
    refine PW.ex rfl rfl rfl rfl (Ex.load3c ti29 rfl rfl (by first | exact obT rfl | exact Rd.imm ‹_› | exact slT ‹_›) (by first | exact obT rfl | exact Rd.imm ‹_› | exact slT ‹_›) (by first | exact obT rfl | exact Rd.imm ‹_› | exact slT ‹_›)) ?_
    refine PW.ex rfl rfl rfl rfl (Ex.fieldO 1 Try.underlying58 rfl rfl ti3 rfl) ?_
    refine PW.ex rfl rfl rfl rfl (Ex.load1 ti3 rfl rfl (by first | exact obT rfl | exact Rd.imm ‹_› | exact slT ‹_›)) ?_
    refine PW.hv rfl rfl rfl rfl (Hv.callS hS rfl rfl rfl cb71 (live_c s hs _ _ μ _ hS.imm h0)) (fun _ _ h => h.2.rd) fun v w13 ⟨hv, hS⟩ => ?_
    subst hv
    refine PW.hv rfl rfl rfl rfl (Hv.callS hS rfl rfl rfl cb72 (has8_c (liveM s) t hll (by omega) _)) (fun _ _ h => h.2.rd) fun v w16 ⟨hv, hS⟩ => ?_
    subst hv
    refine PW.ex rfl rfl rfl rfl (Ex.not rfl rfl) ?_
    refine PW.ex rfl rfl rfl rfl (by first | exact Ex.pick_yes rfl rfl | exact Ex.pick_no rfl rfl) ?_
    refine PW.ex rfl rfl rfl rfl (Ex.assign rfl) ?_
    refine PW.nil ?_
    refine LW.nil fun aa ha => hK6 _ _ _ ?_ aa ha
    refine CW.ret fun aa ha => ?_
    refine ret_one ha Try.results88 rfl ?_
    refine hS.retB ?_
    unfold deadB
    simp_all
  · skip
    refine PW.ex rfl rfl rfl rfl (Ex.not rfl rfl) ?_
    refine PW.ex rfl rfl rfl rfl (Ex.move rfl) ?_
    refine PW.skip rfl rfl rfl rfl ?_
    refine PW.skip rfl rfl rfl rfl ?_
    refine PW.skip rfl rfl rfl rfl ?_
    refine PW.skip1 rfl rfl rfl rfl ?_
    refine PW.skip1 rfl rfl rfl rfl ?_
    refine PW.skip rfl rfl rfl rfl ?_
    refine PW.ex rfl rfl rfl rfl (by first | exact Ex.pick_yes rfl rfl | exact Ex.pick_no rfl rfl) ?_
    refine PW.ex rfl rfl rfl rfl (Ex.assign rfl) ?_
    refine PW.nil ?_
    refine LW.nil fun aa ha => hK6 _ _ _ ?_ aa ha
    refine CW.ret fun aa ha => ?_
    refine ret_one ha Try.results88 rfl ?_
    refine hS.retB ?_
    unfold deadB
    simp_all
theorem slNone {μ : Mem} {ad : Option Addr} {c : Nat} {xs : List Int} (h : Sl μ ad c xs) : ad = none → xs = [] := fun e => by
  subst e
  cases xs with
  | nil => rfl
  | cons x r => obtain ⟨b, off, e, _⟩ := h.at (i := 0) (by simp); cases e
theorem intFlat (xs : List Int) : xs.flatMap (fun z => [Value.int .i64 z]) = xs.map fun z => Value.int .i64 z := by
  induction xs with
  | nil => rfl
  | cons x r ih => rw [List.flatMap_cons, ih]; rfl
set_option maxRecDepth 100000 in
theorem cloneI_c {w0 w : World} {μ : Mem} {L : List Own} {ad : Option Addr} {c : Nat} (xs : List Int) (hS : St w0 w μ L) (hx : Sl μ ad c xs) (hbig : xs.length ≤ 1000000) :
    Calls Try.prog 103 #[.slice ad xs.length c] w (RetM fun v w' => ∃ ad' c', v = .slice ad' xs.length c' ∧ St w0 w' μ (Own.sl ad' xs.length c' 3 1 (xs.map fun z => Value.int .i64 z) :: L)) := by
  refine calls_start 8 [.slice ad xs.length c] Try.func103 rfl Try.ntmps103 rfl rfl ?_
  refine CW.seq fun K7 hK7 => ?_
  refine CW.region [0] rfl ?_
  refine LW.ex rfl rfl rfl rfl (Ex.assign rfl) hS.rd ?_
  refine LW.nil fun aa ha => hK7 _ _ _ ?_ aa ha
  refine CW.seq fun K8 hK8 => ?_
  refine CW.seq fun K9 hK9 => ?_
  refine CW.region [0, 1] rfl ?_
  refine LW.ex rfl rfl rfl rfl (Ex.move rfl) hS.rd ?_
  refine LW.ex rfl rfl rfl rfl (Ex.eqlSlN Try.underlying68 rfl rfl) hS.rd ?_
  refine LW.splitB (fun h1_1 => ?_) (fun h1_1 => ?_)
  · skip
    refine LW.nil fun aa ha => hK9 _ _ _ ?_ aa ha
    refine CW.yes rfl ?_
    refine CW.seq fun K10 hK10 => ?_
    refine CW.region [0] rfl ?_
    refine LW.ex rfl rfl rfl rfl (Ex.assign rfl) hS.rd ?_
    refine LW.nil fun aa ha => hK10 _ _ _ ?_ aa ha
    refine CW.ret fun aa ha => ?_
    refine ret_one ha Try.results103 rfl ?_
    have he : xs = [] := slNone hx (by simpa using h1_1)
    subst he
    exact ⟨_, rfl, none, 0, rfl, nil_sl _ _ hS⟩
  · skip
    refine LW.nil fun aa ha => hK9 _ _ _ ?_ aa ha
    refine CW.no rfl ?_
    refine CW.skip fun aa ha => hK8 _ _ _ ?_ aa ha
    refine CW.seq fun K11 hK11 => ?_
    refine CW.region [0, 1, 2, 3] rfl ?_
    refine LW.hv rfl rfl rfl rfl (Hv.buildSl hS Try.underlying68 ti3 rfl rfl rfl rfl rfl rfl) fun v w5 ⟨b5, hv, hb5, hS⟩ => ?_
    subst hv
    have hS := hS.row_sl (k := 0) rfl 0 1 rfl (by simp [maxLen])
    dsimp only [List.set] at hS
    refine LW.ex rfl rfl rfl rfl (Ex.move rfl) hS.rd ?_
    refine LW.hv rfl rfl rfl rfl (Hv.appendFlat (enc := fun z => [Value.int .i64 z]) (k := 0) (ys := []) (h0 := by decide) (fun _ => rfl) (fun _ _ _ h j u hj => by match j with | 0 => (simp at hj; subst hj; exact h) | j + 1 => simp at hj) (fun _ u hu => by obtain ⟨z, _, hz⟩ := List.mem_flatMap.1 hu; obtain rfl := List.mem_singleton.1 hz; rfl) rfl Try.underlying68 ti3 rfl hS rfl hx rfl rfl (by unfold maxLen; omega) (by omega)) fun v w7 ⟨ad7, c7, hv, hS⟩ => ?_
    subst hv
    dsimp only [List.set] at hS
    rw [List.nil_append, intFlat] at hS
    refine LW.ex rfl rfl rfl rfl (Ex.assign rfl) hS.rd ?_
    refine LW.nil fun aa ha => hK11 _ _ _ ?_ aa ha
    refine CW.ret fun aa ha => ?_
    refine ret_one ha Try.results103 rfl ?_
    rw [show 0 + xs.length = xs.length by omega] at hS ⊢
    exact ⟨_, rfl, ad7, c7, rfl, hS⟩
theorem drop_cons {α : Type} {l : List α} {i : Nat} (h : i < l.length) : l.drop i = l[i] :: l.drop (i + 1) := List.drop_eq_getElem_cons h

/-! ### Comparing -/
def cmpL : List Int → List Int → Int
  | [], [] => 0
  | [], _ :: _ => -1
  | _ :: _, [] => 1
  | a :: r, b :: s => if cmpI a b = 0 then cmpL r s else cmpI a b
theorem cmpL_nil (l : List Int) : cmpL [] l = if 0 < l.length then -1 else 0 := by cases l <;> simp [cmpL]
theorem compare_c (a b : List Int) (ada adb : Option Addr) (ca cb : Nat) (μ : Mem) (w : World) (hμ : Imm μ w) (hla : Sl μ ada ca a) (hlb : Sl μ adb cb b) :
    Calls Try.prog 104 #[.slice ada a.length ca, .slice adb b.length cb] w (RetS w (.int .i64 (cmpL a b))) := by
  have h1 := hla.1
  have h2 := hla.2.1
  have h3 := hlb.1
  have h4 := hlb.2.1
  simp only [maxLen] at h2 h4
  have hS := St.start w μ hμ
  refine calls_start 36 [.slice ada a.length ca, .slice adb b.length cb] Try.func104 rfl Try.ntmps104 rfl rfl ?_
  refine CW.seq fun K12 hK12 => ?_
  refine CW.region [0] rfl ?_
  refine LW.ex rfl rfl rfl rfl (Ex.assign rfl) hS.rd ?_
  refine LW.nil fun aa ha => hK12 _ _ _ ?_ aa ha
  refine CW.seq fun K13 hK13 => ?_
  refine CW.seq fun K14 hK14 => ?_
  refine CW.region [0, 1, 2] rfl ?_
  refine LW.ex rfl rfl rfl rfl (Ex.move rfl) hS.rd ?_
  refine LW.ex rfl rfl rfl rfl (Ex.lenSl rfl Try.underlying68 rfl) hS.rd ?_
  refine LW.ex rfl rfl rfl rfl (Ex.move rfl) hS.rd ?_
  refine LW.nil fun aa ha => hK14 _ _ _ ?_ aa ha
  refine CW.block ?_
  refine CW.loop (fun qq frm wl2 => ∃ (i : Nat), i ≤ a.length ∧ i ≤ b.length ∧ qq = a.length - i ∧ frm = [(0, .slice ada a.length ca), (1, .slice adb b.length cb), (9, .slice ada a.length ca), (10, .int .i64 ((a.length : Nat) : Int)), (11, .int .i64 i)] ∧ St w wl2 μ [] ∧ (cmpL a b = cmpL (a.drop i) (b.drop i))) _ ⟨0, (by first | omega | (simp; done) | (simp; omega)), (by first | omega | (simp; done) | (simp; omega)), rfl, rfl, hS, rfl⟩ ⟨rfl, rfl, rfl, rfl, rfl, trivial⟩ ?_
  clear hS
  rintro qq frm wl2 ⟨i, hi, hj, hq, rfl, hS, he⟩
  refine CW.seq fun K15 hK15 => ?_
  refine CW.region [0] rfl ?_
  refine LW.ex rfl rfl rfl rfl (Ex.lss rfl rfl rfl) hS.rd ?_
  refine LW.splitB (fun h2_0 => ?_) (fun h2_0 => ?_)
  · have h2_0 := of_decide_eq_true h2_0
    refine LW.nil fun aa ha => hK15 _ _ _ ?_ aa ha
    refine CW.seq fun K16 hK16 => ?_
    refine CW.yes rfl ?_
    refine CW.skip fun aa ha => hK16 _ _ _ ?_ aa ha
    refine CW.seq fun K17 hK17 => ?_
    refine CW.block ?_
    refine CW.seq fun K18 hK18 => ?_
    have hi2 : i < a.length := by omega
    rw [drop_cons hi2] at he
    obtain ⟨bl, ol, rfl, k0⟩ := hla.at hi2
    refine CW.region [0, 1, 2, 3, 4] rfl ?_
    refine LW.ex rfl rfl rfl rfl (Ex.move rfl) hS.rd ?_
    refine LW.ex rfl rfl rfl rfl (Ex.indexSl Try.underlying68 ti3 rfl rfl rfl (by omega)) hS.rd ?_
    refine LW.ex rfl rfl rfl rfl (Ex.load1 ti3 rfl rfl (by first | exact obT rfl | exact Rd.imm ‹_› | exact slT ‹_›)) hS.rd ?_
    refine LW.ex rfl rfl rfl rfl (Ex.assign rfl) hS.rd ?_
    refine LW.ex rfl rfl rfl rfl (Ex.assign rfl) hS.rd ?_
    refine LW.nil fun aa ha => hK18 _ _ _ ?_ aa ha
    refine CW.seq fun K19 hK19 => ?_
    refine CW.seq fun K20 hK20 => ?_
    refine CW.region [0, 1, 2, 3] rfl ?_
    refine LW.ex rfl rfl rfl rfl (Ex.move rfl) hS.rd ?_
    refine LW.ex rfl rfl rfl rfl (Ex.move rfl) hS.rd ?_
    refine LW.ex rfl rfl rfl rfl (Ex.lenSl rfl Try.underlying68 rfl) hS.rd ?_
    refine LW.ex rfl rfl rfl rfl (Ex.geq rfl rfl rfl) hS.rd ?_
    refine LW.splitB (fun h4_3 => ?_) (fun h4_3 => ?_)
    · have h4_3 := of_decide_eq_true h4_3
      refine LW.nil fun aa ha => hK20 _ _ _ ?_ aa ha
      refine CW.yes rfl ?_
      refine CW.seq fun K21 hK21 => ?_
      refine CW.region [0] rfl ?_
      refine LW.ex rfl rfl rfl rfl (Ex.assign rfl) hS.rd ?_
      refine LW.nil fun aa ha => hK21 _ _ _ ?_ aa ha
      refine CW.ret fun aa ha => ?_
      refine ret_one ha Try.results104 rfl ?_
      exact hS.retE (by rw [he, List.drop_of_length_le (show b.length ≤ i by omega)]; rfl)
    · have h4_3 := of_decide_eq_false h4_3
      refine LW.nil fun aa ha => hK20 _ _ _ ?_ aa ha
      refine CW.no rfl ?_
      refine CW.skip fun aa ha => hK19 _ _ _ ?_ aa ha
      refine CW.seq fun K22 hK22 => ?_
      have hj2 : i < b.length := by omega
      rw [drop_cons hj2, cmpL] at he
      obtain ⟨bl2, ol2, rfl, j0⟩ := hlb.at hj2
      refine CW.region [0, 1, 2, 3, 4] rfl ?_
      refine LW.ex rfl rfl rfl rfl (Ex.move rfl) hS.rd ?_
      refine LW.ex rfl rfl rfl rfl (Ex.move rfl) hS.rd ?_
      refine LW.ex rfl rfl rfl rfl (Ex.indexSl Try.underlying68 ti3 rfl rfl rfl (by omega)) hS.rd ?_
      refine LW.ex rfl rfl rfl rfl (Ex.load1 ti3 rfl rfl (by first | exact obT rfl | exact Rd.imm ‹_› | exact slT ‹_›)) hS.rd ?_
      refine LW.ex rfl rfl rfl rfl (Ex.assign rfl) hS.rd ?_
      refine LW.nil fun aa ha => hK22 _ _ _ ?_ aa ha
      refine CW.seq fun K23 hK23 => ?_
      refine CW.region [0, 1, 2, 3] rfl ?_
      refine LW.ex rfl rfl rfl rfl (Ex.move rfl) hS.rd ?_
      refine LW.ex rfl rfl rfl rfl (Ex.move rfl) hS.rd ?_
      refine LW.hv rfl rfl rfl rfl (Hv.callS hS rfl rfl rfl cb37 (cmp_c a[i] b[i] _)) fun v w26 ⟨hv, hS⟩ => ?_
      subst hv
      refine LW.ex rfl rfl rfl rfl (Ex.assign rfl) hS.rd ?_
      refine LW.nil fun aa ha => hK23 _ _ _ ?_ aa ha
      refine CW.seq fun K24 hK24 => ?_
      refine CW.region [0, 1] rfl ?_
      refine LW.ex rfl rfl rfl rfl (Ex.move rfl) hS.rd ?_
      refine LW.ex rfl rfl rfl rfl (Ex.neq rfl rfl rfl) hS.rd ?_
      refine LW.splitB (fun h8_1 => ?_) (fun h8_1 => ?_)
      · have h8_1 := of_decide_eq_true h8_1
        refine LW.nil fun aa ha => hK24 _ _ _ ?_ aa ha
        refine CW.yes rfl ?_
        refine CW.seq fun K25 hK25 => ?_
        refine CW.region [0, 1] rfl ?_
        refine LW.ex rfl rfl rfl rfl (Ex.move rfl) hS.rd ?_
        refine LW.ex rfl rfl rfl rfl (Ex.assign rfl) hS.rd ?_
        refine LW.nil fun aa ha => hK25 _ _ _ ?_ aa ha
        refine CW.ret fun aa ha => ?_
        refine ret_one ha Try.results104 rfl ?_
        exact hS.retE (by rw [he, if_neg h8_1])
      · have h8_1 := of_decide_eq_false h8_1
        refine LW.nil fun aa ha => hK24 _ _ _ ?_ aa ha
        refine CW.no rfl ?_
        refine CW.skip fun aa ha => hK17 _ _ _ ?_ aa ha
        refine CW.region [0, 1] rfl ?_
        refine LW.ex rfl rfl rfl rfl (Ex.add rfl rfl (by first | exact inc64 (by omega) | exact addN (by omega) | exact w64 (by omega) (by omega))) hS.rd ?_
        refine LW.ex rfl rfl rfl rfl (Ex.move rfl) hS.rd ?_
        refine LW.nil fun aa ha => ?_
        refine ⟨_, _, ?m2, ⟨i + 1, (by first | omega | (simp; done) | (simp; omega)), (by first | omega | (simp; done) | (simp; omega)), rfl, rfl, hS, by rw [he, if_pos (by omega)]⟩, ha.sub ⟨rfl, rfl, rfl, rfl, rfl, trivial⟩⟩
        case m2 => omega
  · have h2_0 := of_decide_eq_false h2_0
    refine LW.nil fun aa ha => hK15 _ _ _ ?_ aa ha
    refine CW.seq fun K26 hK26 => ?_
    refine CW.no rfl ?_
    refine CW.exit fun aa ha => hK13 _ _ _ ?_ aa ha
    refine CW.seq fun K27 hK27 => ?_
    refine CW.seq fun K28 hK28 => ?_
    refine CW.region [0, 1, 2, 3, 4] rfl ?_
    refine LW.ex rfl rfl rfl rfl (Ex.move rfl) hS.rd ?_
    refine LW.ex rfl rfl rfl rfl (Ex.lenSl rfl Try.underlying68 rfl) hS.rd ?_
    refine LW.ex rfl rfl rfl rfl (Ex.move rfl) hS.rd ?_
    refine LW.ex rfl rfl rfl rfl (Ex.lenSl rfl Try.underlying68 rfl) hS.rd ?_
    refine LW.ex rfl rfl rfl rfl (Ex.lss rfl rfl rfl) hS.rd ?_
    refine LW.splitB (fun h11_4 => ?_) (fun h11_4 => ?_)
    · have h11_4 := of_decide_eq_true h11_4
      refine LW.nil fun aa ha => hK28 _ _ _ ?_ aa ha
      refine CW.yes rfl ?_
      refine CW.seq fun K29 hK29 => ?_
      refine CW.region [0] rfl ?_
      refine LW.ex rfl rfl rfl rfl (Ex.assign rfl) hS.rd ?_
      refine LW.nil fun aa ha => hK29 _ _ _ ?_ aa ha
      refine CW.ret fun aa ha => ?_
      refine ret_one ha Try.results104 rfl ?_
      exact hS.retE (by rw [he, List.drop_of_length_le (show a.length ≤ i by omega), cmpL_nil, if_pos (by rw [List.length_drop]; omega)])
    · have h11_4 := of_decide_eq_false h11_4
      refine LW.nil fun aa ha => hK28 _ _ _ ?_ aa ha
      refine CW.no rfl ?_
      refine CW.skip fun aa ha => hK27 _ _ _ ?_ aa ha
      refine CW.seq fun K30 hK30 => ?_
      refine CW.region [0] rfl ?_
      refine LW.ex rfl rfl rfl rfl (Ex.assign rfl) hS.rd ?_
      refine LW.nil fun aa ha => hK30 _ _ _ ?_ aa ha
      refine CW.ret fun aa ha => ?_
      refine ret_one ha Try.results104 rfl ?_
      exact hS.retE (by rw [he, List.drop_of_length_le (show a.length ≤ i by omega), cmpL_nil, if_neg (by rw [List.length_drop]; omega)])
def shorterB (a b : List Int) : Bool := if a.length ≠ b.length then decide (a.length < b.length) else decide (cmpL a b < 0)
theorem shorter_c (a b : List Int) (ada adb : Option Addr) (ca cb : Nat) (μ : Mem) (w : World) (hμ : Imm μ w) (hla : Sl μ ada ca a) (hlb : Sl μ adb cb b) :
    Calls Try.prog 93 #[.slice ada a.length ca, .slice adb b.length cb] w (RetS w (.bool (shorterB a b))) := by
  have hS := St.start w μ hμ
  refine calls_start 19 [.slice ada a.length ca, .slice adb b.length cb] Try.func93 rfl Try.ntmps93 rfl rfl ?_
  refine CW.seq fun K31 hK31 => ?_
  refine CW.region [0] rfl ?_
  refine LW.ex rfl rfl rfl rfl (Ex.assign rfl) hS.rd ?_
  refine LW.nil fun aa ha => hK31 _ _ _ ?_ aa ha
  refine CW.seq fun K32 hK32 => ?_
  refine CW.seq fun K33 hK33 => ?_
  refine CW.region [0, 1, 2, 3, 4] rfl ?_
  refine LW.ex rfl rfl rfl rfl (Ex.move rfl) hS.rd ?_
  refine LW.ex rfl rfl rfl rfl (Ex.lenSl rfl Try.underlying68 rfl) hS.rd ?_
  refine LW.ex rfl rfl rfl rfl (Ex.move rfl) hS.rd ?_
  refine LW.ex rfl rfl rfl rfl (Ex.lenSl rfl Try.underlying68 rfl) hS.rd ?_
  refine LW.ex rfl rfl rfl rfl (Ex.neq rfl rfl rfl) hS.rd ?_
  refine LW.splitB (fun h1_4 => ?_) (fun h1_4 => ?_)
  · have h1_4 := of_decide_eq_true h1_4
    refine LW.nil fun aa ha => hK33 _ _ _ ?_ aa ha
    refine CW.yes rfl ?_
    refine CW.seq fun K34 hK34 => ?_
    refine CW.region [0, 1, 2, 3, 4, 5] rfl ?_
    refine LW.ex rfl rfl rfl rfl (Ex.move rfl) hS.rd ?_
    refine LW.ex rfl rfl rfl rfl (Ex.lenSl rfl Try.underlying68 rfl) hS.rd ?_
    refine LW.ex rfl rfl rfl rfl (Ex.move rfl) hS.rd ?_
    refine LW.ex rfl rfl rfl rfl (Ex.lenSl rfl Try.underlying68 rfl) hS.rd ?_
    refine LW.ex rfl rfl rfl rfl (Ex.lss rfl rfl (by first | exact decide_eq_true (by omega) | exact decide_eq_false (by omega) | rfl)) hS.rd ?_
    refine LW.ex rfl rfl rfl rfl (Ex.assign rfl) hS.rd ?_
    refine LW.nil fun aa ha => hK34 _ _ _ ?_ aa ha
    refine CW.ret fun aa ha => ?_
    refine ret_one ha Try.results93 rfl ?_
    refine hS.retB ?_
    unfold shorterB; rw [if_pos (by omega)]
    exact decide_eq_decide.2 (by omega)
  · have h1_4 := of_decide_eq_false h1_4
    refine LW.nil fun aa ha => hK33 _ _ _ ?_ aa ha
    refine CW.no rfl ?_
    refine CW.skip fun aa ha => hK32 _ _ _ ?_ aa ha
    refine CW.seq fun K35 hK35 => ?_
    refine CW.region [0, 1, 2, 3, 4] rfl ?_
    refine LW.ex rfl rfl rfl rfl (Ex.move rfl) hS.rd ?_
    refine LW.ex rfl rfl rfl rfl (Ex.move rfl) hS.rd ?_
    refine LW.hv rfl rfl rfl rfl (Hv.callS hS rfl rfl rfl cb104 (compare_c a b _ _ _ _ μ _ hS.imm hla hlb)) fun v w17 ⟨hv, hS⟩ => ?_
    subst hv
    refine LW.ex rfl rfl rfl rfl (Ex.lss rfl rfl (by first | exact decide_eq_true (by omega) | exact decide_eq_false (by omega) | rfl)) hS.rd ?_
    refine LW.ex rfl rfl rfl rfl (Ex.assign rfl) hS.rd ?_
    refine LW.nil fun aa ha => hK35 _ _ _ ?_ aa ha
    refine CW.ret fun aa ha => ?_
    refine ret_one ha Try.results93 rfl ?_
    refine hS.retB ?_
    unfold shorterB; rw [if_neg (by omega)]
theorem find1_c (M j b6 : Nat) (hM : M < 256) (hj : j ≤ 8) (μ : Mem) (w : World) (hμ : Imm μ w) (hb : μ.cell b6 0 = some (.int .u8 M)) :
    Calls Try.prog 90 #[.int .i64 j, .pointer (some ⟨b6, 0, none⟩)] w (RetS w (.bool (!M.testBit j))) := by
  have hS := St.start w μ hμ
  refine calls_start 8 [.int .i64 j, .pointer (some ⟨b6, 0, none⟩)] Try.func90 rfl Try.ntmps90 rfl rfl ?_
  refine CW.seq fun K36 hK36 => ?_
  refine CW.region [0] rfl ?_
  refine LW.ex rfl rfl rfl rfl (Ex.assign rfl) hS.rd ?_
  refine LW.nil fun aa ha => hK36 _ _ _ ?_ aa ha
  refine CW.seq fun K37 hK37 => ?_
  refine CW.region [0, 1, 2, 3, 4] rfl ?_
  refine LW.ex rfl rfl rfl rfl (Ex.load1 ti128 rfl rfl (by first | exact obT rfl | exact Rd.imm ‹_› | exact slT ‹_›)) hS.rd ?_
  refine LW.ex rfl rfl rfl rfl (Ex.move rfl) hS.rd ?_
  refine LW.hv rfl rfl rfl rfl (Hv.callS hS rfl rfl rfl cb72 (has8_c M j hM hj _)) fun v w6 ⟨hv, hS⟩ => ?_
  subst hv
  refine LW.ex rfl rfl rfl rfl (Ex.not rfl rfl) hS.rd ?_
  refine LW.ex rfl rfl rfl rfl (Ex.assign rfl) hS.rd ?_
  refine LW.nil fun aa ha => hK37 _ _ _ ?_ aa ha
  refine CW.ret fun aa ha => ?_
  refine ret_one ha Try.results90 rfl ?_
  exact hS.retS
theorem find2_c (f j b7 : Nat) (μ : Mem) (w : World) (hμ : Imm μ w) (hb : μ.cell b7 0 = some (.int .i64 f)) :
    Calls Try.prog 92 #[.int .i64 j, .pointer (some ⟨b7, 0, none⟩)] w (RetS w (.bool (decide (j = f)))) := by
  have hS := St.start w μ hμ
  refine calls_start 7 [.int .i64 j, .pointer (some ⟨b7, 0, none⟩)] Try.func92 rfl Try.ntmps92 rfl rfl ?_
  refine CW.seq fun K38 hK38 => ?_
  refine CW.region [0] rfl ?_
  refine LW.ex rfl rfl rfl rfl (Ex.assign rfl) hS.rd ?_
  refine LW.nil fun aa ha => hK38 _ _ _ ?_ aa ha
  refine CW.seq fun K39 hK39 => ?_
  refine CW.region [0, 1, 2, 3] rfl ?_
  refine LW.ex rfl rfl rfl rfl (Ex.move rfl) hS.rd ?_
  refine LW.ex rfl rfl rfl rfl (Ex.load1 ti3 rfl rfl (by first | exact obT rfl | exact Rd.imm ‹_› | exact slT ‹_›)) hS.rd ?_
  refine LW.ex rfl rfl rfl rfl (Ex.eql rfl rfl (by first | exact decide_eq_true (by omega) | exact decide_eq_false (by omega) | rfl)) hS.rd ?_
  refine LW.ex rfl rfl rfl rfl (Ex.assign rfl) hS.rd ?_
  refine LW.nil fun aa ha => hK39 _ _ _ ?_ aa ha
  refine CW.ret fun aa ha => ?_
  refine ret_one ha Try.results92 rfl ?_
  refine hS.retB ?_
  exact decide_eq_decide.2 (by omega)
end Go.Proofs.Ytgbdfgifgngijaa

/-
  Output: chains of rules: what holds while they are searched (plain Lean).
-/
namespace Go.Proofs.Ytgbdfgifgngijaa
open Go.RowKit Sy

def noIn (r : Rule) : Bool := r.In == (⟨#[]⟩ : ByteArray)
def fitR (silent : Bool) (r : Rule) : Bool := !silent || noIn r
/-- Chains of at least one rule. -/
inductive Chn (s : Sch) (silent : Bool) : Nat → Nat → Prop
  | one {a b : Nat} (r : Rule) (hr : r ∈ s.Rules) (hf : r.From = a) (ht : r.To = b) (hs : fitR silent r = true) : Chn s silent a b
  | snoc {a b c : Nat} (h : Chn s silent a b) (r : Rule) (hr : r ∈ s.Rules) (hf : r.From = b) (ht : r.To = c) (hs : fitR silent r = true) : Chn s silent a c
structure VisV where
  md : Nat
  ad : Option Addr
  cp : Nat
  ls : List Int
abbrev visV (v : VisV) : Value := .agg #[.int .i64 v.md, .slice v.ad v.ls.length v.cp]
def cardM (S : Nat) : Nat := ((List.range 8).filter fun j => S.testBit j).length
theorem card_put : ∀ S < 256, ∀ t < 8, S.testBit t = false → cardM (S ||| 2 ^ t) = cardM S + 1 := by decide +kernel
theorem card_le {S : Nat} {N : Nat} (h : ∀ j, S.testBit j = true → j < N) : cardM S ≤ N := by
  unfold cardM
  have h1 : ((List.range 8).filter fun j => S.testBit j).Nodup := List.Pairwise.filter _ List.nodup_range
  have h2 : ∀ (l : List Nat) (N : Nat), l.Nodup → (∀ x ∈ l, x < N) → l.length ≤ N := by
    intro l N
    induction N generalizing l with
    | zero => intro _ hl; cases l with | nil => simp | cons a r => have := hl a (List.mem_cons_self ..); omega
    | succ N ih =>
      intro hn hl
      have h3 := ih (l.erase N) (hn.erase N) (fun x hx => by
        have h4 := hl x (List.mem_of_mem_erase hx)
        have h5 : x ≠ N := fun e => (List.Nodup.not_mem_erase hn) (by rw [e] at hx; exact hx)
        omega)
      rw [List.length_erase] at h3
      split at h3 <;> omega
  exact h2 _ N h1 fun x hx => h x (by simpa using (List.mem_filter.1 hx).2)
theorem put_bit (S t j : Nat) : (S ||| 2 ^ t).testBit j = (S.testBit j || decide (t = j)) := by rw [Nat.testBit_or, Nat.testBit_two_pow]
theorem put_lt {S t : Nat} (h : S < 256) (ht : t < 8) : S ||| 2 ^ t < 256 := Nat.or_lt_two_pow (n := 8) h (Nat.pow_lt_pow_of_lt (a := 2) (by omega) ht)
/-- Where a rule leads is in the set. -/
def Shut (s : Sch) (silent : Bool) (S a : Nat) : Prop := ∀ r ∈ s.Rules, r.From = a → fitR silent r = true → S.testBit r.To.toNat = true
structure SrI (s : Sch) (silent : Bool) (f : Nat) (wn : Nat → Bool) (S : Nat) (qs : List VisV) : Prop where
  s8 : S < 256
  bits : ∀ j, S.testBit j = true → (j : Int) < s.Modes ∧ Chn s silent f j ∧ wn j = false
  qm : ∀ v ∈ qs, (v.md = f ∨ S.testBit v.md = true) ∧ v.ls.length ≤ cardM S
  cl : ∀ a, (a = f ∨ S.testBit a = true) → (∃ v ∈ qs, v.md = a) ∨ Shut s silent S a
  ln : qs.length ≤ cardM S + 1
structure SrJ (s : Sch) (silent : Bool) (f : Nat) (wn : Nat → Bool) (S : Nat) (qs : List VisV) (md : Nat) (n i : Nat) : Prop where
  s8 : S < 256
  bits : ∀ j, S.testBit j = true → (j : Int) < s.Modes ∧ Chn s silent f j ∧ wn j = false
  qm : ∀ v ∈ qs, (v.md = f ∨ S.testBit v.md = true) ∧ v.ls.length ≤ cardM S
  cur : (md = f ∨ S.testBit md = true) ∧ n ≤ cardM S
  cl : ∀ a, (a = f ∨ S.testBit a = true) → (∃ v ∈ qs, v.md = a) ∨ a = md ∨ Shut s silent S a
  dn : ∀ k (h : k < s.Rules.length), k < i → s.Rules[k].From = md → fitR silent s.Rules[k] = true → S.testBit s.Rules[k].To.toNat = true
  ln : qs.length ≤ cardM S
theorem SrI.start (s : Sch) (silent : Bool) (f : Nat) (wn : Nat → Bool) : SrI s silent f wn 0 [⟨f, none, 0, []⟩] :=
  ⟨by omega, fun j h => by simp at h, fun v hv => by obtain rfl := List.mem_singleton.1 hv; exact ⟨.inl rfl, Nat.zero_le _⟩, fun a ha => .inl ⟨_, List.mem_singleton.2 rfl, (ha.resolve_right (by simp)).symm⟩, by simp⟩
theorem SrI.deq {s : Sch} {silent : Bool} {f : Nat} {wn : Nat → Bool} {S : Nat} {v : VisV} {qs : List VisV} (h : SrI s silent f wn S (v :: qs)) : SrJ s silent f wn S qs v.md v.ls.length 0 :=
  ⟨h.s8, h.bits, fun u hu => h.qm u (List.mem_cons_of_mem _ hu), h.qm v (List.mem_cons_self ..), fun a ha => by
    rcases h.cl a ha with ⟨u, hu, e⟩ | h2
    · rcases List.mem_cons.1 hu with rfl | hu
      · exact .inr (.inl e.symm)
      · exact .inl ⟨u, hu, e⟩
    · exact .inr (.inr h2), fun k _ hk => by omega, by have := h.ln; simp at this; exact this⟩
theorem SrJ.skip {s : Sch} {silent : Bool} {f : Nat} {wn : Nat → Bool} {S md n i : Nat} {qs : List VisV} (h : SrJ s silent f wn S qs md n i) (hi : i < s.Rules.length) (hr : s.Rules[i].From = md → fitR silent s.Rules[i] = true → S.testBit s.Rules[i].To.toNat = true) : SrJ s silent f wn S qs md n (i + 1) :=
  ⟨h.s8, h.bits, h.qm, h.cur, h.cl, fun k hk hki => if e : k = i then (by subst e; exact hr) else h.dn k hk (by omega), h.ln⟩
theorem SrJ.chn {s : Sch} {silent : Bool} {f : Nat} {wn : Nat → Bool} {S md n i t : Nat} {qs : List VisV} (h : SrJ s silent f wn S qs md n i) (hi : i < s.Rules.length) (hf : s.Rules[i].From = md) (ht : s.Rules[i].To = t) (hr : fitR silent s.Rules[i] = true) : Chn s silent f t := by
  rcases h.cur.1 with e | e
  · exact .one _ (List.getElem_mem hi) (by rw [hf, e]) ht hr
  · exact .snoc (h.bits md e).2.1 _ (List.getElem_mem hi) hf ht hr
theorem SrJ.put {s : Sch} {silent : Bool} {f : Nat} {wn : Nat → Bool} {S md n i t : Nat} {qs : List VisV} (h : SrJ s silent f wn S qs md n i) (hi : i < s.Rules.length) (hf : s.Rules[i].From = md) (ht : s.Rules[i].To = t) (hr : fitR silent s.Rules[i] = true)
    (ht8 : t < 8) (htm : (t : Int) < s.Modes) (hb : S.testBit t = false) (hw : wn t = false) (v : VisV) (hv : v.md = t) (hn : v.ls.length = n + 1) : SrJ s silent f wn (S ||| 2 ^ t) (qs ++ [v]) md n (i + 1) := by
  have hc := card_put S h.s8 t ht8 hb
  have mono : ∀ j, S.testBit j = true → (S ||| 2 ^ t).testBit j = true := fun j hj => by rw [put_bit, hj]; rfl
  have sh : ∀ a, Shut s silent S a → Shut s silent (S ||| 2 ^ t) a := fun a ha r hr h1 h2 => mono _ (ha r hr h1 h2)
  refine ⟨put_lt h.s8 ht8, fun j hj => ?_, fun u hu => ?_, ⟨h.cur.1.imp id (mono _), by have := h.cur.2; omega⟩, fun a ha => ?_, fun k hk hki => ?_, by rw [List.length_append, hc]; have := h.ln; simp; omega⟩
  · rw [put_bit, Bool.or_eq_true, decide_eq_true_eq] at hj
    rcases hj with hj | rfl
    · exact h.bits j hj
    · exact ⟨htm, h.chn hi hf ht hr, hw⟩
  · rcases List.mem_append.1 hu with hu | hu
    · have := h.qm u hu
      exact ⟨this.1.imp id (mono _), by omega⟩
    · obtain rfl := List.mem_singleton.1 hu
      exact ⟨.inr (by rw [put_bit, hv]; simp), by have := h.cur.2; omega⟩
  · have old : (a = f ∨ S.testBit a = true) → (∃ v_1, v_1 ∈ qs ++ [v] ∧ v_1.md = a) ∨ a = md ∨ Shut s silent (S ||| 2 ^ t) a := fun ha => by
      rcases h.cl a ha with ⟨u, hu, e⟩ | e | e
      · exact .inl ⟨u, List.mem_append_left _ hu, e⟩
      · exact .inr (.inl e)
      · exact .inr (.inr (sh a e))
    rcases ha with ha | ha
    · exact old (.inl ha)
    · rw [put_bit, Bool.or_eq_true, decide_eq_true_eq] at ha
      rcases ha with ha | rfl
      · exact old (.inr ha)
      · exact .inl ⟨v, List.mem_append_right _ (List.mem_singleton.2 rfl), hv⟩
  · by_cases e : k = i
    · subst e
      intro _ _
      rw [ht, Int.toNat_natCast, put_bit]; simp
    · intro h1 h2
      exact mono _ (h.dn k hk (by omega) h1 h2)
theorem SrJ.done {s : Sch} {silent : Bool} {f : Nat} {wn : Nat → Bool} {S md n i : Nat} {qs : List VisV} (h : SrJ s silent f wn S qs md n i) (hi : ¬ i < s.Rules.length) : SrI s silent f wn S qs :=
  ⟨h.s8, h.bits, h.qm, fun a ha => by
    rcases h.cl a ha with e | rfl | e
    · exact .inl e
    · refine .inr fun r hr h1 h2 => ?_
      obtain ⟨k, hk, rfl⟩ := List.getElem_of_mem hr
      exact h.dn k hk (by omega) h1 h2
    · exact .inr e, by have := h.ln; omega⟩
theorem SrI.none {s : Sch} {silent : Bool} {f : Nat} {wn : Nat → Bool} {S : Nat} (h : SrI s silent f wn S []) : ¬ ∃ j, Chn s silent f j ∧ wn j = true := by
  have hsh : ∀ a, (a = f ∨ S.testBit a = true) → Shut s silent S a := fun a ha => (h.cl a ha).resolve_left fun ⟨v, hv, _⟩ => by cases hv
  have hin : ∀ a b, Chn s silent a b → a = f → S.testBit b = true := fun a b hc => by
    induction hc with
    | one r hr hf ht hs =>
      intro e
      have := hsh _ (.inl e) r hr hf hs
      rw [ht, Int.toNat_natCast] at this; exact this
    | snoc _ r hr hf ht hs ih =>
      intro e
      have := hsh _ (.inr (ih e)) r hr hf hs
      rw [ht, Int.toNat_natCast] at this; exact this
  rintro ⟨j, hc, hw⟩
  have := (h.bits j (hin _ _ hc rfl)).2.2
  rw [hw] at this; cases this
theorem SrJ.card {s : Sch} {silent : Bool} {f : Nat} {wn : Nat → Bool} {S md n i : Nat} {qs : List VisV} (hm : 1 ≤ s.Modes) (h : SrJ s silent f wn S qs md n i) : (cardM S : Int) ≤ s.Modes := by
  have : cardM S ≤ s.Modes.toNat := card_le fun j hj => by have := (h.bits j hj).1; omega
  omega
end Go.Proofs.Ytgbdfgifgngijaa

/-
  Output: the walk of flaw.search.
-/
namespace Go.Proofs.Ytgbdfgifgngijaa
open Go.RowKit Sy

def IsSrch (s : Sch) (silent : Bool) (f : Nat) (wn : Nat → Bool) (μ : Mem) (v : Value) : Prop := ∃ ls : List Int, IsSl ls μ v ∧ (ls ≠ [] ↔ ∃ j, Chn s silent f j ∧ wn j = true)
set_option maxRecDepth 100000 in
set_option maxHeartbeats 2000000 in
theorem search_c (s : Sch) (hs : SchOk s) (f : Nat) (hf : f < 8) (silent : Bool) (fn bp : Nat) (wn : Nat → Bool) (hC : Callable Try.prog fn) (a0 : Option Addr) (c0 : Nat) (μ : Mem) (w : World) (hμ : Imm μ w) (h0 : Sl μ a0 c0 s.Rules)
    (hw : ∀ (j : Nat), j < 8 → ∀ w', Imm μ w' → Calls Try.prog fn #[.int .i64 j, .pointer (some ⟨bp, 0, none⟩)] w' (RetS w' (.bool (wn j)))) :
    Calls Try.prog 89 #[.agg #[.int .i64 s.Modes, .int .u8 s.Accept.toNat, .slice a0 s.Rules.length c0], .int .i64 f, .bool silent, .func (.func fn) #[] #[.pointer (some ⟨bp, 0, none⟩)]] w (RetV w μ (IsSrch s silent f wn)) := by
  obtain ⟨N, hN⟩ : ∃ N : Nat, s.Modes = N := ⟨s.Modes.toNat, by have := hs.m1; omega⟩
  have hm1 := hs.m1
  have hm2 := hs.m2
  have hrl := hs.rl
  have hS := St.start w μ hμ
  refine calls_startN 76 [.agg #[.int .i64 s.Modes, .int .u8 s.Accept.toNat, .slice a0 s.Rules.length c0], .int .i64 f, .bool silent, .func (.func fn) #[] #[.pointer (some ⟨bp, 0, none⟩)]] Try.func89 rfl Try.ntmps89 rfl rfl ?_
  refine CN.seq fun K1 hK1 => ?_
  refine CN.region [0, 1] rfl ?_
  refine LW.hv rfl rfl rfl rfl (Hv.boxS hS rfl rfl) fun v w4 ⟨b4, hv, hb4, hS⟩ => ?_
  subst hv
  refine LW.ex rfl rfl rfl rfl (Ex.assign rfl) hS.rd ?_
  refine LW.nil fun aa ha => hK1 _ _ _ ?_ aa ha
  refine CN.seq fun K2 hK2 => ?_
  refine CN.region [0, 1, 2, 3, 4] rfl ?_
  refine LW.ex rfl rfl rfl rfl (Ex.fieldO 0 Try.underlying29 rfl rfl ti3 rfl) hS.rd ?_
  refine LW.ex rfl rfl rfl rfl (Ex.load1 ti3 rfl rfl (by first | exact obT rfl | exact Rd.imm ‹_› | exact slT ‹_›)) hS.rd ?_
  refine LW.ex rfl rfl rfl rfl (Ex.add (r := ((N + 1 : Nat) : Int)) rfl rfl (by rw [Sy.w64 (by omega) (by omega)]; omega)) hS.rd ?_
  refine LW.hv rfl rfl rfl rfl (Hv.makeChan (n := N + 1) Try.underlying163 ti165 hS rfl (by omega) (by unfold maxLen; omega)) fun v w18 ⟨c18, hv, hc18, hS⟩ => ?_
  subst hv
  refine LW.ex rfl rfl rfl rfl (Ex.assign rfl) hS.rd ?_
  refine LW.nil fun aa ha => hK2 _ _ _ ?_ aa ha
  refine CN.seq fun K3 hK3 => ?_
  refine CN.regionS [0, 1, 2, 3] rfl ?_
  refine LS.ex rfl rfl rfl rfl (Ex.move rfl) hS.rd ?_
  refine LS.ex rfl rfl rfl rfl (Ex.move rfl) hS.rd ?_
  refine LS.ex rfl rfl rfl rfl (Ex.buildS st165 rfl rfl rfl) hS.rd ?_
  refine LS.send (k := 0) rfl rfl rfl rfl hS rfl rfl rfl (by show 0 < N + 1; omega) fun w_3 hS => ?_
  dsimp only [List.set] at hS
  refine LS.nil fun aa ha => hK3 _ _ _ ?_ aa ha
  refine CN.seq fun K4 hK4 => ?_
  refine CN.region [0] rfl ?_
  refine LW.ex rfl rfl rfl rfl (Ex.assign rfl) hS.rd ?_
  refine LW.nil fun aa ha => hK4 _ _ _ ?_ aa ha
  refine CN.seq fun K5 hK5 => ?_
  refine CN.block ?_
  have hm0 : Mem.ext w.heap.size μ μ := Mem.ext.refl _ _
  refine CN.loop (fun qq frm wl4 => ∃ (qs : List VisV) (S : Nat) (μL : Mem), qq = 2 * (8 - cardM S) + qs.length ∧ frm = [(2, .bool silent), (3, .func (.func fn) #[] #[.pointer (some ⟨bp, 0, none⟩)]), (4, .pointer (some ⟨b4, 0, none⟩)), (9, .chan (some c18)), (10, .int .u8 S)] ∧ St w wl4 μL [Own.chn c18 (N + 1) (qs.map visV), Own.obj b4 [.int .i64 s.Modes, .int .u8 s.Accept.toNat, .slice a0 s.Rules.length c0] 29] ∧ (SrI s silent f wn S qs) ∧ (∀ v ∈ qs, Sl μL v.ad v.cp v.ls) ∧ (Mem.ext w.heap.size μ μL)) _ ⟨[⟨f, none, 0, []⟩], 0, μ, rfl, rfl, hS, SrI.start s silent f wn, (fun v hv => by obtain rfl := List.mem_singleton.1 hv; exact Sl.nil _ _ _ (by simp [maxLen])), hm0⟩ ⟨rfl, rfl, rfl, rfl, rfl, trivial⟩ ?_
  clear hS
  rintro qq frm wl4 ⟨qs, S, μL, hq, rfl, hS, hI, hlq, hm⟩
  refine CN.seq fun K6 hK6 => ?_
  refine CN.seq fun K7 hK7 => ?_
  refine CN.region [0, 1, 2] rfl ?_
  refine LW.ex rfl rfl rfl rfl (Ex.move rfl) hS.rd ?_
  refine LW.ex rfl rfl rfl rfl (Ex.lenCh (k := 0) rfl Try.underlying163 rfl rfl) hS.rd ?_
  refine LW.ex rfl rfl rfl rfl (Ex.gtr rfl rfl rfl) hS.rd ?_
  refine LW.splitB (fun h4_2 => ?_) (fun h4_2 => ?_)
  · have h4_2 := of_decide_eq_true h4_2
    refine LW.nil fun aa ha => hK7 _ _ _ ?_ aa ha
    refine CN.yes rfl ?_
    refine CN.skip fun aa ha => hK6 _ _ _ ?_ aa ha
    refine CN.block ?_
    refine CN.seq fun K8 hK8 => ?_
    obtain ⟨v, qs, rfl⟩ : ∃ v r, qs = v :: r := by
      cases qs with
      | nil => exact absurd h4_2 (by simp)
      | cons v r => exact ⟨v, r, rfl⟩
    have hJ := hI.deq
    have hq4 := hq
    rw [List.length_cons] at hq4
    have hlv := hlq v (List.mem_cons_self ..)
    have hlr : ∀ u ∈ qs, Sl μL u.ad u.cp u.ls := fun u hu => hlq u (List.mem_cons_of_mem _ hu)
    rw [List.map_cons] at hS
    refine CN.regionS [0, 1, 2, 3] rfl ?_
    refine LS.ex rfl rfl rfl rfl (Ex.move rfl) hS.rd ?_
    refine LS.recv (k := 0) rfl rfl rfl rfl rfl Try.underlying163 ti165 hS rfl rfl fun w26 hS => ?_
    dsimp only [List.set] at hS
    refine LS.hv rfl rfl rfl rfl (Hv.alloc ti165 hS) fun v w11 ⟨b11, hv, hb11, hS⟩ => ?_
    subst hv
    refine LS.hu rfl rfl rfl (Hv.storeN (k := 0) ti165 hS rfl rfl rfl rfl (by simp [Value.oneCell'])) fun _ w_3 hS => ?_
    dsimp only [List.set] at hS
    refine LS.nil fun aa ha => hK8 _ _ _ ?_ aa ha
    refine CN.seq fun K9 hK9 => ?_
    refine CN.region [0, 1, 2, 3] rfl ?_
    refine LW.ex rfl rfl rfl rfl (Ex.fieldO 2 Try.underlying29 rfl rfl ti27 rfl) hS.rd ?_
    refine LW.ex rfl rfl rfl rfl (Ex.load1 ti27 rfl rfl (by first | exact obT rfl | exact Rd.imm ‹_› | exact slT ‹_›)) hS.rd ?_
    refine LW.ex rfl rfl rfl rfl (Ex.lenSl rfl Try.underlying27 rfl) hS.rd ?_
    refine LW.ex rfl rfl rfl rfl (Ex.move rfl) hS.rd ?_
    refine LW.nil fun aa ha => hK9 _ _ _ ?_ aa ha
    refine CN.block ?_
    refine CN.loop (fun qq frm wl7 => ∃ (i : Nat) (qs2 : List VisV) (S2 : Nat) (μM : Mem), i ≤ s.Rules.length ∧ qq = s.Rules.length - i ∧ frm = [(2, .bool silent), (3, .func (.func fn) #[] #[.pointer (some ⟨bp, 0, none⟩)]), (4, .pointer (some ⟨b4, 0, none⟩)), (9, .chan (some c18)), (10, .int .u8 S2), (11, .pointer (some ⟨b11, 0, none⟩)), (28, .slice a0 s.Rules.length c0), (29, .int .i64 s.Rules.length), (30, .int .i64 i)] ∧ St w wl7 μM [Own.obj b11 [.int .i64 v.md, .slice v.ad v.ls.length v.cp] 165, Own.chn c18 (N + 1) (qs2.map visV), Own.obj b4 [.int .i64 s.Modes, .int .u8 s.Accept.toNat, .slice a0 s.Rules.length c0] 29] ∧ (SrJ s silent f wn S2 qs2 v.md v.ls.length i) ∧ (∀ u ∈ qs2, Sl μM u.ad u.cp u.ls) ∧ (Mem.ext w.heap.size μL μM) ∧ (2 * (8 - cardM S2) + qs2.length ≤ 2 * (8 - cardM S) + qs.length)) _ ⟨0, qs, S, μL, (by first | omega | (simp; done) | (simp; omega)), rfl, rfl, hS, hJ, hlr, Mem.ext.refl _ _, Nat.le_refl _⟩ ⟨rfl, rfl, rfl, rfl, rfl, rfl, rfl, rfl, rfl, trivial⟩ ?_
    clear hS
    rintro qq frm wl7 ⟨i, qs2, S2, μM, hi, hq, rfl, hS, hJ2, hlq2, hm2', hme⟩
    refine CN.seq fun K10 hK10 => ?_
    refine CN.region [0] rfl ?_
    refine LW.ex rfl rfl rfl rfl (Ex.lss rfl rfl rfl) hS.rd ?_
    refine LW.splitB (fun h7_0 => ?_) (fun h7_0 => ?_)
    · have h7_0 := of_decide_eq_true h7_0
      refine LW.nil fun aa ha => hK10 _ _ _ ?_ aa ha
      refine CN.seq fun K11 hK11 => ?_
      refine CN.yes rfl ?_
      refine CN.skip fun aa ha => hK11 _ _ _ ?_ aa ha
      refine CN.seq fun K12 hK12 => ?_
      refine CN.block ?_
      refine CN.seq fun K13 hK13 => ?_
      have hi2 : i < s.Rules.length := by omega
      have h0M := (h0.mono hm).mono hm2'
      have hSl := hS
      obtain ⟨bl', ol, rfl, k0, k1, k2, k3, k4⟩ := h0M.at hi2
      have hS := hSl
      have hlvM := hlv.mono hm2'
      have hri := (hs.ru i hi2).1
      obtain ⟨rf, rt, hrf, hrt, hf8, ht8, _, htm⟩ := rightN hri hm2
      rw [hrf] at k0
      rw [hrt] at k1
      have hS2 := hJ2.s8
      have hcd := hJ2.card hm1
      have hcur := hJ2.cur.2
      refine CN.region [0, 1, 2, 3, 4, 5] rfl ?_
      refine LW.ex rfl rfl rfl rfl (Ex.move rfl) hS.rd ?_
      refine LW.ex rfl rfl rfl rfl (Ex.indexSl Try.underlying27 ti58 rfl rfl rfl (by omega)) hS.rd ?_
      refine LW.ex rfl rfl rfl rfl (Ex.load5c ti58 rfl rfl (by first | exact obT rfl | exact Rd.imm ‹_› | exact slT ‹_›) (by first | exact obT rfl | exact Rd.imm ‹_› | exact slT ‹_›) (by first | exact obT rfl | exact Rd.imm ‹_› | exact slT ‹_›) (by first | exact obT rfl | exact Rd.imm ‹_› | exact slT ‹_›) (by first | exact obT rfl | exact Rd.imm ‹_› | exact slT ‹_›)) hS.rd ?_
      refine LW.hv rfl rfl rfl rfl (Hv.alloc ti58 hS) fun v w13 ⟨b13, hv, hb13, hS⟩ => ?_
      subst hv
      refine LW.ex rfl rfl rfl rfl (Ex.assign rfl) hS.rd ?_
      refine LW.hu rfl rfl rfl (Hv.storeN (k := 0) ti58 hS rfl rfl rfl rfl (by simp [Value.oneCell'])) fun _ w_5 hS => ?_
      dsimp only [List.set] at hS
      refine LW.nil fun aa ha => hK13 _ _ _ ?_ aa ha
      refine CN.seq fun K14 hK14 => ?_
      refine CN.seq fun K15 hK15 => ?_
      refine CN.region [0, 1, 2, 3, 4, 5, 6, 7, 8, 9, 10, 11, 12, 13, 14, 15, 16, 17, 18] rfl ?_
      refine LW.ex rfl rfl rfl rfl (Ex.fieldO 0 Try.underlying58 rfl rfl ti3 rfl) hS.rd ?_
      refine LW.ex rfl rfl rfl rfl (Ex.load1 ti3 rfl rfl (by first | exact obT rfl | exact Rd.imm ‹_› | exact slT ‹_›)) hS.rd ?_
      refine LW.ex rfl rfl rfl rfl (Ex.fieldO 0 Try.underlying165 rfl rfl ti3 rfl) hS.rd ?_
      refine LW.ex rfl rfl rfl rfl (Ex.load1 ti3 rfl rfl (by first | exact obT rfl | exact Rd.imm ‹_› | exact slT ‹_›)) hS.rd ?_
      refine LW.ex rfl rfl rfl rfl (Ex.neq rfl rfl rfl) hS.rd ?_
      refine LW.splitB (fun h9_4 => ?_) (fun h9_4 => ?_)
      · have h9_4 := of_decide_eq_true h9_4
        refine LW.ex rfl rfl rfl rfl (Ex.move rfl) hS.rd ?_
        refine LW.skip rfl rfl rfl rfl ?_
        refine LW.skip rfl rfl rfl rfl ?_
        refine LW.skip rfl rfl rfl rfl ?_
        refine LW.skip rfl rfl rfl rfl ?_
        refine LW.skip rfl rfl rfl rfl ?_
        refine LW.skip rfl rfl rfl rfl ?_
        refine LW.ex rfl rfl rfl rfl (by first | exact Ex.pick_yes rfl rfl | exact Ex.pick_no rfl rfl) hS.rd ?_
        refine LW.ex rfl rfl rfl rfl (Ex.move rfl) hS.rd ?_
        refine LW.skip rfl rfl rfl rfl ?_
        refine LW.skip rfl rfl rfl rfl ?_
        refine LW.skip rfl rfl rfl rfl ?_
        refine LW.skip rfl rfl rfl rfl ?_
        refine LW.ex rfl rfl rfl rfl (by first | exact Ex.pick_yes rfl rfl | exact Ex.pick_no rfl rfl) hS.rd ?_
        refine LW.nil fun aa ha => hK15 _ _ _ ?_ aa ha
        refine CN.yes rfl ?_
        refine CN.exit fun aa ha => hK12 _ _ _ ?_ aa ha
        refine CN.region [0, 1] rfl ?_
        refine LW.ex rfl rfl rfl rfl (Ex.add rfl rfl (by first | exact inc64 (by omega) | exact addN (by omega) | exact w64 (by omega) (by omega))) hS.rd ?_
        refine LW.ex rfl rfl rfl rfl (Ex.move rfl) hS.rd ?_
        refine LW.nil fun aa ha => ?_
        have hS := hS.drop 0 rfl
        dsimp only [List.eraseIdx] at hS
        refine ⟨_, _, ?m7, ⟨i + 1, qs2, S2, μM, (by first | omega | (simp; done) | (simp; omega)), rfl, rfl, hS, hJ2.skip hi2 (fun h1 _ => absurd h1 (by rw [hrf]; omega)), hlq2, hm2', hme⟩, ha.sub ⟨rfl, rfl, rfl, rfl, rfl, rfl, rfl, rfl, rfl, trivial⟩⟩
        case m7 => omega
      · have h9_4 := of_decide_eq_false h9_4
        refine LW.ex rfl rfl rfl rfl (Ex.move rfl) hS.rd ?_
        refine LW.ex rfl rfl rfl rfl (Ex.move rfl) hS.rd ?_
        refine LW.splitB (fun h9_6 => ?_) (fun h9_6 => ?_)
        · skip
          refine LW.ex rfl rfl rfl rfl (Ex.move rfl) hS.rd ?_
          refine LW.ex rfl rfl rfl rfl (Ex.fieldO 2 Try.underlying58 rfl rfl ti9 rfl) hS.rd ?_
          refine LW.ex rfl rfl rfl rfl (Ex.load1 ti9 rfl rfl (by first | exact obT rfl | exact Rd.imm ‹_› | exact slT ‹_›)) hS.rd ?_
          refine LW.ex rfl rfl rfl rfl (Ex.neqS rfl rfl rfl) hS.rd ?_
          refine LW.splitB (fun h9_10 => ?_) (fun h9_10 => ?_)
          · skip
            refine LW.ex rfl rfl rfl rfl (by first | exact Ex.pick_yes rfl rfl | exact Ex.pick_no rfl rfl) hS.rd ?_
            refine LW.ex rfl rfl rfl rfl (by first | exact Ex.pick_yes rfl rfl | exact Ex.pick_no rfl rfl) hS.rd ?_
            refine LW.ex rfl rfl rfl rfl (Ex.move rfl) hS.rd ?_
            refine LW.skip rfl rfl rfl rfl ?_
            refine LW.skip rfl rfl rfl rfl ?_
            refine LW.skip rfl rfl rfl rfl ?_
            refine LW.skip rfl rfl rfl rfl ?_
            refine LW.ex rfl rfl rfl rfl (by first | exact Ex.pick_yes rfl rfl | exact Ex.pick_no rfl rfl) hS.rd ?_
            refine LW.nil fun aa ha => hK15 _ _ _ ?_ aa ha
            refine CN.yes rfl ?_
            refine CN.exit fun aa ha => hK12 _ _ _ ?_ aa ha
            refine CN.region [0, 1] rfl ?_
            refine LW.ex rfl rfl rfl rfl (Ex.add rfl rfl (by first | exact inc64 (by omega) | exact addN (by omega) | exact w64 (by omega) (by omega))) hS.rd ?_
            refine LW.ex rfl rfl rfl rfl (Ex.move rfl) hS.rd ?_
            refine LW.nil fun aa ha => ?_
            have hS := hS.drop 0 rfl
            dsimp only [List.eraseIdx] at hS
            refine ⟨_, _, ?m7, ⟨i + 1, qs2, S2, μM, (by first | omega | (simp; done) | (simp; omega)), rfl, rfl, hS, hJ2.skip hi2 (fun _ h2 => by unfold fitR noIn at h2; rw [h9_6] at h2; simp only [bne, Bool.not_eq_true'] at h9_10; rw [h9_10] at h2; cases h2), hlq2, hm2', hme⟩, ha.sub ⟨rfl, rfl, rfl, rfl, rfl, rfl, rfl, rfl, rfl, trivial⟩⟩
            case m7 => omega
          · skip
            refine LW.ex rfl rfl rfl rfl (by first | exact Ex.pick_yes rfl rfl | exact Ex.pick_no rfl rfl) hS.rd ?_
            refine LW.ex rfl rfl rfl rfl (by first | exact Ex.pick_yes rfl rfl | exact Ex.pick_no rfl rfl) hS.rd ?_
            refine LW.ex rfl rfl rfl rfl (Ex.move rfl) hS.rd ?_
            refine LW.ex rfl rfl rfl rfl (Ex.move rfl) hS.rd ?_
            refine LW.ex rfl rfl rfl rfl (Ex.fieldO 1 Try.underlying58 rfl rfl ti3 rfl) hS.rd ?_
            refine LW.ex rfl rfl rfl rfl (Ex.load1 ti3 rfl rfl (by first | exact obT rfl | exact Rd.imm ‹_› | exact slT ‹_›)) hS.rd ?_
            refine LW.hv rfl rfl rfl rfl (Hv.callS hS rfl rfl rfl cb72 (has8_c S2 rt hS2 (by omega) _)) fun v w52 ⟨hv, hS⟩ => ?_
            subst hv
            refine LW.splitB (fun h9_17 => ?_) (fun h9_17 => ?_)
            · skip
              refine LW.ex rfl rfl rfl rfl (by first | exact Ex.pick_yes rfl rfl | exact Ex.pick_no rfl rfl) hS.rd ?_
              refine LW.nil fun aa ha => hK15 _ _ _ ?_ aa ha
              refine CN.yes rfl ?_
              refine CN.exit fun aa ha => hK12 _ _ _ ?_ aa ha
              refine CN.region [0, 1] rfl ?_
              refine LW.ex rfl rfl rfl rfl (Ex.add rfl rfl (by first | exact inc64 (by omega) | exact addN (by omega) | exact w64 (by omega) (by omega))) hS.rd ?_
              refine LW.ex rfl rfl rfl rfl (Ex.move rfl) hS.rd ?_
              refine LW.nil fun aa ha => ?_
              have hS := hS.drop 0 rfl
              dsimp only [List.eraseIdx] at hS
              refine ⟨_, _, ?m7, ⟨i + 1, qs2, S2, μM, (by first | omega | (simp; done) | (simp; omega)), rfl, rfl, hS, hJ2.skip hi2 (fun _ _ => by rw [hrt, Int.toNat_natCast]; exact h9_17), hlq2, hm2', hme⟩, ha.sub ⟨rfl, rfl, rfl, rfl, rfl, rfl, rfl, rfl, rfl, trivial⟩⟩
              case m7 => omega
            · have hfit : fitR silent s.Rules[i] = true := by unfold fitR noIn; first | (rw [h9_6]; rfl) | (simp only [bne, Bool.not_eq_false'] at h9_10; rw [h9_6, h9_10]; rfl)
              have hfm : s.Rules[i].From = v.md := by rw [hrf]; omega
              have hcp := card_put S2 hS2 rt ht8 h9_17
              refine LW.ex rfl rfl rfl rfl (by first | exact Ex.pick_yes rfl rfl | exact Ex.pick_no rfl rfl) hS.rd ?_
              refine LW.nil fun aa ha => hK15 _ _ _ ?_ aa ha
              refine CN.no rfl ?_
              refine CN.skip fun aa ha => hK14 _ _ _ ?_ aa ha
              refine CN.seq fun K16 hK16 => ?_
              refine CN.region [0, 1, 2, 3, 4, 5] rfl ?_
              refine LW.ex rfl rfl rfl rfl (Ex.move rfl) hS.rd ?_
              refine LW.ex rfl rfl rfl rfl (Ex.fieldO 1 Try.underlying58 rfl rfl ti3 rfl) hS.rd ?_
              refine LW.ex rfl rfl rfl rfl (Ex.load1 ti3 rfl rfl (by first | exact obT rfl | exact Rd.imm ‹_› | exact slT ‹_›)) hS.rd ?_
              refine LW.ex rfl rfl rfl rfl (shl8 rfl rfl ht8) hS.rd ?_
              refine LW.ex rfl rfl rfl rfl (or8 rfl rfl hS2 (Nat.pow_lt_pow_of_lt (a := 2) (by omega) (m := 8) ht8)) hS.rd ?_
              refine LW.ex rfl rfl rfl rfl (Ex.assign rfl) hS.rd ?_
              refine LW.nil fun aa ha => hK16 _ _ _ ?_ aa ha
              refine CN.seq fun K17 hK17 => ?_
              refine CN.region [0, 1, 2, 3, 4, 5, 6] rfl ?_
              refine LW.ex rfl rfl rfl rfl (Ex.fieldO 1 Try.underlying165 rfl rfl ti68 rfl) hS.rd ?_
              refine LW.ex rfl rfl rfl rfl (Ex.load1 ti68 rfl rfl (by first | exact obT rfl | exact Rd.imm ‹_› | exact slT ‹_›)) hS.rd ?_
              refine LW.hv rfl rfl rfl rfl (Hv.callM rfl rfl rfl cb103 (cloneI_c v.ls hS hlvM (by omega))) fun v w61 ⟨ad61, c61, hv, hS⟩ => ?_
              subst hv
              refine LW.ex rfl rfl rfl rfl (Ex.move rfl) hS.rd ?_
              refine LW.hv rfl rfl rfl rfl (Hv.buildSl hS Try.underlying68 ti3 rfl rfl rfl rfl rfl rfl) fun v w63 ⟨b63, hv, hb63, hS⟩ => ?_
              subst hv
              refine LW.hv rfl rfl rfl rfl (Hv.append (k := 1) rfl Try.underlying68 ti3 rfl hS rfl rfl rfl rfl (Rd.objAll (k := 0) rfl hS.rd) (by simp [Value.oneCell']) (by unfold maxLen; omega) (by omega)) fun v w64 ⟨ad64, c64, hv, hS⟩ => ?_
              subst hv
              dsimp only [List.set] at hS
              have hS := hS.drop 0 rfl
              dsimp only [List.eraseIdx] at hS
              rw [show (v.ls.map fun z => Value.int .i64 z) ++ [Value.int .i64 i] = (v.ls ++ [(i : Int)]).map fun z => Value.int .i64 z by rw [List.map_append]; rfl] at hS
              obtain ⟨bs, μ3, hm3, hS, hφ⟩ := hS.shut 0 rfl
              dsimp only [List.eraseIdx] at hS
              have hlc : Sl μ3 ad64 c64 (v.ls ++ [(i : Int)]) := Sl.of_own hφ (RepL.ints _ _) (by simp)
              refine LW.ex rfl rfl rfl rfl (Ex.assign rfl) hS.rd ?_
              refine LW.nil fun aa ha => hK17 _ _ _ ?_ aa ha
              refine CN.seq fun K18 hK18 => ?_
              refine CN.seq fun K19 hK19 => ?_
              rw [show v.ls.length + 1 = (v.ls ++ [(i : Int)]).length by simp]
              refine CN.region [0, 1, 2, 3] rfl ?_
              refine LW.ex rfl rfl rfl rfl (Ex.move rfl) hS.rd ?_
              refine LW.ex rfl rfl rfl rfl (Ex.fieldO 1 Try.underlying58 rfl rfl ti3 rfl) hS.rd ?_
              refine LW.ex rfl rfl rfl rfl (Ex.load1 ti3 rfl rfl (by first | exact obT rfl | exact Rd.imm ‹_› | exact slT ‹_›)) hS.rd ?_
              refine LW.hv rfl rfl rfl rfl (Hv.callS hS rfl rfl rfl hC (hw rt ht8 _ (fun b o e => hS.imm b o ((hm.trans (hm2'.trans hm3)).le b o e)))) fun v w68 ⟨hv, hS⟩ => ?_
              subst hv
              refine LW.splitB (fun h12_3 => ?_) (fun h12_3 => ?_)
              · skip
                refine LW.nil fun aa ha => hK19 _ _ _ ?_ aa ha
                refine CN.yes rfl ?_
                refine CN.seq fun K20 hK20 => ?_
                refine CN.region [0, 1] rfl ?_
                refine LW.ex rfl rfl rfl rfl (Ex.move rfl) hS.rd ?_
                refine LW.ex rfl rfl rfl rfl (Ex.assign rfl) hS.rd ?_
                refine LW.nil fun aa ha => hK20 _ _ _ ?_ aa ha
                refine CN.ret fun aa ha => ?_
                refine ret_one ha Try.results89 rfl ?_
                exact ⟨_, μ3, rfl, hS.below, hm.trans (hm2'.trans hm3), hS.imm, v.ls ++ [(i : Int)], ⟨ad64, c64, rfl, hlc⟩, ⟨fun _ => ⟨rt, hJ2.chn hi2 hfm hrt hfit, h12_3⟩, fun _ => by simp⟩⟩
              · skip
                refine LW.nil fun aa ha => hK19 _ _ _ ?_ aa ha
                refine CN.no rfl ?_
                refine CN.skip fun aa ha => hK18 _ _ _ ?_ aa ha
                have hJ3 := hJ2.put hi2 hfm hrt hfit ht8 (by omega) h9_17 h12_3 (⟨rt, ad64, c64, v.ls ++ [(i : Int)]⟩ : VisV) rfl (by simp)
                have hcd3 := hJ3.card hm1
                rw [hcp] at hcd3
                refine CN.regionS [0, 1, 2, 3, 4, 5] rfl ?_
                refine LS.ex rfl rfl rfl rfl (Ex.move rfl) hS.rd ?_
                refine LS.ex rfl rfl rfl rfl (Ex.fieldO 1 Try.underlying58 rfl rfl ti3 rfl) hS.rd ?_
                refine LS.ex rfl rfl rfl rfl (Ex.load1 ti3 rfl rfl (by first | exact obT rfl | exact Rd.imm ‹_› | exact slT ‹_›)) hS.rd ?_
                refine LS.ex rfl rfl rfl rfl (Ex.move rfl) hS.rd ?_
                refine LS.ex rfl rfl rfl rfl (Ex.buildS st165 rfl rfl rfl) hS.rd ?_
                refine LS.send (k := 2) rfl rfl rfl rfl hS rfl rfl rfl (by rw [List.length_map]; have := hJ2.ln; omega) fun w_5 hS => ?_
                dsimp only [List.set] at hS
                rw [show qs2.map visV ++ [Value.agg #[.int .i64 rt, .slice ad64 (v.ls ++ [(i : Int)]).length c64]] = (qs2 ++ [(⟨rt, ad64, c64, v.ls ++ [(i : Int)]⟩ : VisV)]).map visV by rw [List.map_append]; rfl] at hS
                refine LS.nil fun aa ha => hK12 _ _ _ ?_ aa ha
                refine CN.region [0, 1] rfl ?_
                refine LW.ex rfl rfl rfl rfl (Ex.add rfl rfl (by first | exact inc64 (by omega) | exact addN (by omega) | exact w64 (by omega) (by omega))) hS.rd ?_
                refine LW.ex rfl rfl rfl rfl (Ex.move rfl) hS.rd ?_
                refine LW.nil fun aa ha => ?_
                have hS := hS.drop 0 rfl
                dsimp only [List.eraseIdx] at hS
                refine ⟨_, _, ?m7, ⟨i + 1, qs2 ++ [(⟨rt, ad64, c64, v.ls ++ [(i : Int)]⟩ : VisV)], S2 ||| 2 ^ rt, μ3, (by first | omega | (simp; done) | (simp; omega)), rfl, rfl, hS, hJ3, fun u hu => (List.mem_append.1 hu).elim (fun h => (hlq2 u h).mono hm3) fun h => by obtain rfl := List.mem_singleton.1 h; exact hlc, hm2'.trans hm3, by rw [hcp, List.length_append, List.length_singleton]; omega⟩, ha.sub ⟨rfl, rfl, rfl, rfl, rfl, rfl, rfl, rfl, rfl, trivial⟩⟩
                case m7 => omega
        · skip
          refine LW.ex rfl rfl rfl rfl (Ex.move rfl) hS.rd ?_
          refine LW.skip rfl rfl rfl rfl ?_
          refine LW.skip rfl rfl rfl rfl ?_
          refine LW.skip rfl rfl rfl rfl ?_
          refine LW.ex rfl rfl rfl rfl (by first | exact Ex.pick_yes rfl rfl | exact Ex.pick_no rfl rfl) hS.rd ?_
          refine LW.ex rfl rfl rfl rfl (by first | exact Ex.pick_yes rfl rfl | exact Ex.pick_no rfl rfl) hS.rd ?_
          refine LW.ex rfl rfl rfl rfl (Ex.move rfl) hS.rd ?_
          refine LW.ex rfl rfl rfl rfl (Ex.move rfl) hS.rd ?_
          refine LW.ex rfl rfl rfl rfl (Ex.fieldO 1 Try.underlying58 rfl rfl ti3 rfl) hS.rd ?_
          refine LW.ex rfl rfl rfl rfl (Ex.load1 ti3 rfl rfl (by first | exact obT rfl | exact Rd.imm ‹_› | exact slT ‹_›)) hS.rd ?_
          refine LW.hv rfl rfl rfl rfl (Hv.callS hS rfl rfl rfl cb72 (has8_c S2 rt hS2 (by omega) _)) fun v w52 ⟨hv, hS⟩ => ?_
          subst hv
          refine LW.splitB (fun h9_17 => ?_) (fun h9_17 => ?_)
          · skip
            refine LW.ex rfl rfl rfl rfl (by first | exact Ex.pick_yes rfl rfl | exact Ex.pick_no rfl rfl) hS.rd ?_
            refine LW.nil fun aa ha => hK15 _ _ _ ?_ aa ha
            refine CN.yes rfl ?_
            refine CN.exit fun aa ha => hK12 _ _ _ ?_ aa ha
            refine CN.region [0, 1] rfl ?_
            refine LW.ex rfl rfl rfl rfl (Ex.add rfl rfl (by first | exact inc64 (by omega) | exact addN (by omega) | exact w64 (by omega) (by omega))) hS.rd ?_
            refine LW.ex rfl rfl rfl rfl (Ex.move rfl) hS.rd ?_
            refine LW.nil fun aa ha => ?_
            have hS := hS.drop 0 rfl
            dsimp only [List.eraseIdx] at hS
            refine ⟨_, _, ?m7, ⟨i + 1, qs2, S2, μM, (by first | omega | (simp; done) | (simp; omega)), rfl, rfl, hS, hJ2.skip hi2 (fun _ _ => by rw [hrt, Int.toNat_natCast]; exact h9_17), hlq2, hm2', hme⟩, ha.sub ⟨rfl, rfl, rfl, rfl, rfl, rfl, rfl, rfl, rfl, trivial⟩⟩
            case m7 => omega
          · have hfit : fitR silent s.Rules[i] = true := by unfold fitR noIn; first | (rw [h9_6]; rfl) | (simp only [bne, Bool.not_eq_false'] at h9_10; rw [h9_6, h9_10]; rfl)
            have hfm : s.Rules[i].From = v.md := by rw [hrf]; omega
            have hcp := card_put S2 hS2 rt ht8 h9_17
            refine LW.ex rfl rfl rfl rfl (by first | exact Ex.pick_yes rfl rfl | exact Ex.pick_no rfl rfl) hS.rd ?_
            refine LW.nil fun aa ha => hK15 _ _ _ ?_ aa ha
            refine CN.no rfl ?_
            refine CN.skip fun aa ha => hK14 _ _ _ ?_ aa ha
            refine CN.seq fun K21 hK21 => ?_
            refine CN.region [0, 1, 2, 3, 4, 5] rfl ?_
            refine LW.ex rfl rfl rfl rfl (Ex.move rfl) hS.rd ?_
            refine LW.ex rfl rfl rfl rfl (Ex.fieldO 1 Try.underlying58 rfl rfl ti3 rfl) hS.rd ?_
            refine LW.ex rfl rfl rfl rfl (Ex.load1 ti3 rfl rfl (by first | exact obT rfl | exact Rd.imm ‹_› | exact slT ‹_›)) hS.rd ?_
            refine LW.ex rfl rfl rfl rfl (shl8 rfl rfl ht8) hS.rd ?_
            refine LW.ex rfl rfl rfl rfl (or8 rfl rfl hS2 (Nat.pow_lt_pow_of_lt (a := 2) (by omega) (m := 8) ht8)) hS.rd ?_
            refine LW.ex rfl rfl rfl rfl (Ex.assign rfl) hS.rd ?_
            refine LW.nil fun aa ha => hK21 _ _ _ ?_ aa ha
            refine CN.seq fun K22 hK22 => ?_
            refine CN.region [0, 1, 2, 3, 4, 5, 6] rfl ?_
            refine LW.ex rfl rfl rfl rfl (Ex.fieldO 1 Try.underlying165 rfl rfl ti68 rfl) hS.rd ?_
            refine LW.ex rfl rfl rfl rfl (Ex.load1 ti68 rfl rfl (by first | exact obT rfl | exact Rd.imm ‹_› | exact slT ‹_›)) hS.rd ?_
            refine LW.hv rfl rfl rfl rfl (Hv.callM rfl rfl rfl cb103 (cloneI_c v.ls hS hlvM (by omega))) fun v w61 ⟨ad61, c61, hv, hS⟩ => ?_
            subst hv
            refine LW.ex rfl rfl rfl rfl (Ex.move rfl) hS.rd ?_
            refine LW.hv rfl rfl rfl rfl (Hv.buildSl hS Try.underlying68 ti3 rfl rfl rfl rfl rfl rfl) fun v w63 ⟨b63, hv, hb63, hS⟩ => ?_
            subst hv
            refine LW.hv rfl rfl rfl rfl (Hv.append (k := 1) rfl Try.underlying68 ti3 rfl hS rfl rfl rfl rfl (Rd.objAll (k := 0) rfl hS.rd) (by simp [Value.oneCell']) (by unfold maxLen; omega) (by omega)) fun v w64 ⟨ad64, c64, hv, hS⟩ => ?_
            subst hv
            dsimp only [List.set] at hS
            have hS := hS.drop 0 rfl
            dsimp only [List.eraseIdx] at hS
            rw [show (v.ls.map fun z => Value.int .i64 z) ++ [Value.int .i64 i] = (v.ls ++ [(i : Int)]).map fun z => Value.int .i64 z by rw [List.map_append]; rfl] at hS
            obtain ⟨bs, μ3, hm3, hS, hφ⟩ := hS.shut 0 rfl
            dsimp only [List.eraseIdx] at hS
            have hlc : Sl μ3 ad64 c64 (v.ls ++ [(i : Int)]) := Sl.of_own hφ (RepL.ints _ _) (by simp)
            refine LW.ex rfl rfl rfl rfl (Ex.assign rfl) hS.rd ?_
            refine LW.nil fun aa ha => hK22 _ _ _ ?_ aa ha
            refine CN.seq fun K23 hK23 => ?_
            refine CN.seq fun K24 hK24 => ?_
            rw [show v.ls.length + 1 = (v.ls ++ [(i : Int)]).length by simp]
            refine CN.region [0, 1, 2, 3] rfl ?_
            refine LW.ex rfl rfl rfl rfl (Ex.move rfl) hS.rd ?_
            refine LW.ex rfl rfl rfl rfl (Ex.fieldO 1 Try.underlying58 rfl rfl ti3 rfl) hS.rd ?_
            refine LW.ex rfl rfl rfl rfl (Ex.load1 ti3 rfl rfl (by first | exact obT rfl | exact Rd.imm ‹_› | exact slT ‹_›)) hS.rd ?_
            refine LW.hv rfl rfl rfl rfl (Hv.callS hS rfl rfl rfl hC (hw rt ht8 _ (fun b o e => hS.imm b o ((hm.trans (hm2'.trans hm3)).le b o e)))) fun v w68 ⟨hv, hS⟩ => ?_
            subst hv
            refine LW.splitB (fun h12_3 => ?_) (fun h12_3 => ?_)
            · skip
              refine LW.nil fun aa ha => hK24 _ _ _ ?_ aa ha
              refine CN.yes rfl ?_
              refine CN.seq fun K25 hK25 => ?_
              refine CN.region [0, 1] rfl ?_
              refine LW.ex rfl rfl rfl rfl (Ex.move rfl) hS.rd ?_
              refine LW.ex rfl rfl rfl rfl (Ex.assign rfl) hS.rd ?_
              refine LW.nil fun aa ha => hK25 _ _ _ ?_ aa ha
              refine CN.ret fun aa ha => ?_
              refine ret_one ha Try.results89 rfl ?_
              exact ⟨_, μ3, rfl, hS.below, hm.trans (hm2'.trans hm3), hS.imm, v.ls ++ [(i : Int)], ⟨ad64, c64, rfl, hlc⟩, ⟨fun _ => ⟨rt, hJ2.chn hi2 hfm hrt hfit, h12_3⟩, fun _ => by simp⟩⟩
            · skip
              refine LW.nil fun aa ha => hK24 _ _ _ ?_ aa ha
              refine CN.no rfl ?_
              refine CN.skip fun aa ha => hK23 _ _ _ ?_ aa ha
              have hJ3 := hJ2.put hi2 hfm hrt hfit ht8 (by omega) h9_17 h12_3 (⟨rt, ad64, c64, v.ls ++ [(i : Int)]⟩ : VisV) rfl (by simp)
              have hcd3 := hJ3.card hm1
              rw [hcp] at hcd3
              refine CN.regionS [0, 1, 2, 3, 4, 5] rfl ?_
              refine LS.ex rfl rfl rfl rfl (Ex.move rfl) hS.rd ?_
              refine LS.ex rfl rfl rfl rfl (Ex.fieldO 1 Try.underlying58 rfl rfl ti3 rfl) hS.rd ?_
              refine LS.ex rfl rfl rfl rfl (Ex.load1 ti3 rfl rfl (by first | exact obT rfl | exact Rd.imm ‹_› | exact slT ‹_›)) hS.rd ?_
              refine LS.ex rfl rfl rfl rfl (Ex.move rfl) hS.rd ?_
              refine LS.ex rfl rfl rfl rfl (Ex.buildS st165 rfl rfl rfl) hS.rd ?_
              refine LS.send (k := 2) rfl rfl rfl rfl hS rfl rfl rfl (by rw [List.length_map]; have := hJ2.ln; omega) fun w_5 hS => ?_
              dsimp only [List.set] at hS
              rw [show qs2.map visV ++ [Value.agg #[.int .i64 rt, .slice ad64 (v.ls ++ [(i : Int)]).length c64]] = (qs2 ++ [(⟨rt, ad64, c64, v.ls ++ [(i : Int)]⟩ : VisV)]).map visV by rw [List.map_append]; rfl] at hS
              refine LS.nil fun aa ha => hK12 _ _ _ ?_ aa ha
              refine CN.region [0, 1] rfl ?_
              refine LW.ex rfl rfl rfl rfl (Ex.add rfl rfl (by first | exact inc64 (by omega) | exact addN (by omega) | exact w64 (by omega) (by omega))) hS.rd ?_
              refine LW.ex rfl rfl rfl rfl (Ex.move rfl) hS.rd ?_
              refine LW.nil fun aa ha => ?_
              have hS := hS.drop 0 rfl
              dsimp only [List.eraseIdx] at hS
              refine ⟨_, _, ?m7, ⟨i + 1, qs2 ++ [(⟨rt, ad64, c64, v.ls ++ [(i : Int)]⟩ : VisV)], S2 ||| 2 ^ rt, μ3, (by first | omega | (simp; done) | (simp; omega)), rfl, rfl, hS, hJ3, fun u hu => (List.mem_append.1 hu).elim (fun h => (hlq2 u h).mono hm3) fun h => by obtain rfl := List.mem_singleton.1 h; exact hlc, hm2'.trans hm3, by rw [hcp, List.length_append, List.length_singleton]; omega⟩, ha.sub ⟨rfl, rfl, rfl, rfl, rfl, rfl, rfl, rfl, rfl, trivial⟩⟩
              case m7 => omega
    · have h7_0 := of_decide_eq_false h7_0
      refine LW.nil fun aa ha => hK10 _ _ _ ?_ aa ha
      refine CN.seq fun K26 hK26 => ?_
      refine CN.no rfl ?_
      refine CN.exit fun aa ha => ?_
      have hS := hS.drop 0 rfl
      dsimp only [List.eraseIdx] at hS
      refine ⟨_, _, ?m4, ⟨qs2, S2, μM, rfl, rfl, hS, hJ2.done (by omega), hlq2, hm.trans hm2'⟩, ha.sub ⟨rfl, rfl, rfl, rfl, rfl, trivial⟩⟩
      case m4 => omega
  · have h4_2 := of_decide_eq_false h4_2
    refine LW.nil fun aa ha => hK7 _ _ _ ?_ aa ha
    refine CN.no rfl ?_
    refine CN.exit fun aa ha => hK5 _ _ _ ?_ aa ha
    refine CN.seq fun K27 hK27 => ?_
    refine CN.region [0] rfl ?_
    refine LW.ex rfl rfl rfl rfl (Ex.assign rfl) hS.rd ?_
    refine LW.nil fun aa ha => hK27 _ _ _ ?_ aa ha
    refine CN.ret fun aa ha => ?_
    refine ret_one ha Try.results89 rfl ?_
    have hqe : qs = [] := by
      cases qs with
      | nil => rfl
      | cons v r => exact absurd h4_2 (by simp)
    subst hqe
    exact ⟨_, μL, rfl, hS.below, hm, hS.imm, [], ⟨none, 0, rfl, Sl.nil _ _ _ (by simp [maxLen])⟩, ⟨fun h => absurd rfl h, fun h => absurd h hI.none⟩⟩
end Go.Proofs.Ytgbdfgifgngijaa

/-
  Output: the walks of flaw.Find and flaw.Sound.
-/
namespace Go.Proofs.Ytgbdfgifgngijaa
open Go.RowKit Sy

theorem SchOk.small {s : Sch} (hs : SchOk s) : SSmall s := fun r hr => by
  obtain ⟨i, hi, rfl⟩ := List.getElem_of_mem hr
  have h := (hs.ru i hi).1
  unfold rightB at h
  simp only [Bool.and_eq_true, decide_eq_true_eq] at h
  exact ⟨by omega, by omega⟩
theorem valid_y (s : Sch) (hs : SchOk s) (a0 : Option Addr) (c0 : Nat) (μ : Mem) (w : World) (hμ : Imm μ w) (h0 : Sl μ a0 c0 s.Rules) :
    Calls Try.prog 52 #[.agg #[.int .i64 s.Modes, .int .u8 s.Accept.toNat, .slice a0 s.Rules.length c0]] w (RetS w (.bool true)) := by
  rw [← okS_yes hs]; exact valid_c s hs.small a0 c0 μ w hμ h0
def StuckP (s : Sch) : Prop := (liveM s).testBit 0 = true ∧ ∃ j, Chn s false 0 j ∧ (liveM s).testBit j = false
def EndP (s : Sch) (n : Nat) : Prop := ∃ k, k < n ∧ (liveM s).testBit k = true ∧ (reachM s).testBit k = true ∧ Chn s true k k
def IsFind (s : Sch) (_ : Mem) (v : Value) : Prop := ∃ (adD adS adE : Option Addr) (nD cD nS cS nE cE : Nat), v = .agg #[.slice adD nD cD, .slice adS nS cS, .slice adE nE cE] ∧ (0 < nS ↔ StuckP s) ∧ (0 < nE ↔ EndP s s.Modes.toNat)
theorem EndP.old {s : Sch} {n : Nat} (h : ¬ ((liveM s).testBit n = true ∧ (reachM s).testBit n = true ∧ Chn s true n n)) : EndP s (n + 1) ↔ EndP s n := by
  constructor
  · rintro ⟨k, hk, h1⟩
    by_cases e : k = n
    · subst e; exact absurd h1 h
    · exact ⟨k, by omega, h1⟩
  · rintro ⟨k, hk, h1⟩
    exact ⟨k, by omega, h1⟩
theorem obj_cell {bs : List Nat} {b : Nat} {μ : Mem} {v : Value} {E : TypeId} (h : (Own.obj b [v] E).φ bs μ) : μ.cell b 0 = some v := by
  unfold Mem.cell
  rw [h.2]; rfl
theorem posL {l : List Int} : 0 < l.length ↔ l ≠ [] := by cases l <;> simp
set_option maxRecDepth 100000 in
set_option maxHeartbeats 2000000 in
theorem find_c (s : Sch) (hs : SchOk s) (a0 : Option Addr) (c0 : Nat) (μ : Mem) (w : World) (hμ : Imm μ w) (h0 : Sl μ a0 c0 s.Rules) :
    Calls Try.prog 70 #[.agg #[.int .i64 s.Modes, .int .u8 s.Accept.toNat, .slice a0 s.Rules.length c0]] w (RetV w μ (IsFind s)) := by
  obtain ⟨N, hN⟩ : ∃ N : Nat, s.Modes = N := ⟨s.Modes.toNat, by have := hs.m1; omega⟩
  have hm1 := hs.m1
  have hm2 := hs.m2
  have hrl := hs.rl
  have hll := liveM_lt hs
  have hrr := reachM_lt hs
  have hS := St.start w μ hμ
  refine calls_start 78 [.agg #[.int .i64 s.Modes, .int .u8 s.Accept.toNat, .slice a0 s.Rules.length c0]] Try.func70 rfl Try.ntmps70 rfl rfl ?_
  refine CW.seq fun K1 hK1 => ?_
  refine CW.region [0, 1] rfl ?_
  refine LW.hv rfl rfl rfl rfl (Hv.boxS hS rfl rfl) fun v w1 ⟨b1, hv, hb1, hS⟩ => ?_
  subst hv
  refine LW.hv rfl rfl rfl rfl (Hv.alloc ti113 hS) fun v w2 ⟨b2, hv, hb2, hS⟩ => ?_
  subst hv
  refine LW.nil fun aa ha => hK1 _ _ _ ?_ aa ha
  refine CW.seq fun K2 hK2 => ?_
  refine CW.region [0] rfl ?_
  refine LW.hv rfl rfl rfl rfl (Hv.alloc ti113 hS) fun v w3 ⟨b3, hv, hb3, hS⟩ => ?_
  subst hv
  refine LW.nil fun aa ha => hK2 _ _ _ ?_ aa ha
  refine CW.seq fun K3 hK3 => ?_
  refine CW.seq fun K4 hK4 => ?_
  refine CW.region [0, 1, 2] rfl ?_
  refine LW.ex rfl rfl rfl rfl (Ex.load3c ti29 rfl rfl (by first | exact obT rfl | exact Rd.imm ‹_› | exact slT ‹_›) (by first | exact obT rfl | exact Rd.imm ‹_› | exact slT ‹_›) (by first | exact obT rfl | exact Rd.imm ‹_› | exact slT ‹_›)) hS.rd ?_
  refine LW.hv rfl rfl rfl rfl (Hv.callS hS rfl rfl rfl cb52 (valid_y s hs _ _ μ _ hS.imm h0)) fun v w10 ⟨hv, hS⟩ => ?_
  subst hv
  refine LW.ex rfl rfl rfl rfl (Ex.not rfl rfl) hS.rd ?_
  refine LW.nil fun aa ha => hK4 _ _ _ ?_ aa ha
  refine CW.no rfl ?_
  refine CW.skip fun aa ha => hK3 _ _ _ ?_ aa ha
  refine CW.seq fun K5 hK5 => ?_
  refine CW.seq fun K6 hK6 => ?_
  refine CW.region [0, 1, 2, 3] rfl ?_
  refine LW.ex rfl rfl rfl rfl (Ex.fieldO 2 Try.underlying29 rfl rfl ti27 rfl) hS.rd ?_
  refine LW.ex rfl rfl rfl rfl (Ex.load1 ti27 rfl rfl (by first | exact obT rfl | exact Rd.imm ‹_› | exact slT ‹_›)) hS.rd ?_
  refine LW.ex rfl rfl rfl rfl (Ex.lenSl rfl Try.underlying27 rfl) hS.rd ?_
  refine LW.ex rfl rfl rfl rfl (Ex.move rfl) hS.rd ?_
  refine LW.nil fun aa ha => hK6 _ _ _ ?_ aa ha
  refine CW.block ?_
  have hS := nil_sl 3 1 hS
  have hS := hS.swap
  refine CW.loop (fun qq frm wl5 => ∃ (i nD : Nat) (adD : Option Addr) (cD : Nat) (ds : List Int), i ≤ s.Rules.length ∧ nD ≤ i ∧ qq = s.Rules.length - i ∧ frm = [(1, .pointer (some ⟨b1, 0, none⟩)), (2, .pointer (some ⟨b2, 0, none⟩)), (3, .pointer (some ⟨b3, 0, none⟩)), (14, .slice a0 s.Rules.length c0), (15, .int .i64 s.Rules.length), (16, .int .i64 i)] ∧ St w wl5 μ [Own.obj b3 [.slice adD nD cD, .slice none 0 0, .slice none 0 0] 113, Own.sl adD nD cD 3 1 (ds.map fun z => Value.int .i64 z), Own.obj b2 [.slice none 0 0, .slice none 0 0, .slice none 0 0] 113, Own.obj b1 [.int .i64 s.Modes, .int .u8 s.Accept.toNat, .slice a0 s.Rules.length c0] 29]) _ ⟨0, 0, none, 0, [], (by first | omega | (simp; done) | (simp; omega)), (by first | omega | (simp; done) | (simp; omega)), rfl, rfl, hS⟩ ⟨rfl, rfl, rfl, rfl, rfl, rfl, trivial⟩ ?_
  clear hS
  rintro qq frm wl5 ⟨i, nD, adD, cD, ds, hi, hnd, hq, rfl, hS⟩
  refine CW.seq fun K7 hK7 => ?_
  refine CW.region [0] rfl ?_
  refine LW.ex rfl rfl rfl rfl (Ex.lss rfl rfl rfl) hS.rd ?_
  refine LW.splitB (fun h5_0 => ?_) (fun h5_0 => ?_)
  · have h5_0 := of_decide_eq_true h5_0
    refine LW.nil fun aa ha => hK7 _ _ _ ?_ aa ha
    refine CW.seq fun K8 hK8 => ?_
    refine CW.yes rfl ?_
    refine CW.skip fun aa ha => hK8 _ _ _ ?_ aa ha
    refine CW.seq fun K9 hK9 => ?_
    refine CW.block ?_
    refine CW.seq fun K10 hK10 => ?_
    have hi2 : i < s.Rules.length := by omega
    have hSl := hS
    obtain ⟨bl', ol, rfl, k0, k1, k2, k3, k4⟩ := h0.at hi2
    have hS := hSl
    refine CW.region [0, 1, 2, 3, 4, 5] rfl ?_
    refine LW.ex rfl rfl rfl rfl (Ex.move rfl) hS.rd ?_
    refine LW.ex rfl rfl rfl rfl (Ex.indexSl Try.underlying27 ti58 rfl rfl rfl (by omega)) hS.rd ?_
    refine LW.ex rfl rfl rfl rfl (Ex.load5c ti58 rfl rfl (by first | exact obT rfl | exact Rd.imm ‹_› | exact slT ‹_›) (by first | exact obT rfl | exact Rd.imm ‹_› | exact slT ‹_›) (by first | exact obT rfl | exact Rd.imm ‹_› | exact slT ‹_›) (by first | exact obT rfl | exact Rd.imm ‹_› | exact slT ‹_›) (by first | exact obT rfl | exact Rd.imm ‹_› | exact slT ‹_›)) hS.rd ?_
    refine LW.hv rfl rfl rfl rfl (Hv.alloc ti58 hS) fun v w5 ⟨b5, hv, hb5, hS⟩ => ?_
    subst hv
    refine LW.ex rfl rfl rfl rfl (Ex.assign rfl) hS.rd ?_
    refine LW.hu rfl rfl rfl (Hv.storeN (k := 0) ti58 hS rfl rfl rfl rfl (by simp [Value.oneCell'])) fun _ w_5 hS => ?_
    dsimp only [List.set] at hS
    refine LW.nil fun aa ha => hK10 _ _ _ ?_ aa ha
    refine CW.seq fun K11 hK11 => ?_
    refine CW.region [0, 1, 2] rfl ?_
    refine LW.ex rfl rfl rfl rfl (Ex.load3c ti29 rfl rfl (by first | exact obT rfl | exact Rd.imm ‹_› | exact slT ‹_›) (by first | exact obT rfl | exact Rd.imm ‹_› | exact slT ‹_›) (by first | exact obT rfl | exact Rd.imm ‹_› | exact slT ‹_›)) hS.rd ?_
    refine LW.ex rfl rfl rfl rfl (Ex.load5c ti58 rfl rfl (by first | exact obT rfl | exact Rd.imm ‹_› | exact slT ‹_›) (by first | exact obT rfl | exact Rd.imm ‹_› | exact slT ‹_›) (by first | exact obT rfl | exact Rd.imm ‹_› | exact slT ‹_›) (by first | exact obT rfl | exact Rd.imm ‹_› | exact slT ‹_›) (by first | exact obT rfl | exact Rd.imm ‹_› | exact slT ‹_›)) hS.rd ?_
    refine LW.hv rfl rfl rfl rfl (Hv.callS hS rfl rfl rfl cb88 (dead_c s hs s.Rules[i] (hs.ru i hi2).1 _ _ μ _ hS.imm h0)) fun v w23 ⟨hv, hS⟩ => ?_
    subst hv
    refine LW.splitB (fun h7_2 => ?_) (fun h7_2 => ?_)
    · skip
      refine LW.nil fun aa ha => hK11 _ _ _ ?_ aa ha
      refine CW.yes rfl ?_
      refine CW.region [0, 1, 2, 3, 4, 5, 6] rfl ?_
      refine LW.ex rfl rfl rfl rfl (Ex.fieldO 0 Try.underlying113 rfl rfl ti68 rfl) hS.rd ?_
      refine LW.ex rfl rfl rfl rfl (Ex.load1 ti68 rfl rfl (by first | exact obT rfl | exact Rd.imm ‹_› | exact slT ‹_›)) hS.rd ?_
      refine LW.ex rfl rfl rfl rfl (Ex.move rfl) hS.rd ?_
      refine LW.hv rfl rfl rfl rfl (Hv.buildSl hS Try.underlying68 ti3 rfl rfl rfl rfl rfl rfl) fun v w27 ⟨b27, hv, hb27, hS⟩ => ?_
      subst hv
      refine LW.hv rfl rfl rfl rfl (Hv.append (k := 3) rfl Try.underlying68 ti3 rfl hS rfl rfl rfl rfl (Rd.objAll (k := 0) rfl hS.rd) (by simp [Value.oneCell']) (by unfold maxLen; omega) (by omega)) fun v w28 ⟨ad28, c28, hv, hS⟩ => ?_
      subst hv
      dsimp only [List.set] at hS
      have hS := hS.drop 0 rfl
      dsimp only [List.eraseIdx] at hS
      rw [show (ds.map fun z => Value.int .i64 z) ++ [Value.int .i64 i] = (ds ++ [(i : Int)]).map fun z => Value.int .i64 z by rw [List.map_append]; rfl] at hS
      refine LW.ex rfl rfl rfl rfl (Ex.fieldO 0 Try.underlying113 rfl rfl ti68 rfl) hS.rd ?_
      refine LW.hu rfl rfl rfl (Hv.storeObj (k := 1) ti68 hS rfl rfl rfl rfl (by first | assumption | (simp; done) | omega | exact Nat.zero_lt_succ _)) fun _ w_6 hS => ?_
      dsimp only [List.set] at hS
      refine LW.nil fun aa ha => hK9 _ _ _ ?_ aa ha
      refine CW.region [0, 1] rfl ?_
      refine LW.ex rfl rfl rfl rfl (Ex.add rfl rfl (by first | exact inc64 (by omega) | exact addN (by omega) | exact w64 (by omega) (by omega))) hS.rd ?_
      refine LW.ex rfl rfl rfl rfl (Ex.move rfl) hS.rd ?_
      refine LW.nil fun aa ha => ?_
      have hS := hS.drop 0 rfl
      dsimp only [List.eraseIdx] at hS
      refine ⟨_, _, ?m5, ⟨i + 1, nD + 1, ad28, c28, ds ++ [(i : Int)], (by first | omega | (simp; done) | (simp; omega)), (by first | omega | (simp; done) | (simp; omega)), rfl, rfl, hS⟩, ha.sub ⟨rfl, rfl, rfl, rfl, rfl, rfl, trivial⟩⟩
      case m5 => omega
    · skip
      refine LW.nil fun aa ha => hK11 _ _ _ ?_ aa ha
      refine CW.no rfl ?_
      refine CW.skip fun aa ha => hK9 _ _ _ ?_ aa ha
      refine CW.region [0, 1] rfl ?_
      refine LW.ex rfl rfl rfl rfl (Ex.add rfl rfl (by first | exact inc64 (by omega) | exact addN (by omega) | exact w64 (by omega) (by omega))) hS.rd ?_
      refine LW.ex rfl rfl rfl rfl (Ex.move rfl) hS.rd ?_
      refine LW.nil fun aa ha => ?_
      have hS := hS.drop 0 rfl
      dsimp only [List.eraseIdx] at hS
      refine ⟨_, _, ?m5, ⟨i + 1, nD, adD, cD, ds, (by first | omega | (simp; done) | (simp; omega)), (by first | omega | (simp; done) | (simp; omega)), rfl, rfl, hS⟩, ha.sub ⟨rfl, rfl, rfl, rfl, rfl, rfl, trivial⟩⟩
      case m5 => omega
  · have h5_0 := of_decide_eq_false h5_0
    refine LW.nil fun aa ha => hK7 _ _ _ ?_ aa ha
    refine CW.seq fun K12 hK12 => ?_
    refine CW.no rfl ?_
    refine CW.exit fun aa ha => hK5 _ _ _ ?_ aa ha
    refine CW.seq fun K13 hK13 => ?_
    refine CW.region [0, 1, 2, 3] rfl ?_
    refine LW.ex rfl rfl rfl rfl (Ex.load3c ti29 rfl rfl (by first | exact obT rfl | exact Rd.imm ‹_› | exact slT ‹_›) (by first | exact obT rfl | exact Rd.imm ‹_› | exact slT ‹_›) (by first | exact obT rfl | exact Rd.imm ‹_› | exact slT ‹_›)) hS.rd ?_
    refine LW.hv rfl rfl rfl rfl (Hv.callS hS rfl rfl rfl cb71 (live_c s hs _ _ μ _ hS.imm h0)) fun v w32 ⟨hv, hS⟩ => ?_
    subst hv
    refine LW.hv rfl rfl rfl rfl (Hv.alloc ti128 hS) fun v w6 ⟨b6, hv, hb6, hS⟩ => ?_
    subst hv
    refine LW.hu rfl rfl rfl (Hv.storeObj (k := 0) ti128 hS rfl rfl rfl rfl (by first | assumption | (simp; done) | omega | exact Nat.zero_lt_succ _)) fun _ w_3 hS => ?_
    dsimp only [List.set] at hS
    refine LW.nil fun aa ha => hK13 _ _ _ ?_ aa ha
    refine CW.seq fun K14 hK14 => ?_
    obtain ⟨bs, μ3, hm3, hS, hφ⟩ := hS.shut 0 rfl
    dsimp only [List.eraseIdx] at hS
    have hb6 : μ3.cell b6 0 = some (.int .u8 (liveM s)) := obj_cell hφ
    have h03 := h0.mono hm3
    have hJ11 : ∀ (wj : World) (adS : Option Addr) (nS cS : Nat) (μ4 : Mem), St w wj μ4 [Own.obj b3 [.slice adD nD cD, .slice adS nS cS, .slice none 0 0] 113, Own.sl adD nD cD 3 1 (ds.map fun z => Value.int .i64 z), Own.obj b2 [.slice none 0 0, .slice none 0 0, .slice none 0 0] 113, Own.obj b1 [.int .i64 s.Modes, .int .u8 s.Accept.toNat, .slice a0 s.Rules.length c0] 29] → (0 < nS ↔ StuckP s) → (Mem.ext w.heap.size μ3 μ4) → KW K14 78 [(1, .pointer (some ⟨b1, 0, none⟩)), (2, .pointer (some ⟨b2, 0, none⟩)), (3, .pointer (some ⟨b3, 0, none⟩)), (6, .pointer (some ⟨b6, 0, none⟩))] wj := by
      intro wj adS nS cS μ4 hS hst hm4
      refine hK14 _ _ _ ?_
      refine CW.seq fun K15 hK15 => ?_
      refine CW.seq fun K16 hK16 => ?_
      have h04 := h03.mono hm4
      have hb64 : μ4.cell b6 0 = some (.int .u8 (liveM s)) := hm4.cell hb6
      refine CW.region [0, 1, 2] rfl ?_
      refine LW.ex rfl rfl rfl rfl (Ex.fieldO 0 Try.underlying29 rfl rfl ti3 rfl) hS.rd ?_
      refine LW.ex rfl rfl rfl rfl (Ex.load1 ti3 rfl rfl (by first | exact obT rfl | exact Rd.imm ‹_› | exact slT ‹_›)) hS.rd ?_
      refine LW.ex rfl rfl rfl rfl (Ex.move rfl) hS.rd ?_
      refine LW.nil fun aa ha => hK16 _ _ _ ?_ aa ha
      refine CW.block ?_
      refine CW.loop (fun qq frm wl14 => ∃ (k : Nat) (adE : Option Addr) (cE : Nat) (es : List Int) (μL : Mem), k ≤ N ∧ qq = N - k ∧ frm = [(1, .pointer (some ⟨b1, 0, none⟩)), (2, .pointer (some ⟨b2, 0, none⟩)), (3, .pointer (some ⟨b3, 0, none⟩)), (6, .pointer (some ⟨b6, 0, none⟩)), (40, .int .i64 s.Modes), (41, .int .i64 k)] ∧ St w wl14 μL [Own.obj b3 [.slice adD nD cD, .slice adS nS cS, .slice adE es.length cE] 113, Own.sl adD nD cD 3 1 (ds.map fun z => Value.int .i64 z), Own.obj b2 [.slice none 0 0, .slice none 0 0, .slice none 0 0] 113, Own.obj b1 [.int .i64 s.Modes, .int .u8 s.Accept.toNat, .slice a0 s.Rules.length c0] 29] ∧ (Sl μL adE cE es) ∧ (es ≠ [] ↔ EndP s k) ∧ (Mem.ext w.heap.size μ4 μL)) _ ⟨0, none, 0, [], μ4, (by first | omega | (simp; done) | (simp; omega)), rfl, rfl, hS, Sl.nil _ _ _ (by simp [maxLen]), by unfold EndP; simp, Mem.ext.refl _ _⟩ ⟨rfl, rfl, rfl, rfl, rfl, rfl, trivial⟩ ?_
      clear hS
      rintro qq frm wl14 ⟨k, adE, cE, es, μL, hk, hq, rfl, hS, hse, hend, hmL⟩
      refine CW.seq fun K17 hK17 => ?_
      refine CW.region [0] rfl ?_
      refine LW.ex rfl rfl rfl rfl (Ex.lss rfl rfl rfl) hS.rd ?_
      refine LW.splitB (fun h14_0 => ?_) (fun h14_0 => ?_)
      · have h14_0 := of_decide_eq_true h14_0
        refine LW.nil fun aa ha => hK17 _ _ _ ?_ aa ha
        refine CW.seq fun K18 hK18 => ?_
        refine CW.yes rfl ?_
        refine CW.skip fun aa ha => hK18 _ _ _ ?_ aa ha
        refine CW.seq fun K19 hK19 => ?_
        refine CW.block ?_
        refine CW.seq fun K20 hK20 => ?_
        refine CW.region [0, 1, 2] rfl ?_
        refine LW.ex rfl rfl rfl rfl (Ex.move rfl) hS.rd ?_
        refine LW.hv rfl rfl rfl rfl (Hv.alloc ti3 hS) fun v w7 ⟨b7, hv, hb7, hS⟩ => ?_
        subst hv
        refine LW.hu rfl rfl rfl (Hv.storeObj (k := 0) ti3 hS rfl rfl rfl rfl (by first | assumption | (simp; done) | omega | exact Nat.zero_lt_succ _)) fun _ w_2 hS => ?_
        dsimp only [List.set] at hS
        refine LW.nil fun aa ha => hK20 _ _ _ ?_ aa ha
        refine CW.seq fun K21 hK21 => ?_
        refine CW.seq fun K22 hK22 => ?_
        obtain ⟨bs5, μ5, hm5, hS, hφ5⟩ := hS.shut 0 rfl
        dsimp only [List.eraseIdx] at hS
        have hb7 : μ5.cell b7 0 = some (.int .i64 k) := obj_cell hφ5
        have h05 := (h04.mono hmL).mono hm5
        have hb65 := hm5.cell (hmL.cell hb64)
        have hse := hse.mono hm5
        have hk8 : k < 8 := by omega
        have hS := hS.drew
        refine CW.draw 11 (.ex 0 <| .ex 1 <| .one 2 <| .ex 3 <| .ex 4 <| .ex 5 <| .ex 7 <| .one 6 <| .one 8 <| .ex 9 <| .ex 10 <| .done) [] (Rd _ _) mixed (by kernel_rfl) rfl rfl hS.rd ?_
        refine PW.ex rfl rfl rfl rfl (Ex.load1 ti128 rfl rfl (by first | exact obT rfl | exact Rd.imm ‹_› | exact slT ‹_›)) ?_
        refine PW.ex rfl rfl rfl rfl (Ex.load1 ti3 rfl rfl (by first | exact obT rfl | exact Rd.imm ‹_› | exact slT ‹_›)) ?_
        refine PW.hv rfl rfl rfl rfl (Hv.callS hS rfl rfl rfl cb72 (has8_c (liveM s) k hll (by omega) _)) (fun _ _ h => h.2.rd) fun v w46 ⟨hv, hS⟩ => ?_
        subst hv
        refine PW.splitB (fun h16_2 => ?_) (fun h16_2 => ?_)
        · skip
          refine PW.ex rfl rfl rfl rfl (Ex.not rfl rfl) ?_
          refine PW.ex rfl rfl rfl rfl (Ex.move rfl) ?_
          refine PW.ex rfl rfl rfl rfl (Ex.load3c ti29 rfl rfl (by first | exact obT rfl | exact Rd.imm ‹_› | exact slT ‹_›) (by first | exact obT rfl | exact Rd.imm ‹_› | exact slT ‹_›) (by first | exact obT rfl | exact Rd.imm ‹_› | exact slT ‹_›)) ?_
          refine PW.ex rfl rfl rfl rfl (Ex.load1 ti3 rfl rfl (by first | exact obT rfl | exact Rd.imm ‹_› | exact slT ‹_›)) ?_
          refine PW.hv rfl rfl rfl rfl (Hv.callS hS rfl rfl rfl cb91 (reached_c s hs _ _ μ5 _ hS.imm h05)) (fun _ _ h => h.2.rd) fun v w50 ⟨hv, hS⟩ => ?_
          subst hv
          refine PW.hv rfl rfl rfl rfl (Hv.callS hS rfl rfl rfl cb72 (has8_c (reachM s) k hrr (by omega) _)) (fun _ _ h => h.2.rd) fun v w52 ⟨hv, hS⟩ => ?_
          subst hv
          refine PW.splitB (fun h16_8 => ?_) (fun h16_8 => ?_)
          · skip
            refine PW.ex rfl rfl rfl rfl (Ex.not rfl rfl) ?_
            refine PW.ex rfl rfl rfl rfl (by first | exact Ex.pick_yes rfl rfl | exact Ex.pick_no rfl rfl) ?_
            refine PW.nil ?_
            refine LW.nil fun aa ha => hK22 _ _ _ ?_ aa ha
            refine CW.no rfl ?_
            refine CW.skip fun aa ha => hK21 _ _ _ ?_ aa ha
            refine CW.seq fun K23 hK23 => ?_
            have hsz17 := hS.below.size
            refine CW.region [0, 1, 2, 3, 4] rfl ?_
            refine LW.ex rfl rfl rfl rfl (Ex.load3c ti29 rfl rfl (by first | exact obT rfl | exact Rd.imm ‹_› | exact slT ‹_›) (by first | exact obT rfl | exact Rd.imm ‹_› | exact slT ‹_›) (by first | exact obT rfl | exact Rd.imm ‹_› | exact slT ‹_›)) hS.rd ?_
            refine LW.ex rfl rfl rfl rfl (Ex.load1 ti3 rfl rfl (by first | exact obT rfl | exact Rd.imm ‹_› | exact slT ‹_›)) hS.rd ?_
            refine LW.ex rfl rfl rfl rfl (Ex.makeFunc rfl) hS.rd ?_
            refine LW.hv rfl rfl rfl rfl (Hv.callV hS rfl rfl rfl cb89 (search_c s hs k hk8 true 92 b7 (fun j => decide (j = k)) cb92 _ _ μ5 _ hS.imm h05 (fun j hj w' h' => find2_c k j b7 μ5 w' h' hb7))) fun v w58 ⟨μ58, hv58, hm58, hS⟩ => ?_
            obtain ⟨ls, ⟨adC, cC, hv, hsC⟩, hiff⟩ := hv58
            subst hv
            have hse := hse.mono hm58
            have hm6 := (hmL.trans hm5).trans (hm58.mono hsz17)
            refine LW.ex rfl rfl rfl rfl (Ex.assign rfl) hS.rd ?_
            refine LW.nil fun aa ha => hK23 _ _ _ ?_ aa ha
            refine CW.seq fun K24 hK24 => ?_
            have hch : ls ≠ [] → EndP s (k + 1) := fun h => by
              obtain ⟨j, h1, h2⟩ := hiff.1 h
              have := of_decide_eq_true h2
              subst this
              exact ⟨j, by omega, h16_2, h16_8, h1⟩
            have hno : ls = [] → (EndP s (k + 1) ↔ EndP s k) := fun h => EndP.old fun ⟨_, _, h3⟩ => (hiff.2 ⟨k, h3, decide_eq_true rfl⟩) h
            refine CW.region [0, 1, 2, 3, 4, 5, 6, 7, 8, 9, 10, 11, 12, 13, 14] rfl ?_
            refine LW.ex rfl rfl rfl rfl (Ex.move rfl) hS.rd ?_
            refine LW.ex rfl rfl rfl rfl (Ex.lenSl rfl Try.underlying68 rfl) hS.rd ?_
            refine LW.ex rfl rfl rfl rfl (Ex.gtr rfl rfl rfl) hS.rd ?_
            refine LW.splitB (fun h18_2 => ?_) (fun h18_2 => ?_)
            · have h18_2 := of_decide_eq_true h18_2
              refine LW.ex rfl rfl rfl rfl (Ex.move rfl) hS.rd ?_
              refine LW.ex rfl rfl rfl rfl (Ex.fieldO 2 Try.underlying113 rfl rfl ti68 rfl) hS.rd ?_
              refine LW.ex rfl rfl rfl rfl (Ex.load1 ti68 rfl rfl (by first | exact obT rfl | exact Rd.imm ‹_› | exact slT ‹_›)) hS.rd ?_
              refine LW.ex rfl rfl rfl rfl (Ex.lenSl rfl Try.underlying68 rfl) hS.rd ?_
              refine LW.ex rfl rfl rfl rfl (Ex.eql rfl rfl rfl) hS.rd ?_
              refine LW.splitB (fun h18_7 => ?_) (fun h18_7 => ?_)
              · have h18_7 := of_decide_eq_true h18_7
                refine LW.ex rfl rfl rfl rfl (Ex.move rfl) hS.rd ?_
                refine LW.skip rfl rfl rfl rfl ?_
                refine LW.skip rfl rfl rfl rfl ?_
                refine LW.skip rfl rfl rfl rfl ?_
                refine LW.skip rfl rfl rfl rfl ?_
                refine LW.ex rfl rfl rfl rfl (by first | exact Ex.pick_yes rfl rfl | exact Ex.pick_no rfl rfl) hS.rd ?_
                refine LW.ex rfl rfl rfl rfl (by first | exact Ex.pick_yes rfl rfl | exact Ex.pick_no rfl rfl) hS.rd ?_
                refine LW.nil fun aa ha => hK24 _ _ _ ?_ aa ha
                refine CW.yes rfl ?_
                refine CW.region [0, 1, 2] rfl ?_
                refine LW.ex rfl rfl rfl rfl (Ex.move rfl) hS.rd ?_
                refine LW.ex rfl rfl rfl rfl (Ex.fieldO 2 Try.underlying113 rfl rfl ti68 rfl) hS.rd ?_
                refine LW.hu rfl rfl rfl (Hv.storeObj (k := 0) ti68 hS rfl rfl rfl rfl (by first | assumption | (simp; done) | omega | exact Nat.zero_lt_succ _)) fun _ w_2 hS => ?_
                dsimp only [List.set] at hS
                refine LW.nil fun aa ha => hK19 _ _ _ ?_ aa ha
                refine CW.region [0, 1] rfl ?_
                refine LW.ex rfl rfl rfl rfl (Ex.add rfl rfl (by first | exact inc64 (by omega) | exact addN (by omega) | exact w64 (by omega) (by omega))) hS.rd ?_
                refine LW.ex rfl rfl rfl rfl (Ex.move rfl) hS.rd ?_
                refine LW.nil fun aa ha => ?_
                refine ⟨_, _, ?m14, ⟨k + 1, adC, cC, ls, μ58, (by first | omega | (simp; done) | (simp; omega)), rfl, rfl, hS, hsC, ⟨fun _ => hch (posL.1 (by omega)), fun _ => posL.1 (by omega)⟩, hm6⟩, ha.sub ⟨rfl, rfl, rfl, rfl, rfl, rfl, trivial⟩⟩
                case m14 => omega
              · have h18_7 := of_decide_eq_false h18_7
                refine LW.ex rfl rfl rfl rfl (Ex.move rfl) hS.rd ?_
                refine LW.ex rfl rfl rfl rfl (Ex.move rfl) hS.rd ?_
                refine LW.ex rfl rfl rfl rfl (Ex.fieldO 2 Try.underlying113 rfl rfl ti68 rfl) hS.rd ?_
                refine LW.ex rfl rfl rfl rfl (Ex.load1 ti68 rfl rfl (by first | exact obT rfl | exact Rd.imm ‹_› | exact slT ‹_›)) hS.rd ?_
                refine LW.hv rfl rfl rfl rfl (Hv.callS hS rfl rfl rfl cb93 (shorter_c ls es _ _ _ _ μ58 _ hS.imm hsC hse)) fun v w71 ⟨hv, hS⟩ => ?_
                subst hv
                refine LW.splitB (fun h18_12 => ?_) (fun h18_12 => ?_)
                · skip
                  refine LW.ex rfl rfl rfl rfl (by first | exact Ex.pick_yes rfl rfl | exact Ex.pick_no rfl rfl) hS.rd ?_
                  refine LW.ex rfl rfl rfl rfl (by first | exact Ex.pick_yes rfl rfl | exact Ex.pick_no rfl rfl) hS.rd ?_
                  refine LW.nil fun aa ha => hK24 _ _ _ ?_ aa ha
                  refine CW.yes rfl ?_
                  refine CW.region [0, 1, 2] rfl ?_
                  refine LW.ex rfl rfl rfl rfl (Ex.move rfl) hS.rd ?_
                  refine LW.ex rfl rfl rfl rfl (Ex.fieldO 2 Try.underlying113 rfl rfl ti68 rfl) hS.rd ?_
                  refine LW.hu rfl rfl rfl (Hv.storeObj (k := 0) ti68 hS rfl rfl rfl rfl (by first | assumption | (simp; done) | omega | exact Nat.zero_lt_succ _)) fun _ w_2 hS => ?_
                  dsimp only [List.set] at hS
                  refine LW.nil fun aa ha => hK19 _ _ _ ?_ aa ha
                  refine CW.region [0, 1] rfl ?_
                  refine LW.ex rfl rfl rfl rfl (Ex.add rfl rfl (by first | exact inc64 (by omega) | exact addN (by omega) | exact w64 (by omega) (by omega))) hS.rd ?_
                  refine LW.ex rfl rfl rfl rfl (Ex.move rfl) hS.rd ?_
                  refine LW.nil fun aa ha => ?_
                  refine ⟨_, _, ?m14, ⟨k + 1, adC, cC, ls, μ58, (by first | omega | (simp; done) | (simp; omega)), rfl, rfl, hS, hsC, ⟨fun _ => hch (posL.1 (by omega)), fun _ => posL.1 (by omega)⟩, hm6⟩, ha.sub ⟨rfl, rfl, rfl, rfl, rfl, rfl, trivial⟩⟩
                  case m14 => omega
                · skip
                  refine LW.ex rfl rfl rfl rfl (by first | exact Ex.pick_yes rfl rfl | exact Ex.pick_no rfl rfl) hS.rd ?_
                  refine LW.ex rfl rfl rfl rfl (by first | exact Ex.pick_yes rfl rfl | exact Ex.pick_no rfl rfl) hS.rd ?_
                  refine LW.nil fun aa ha => hK24 _ _ _ ?_ aa ha
                  refine CW.no rfl ?_
                  refine CW.skip fun aa ha => hK19 _ _ _ ?_ aa ha
                  refine CW.region [0, 1] rfl ?_
                  refine LW.ex rfl rfl rfl rfl (Ex.add rfl rfl (by first | exact inc64 (by omega) | exact addN (by omega) | exact w64 (by omega) (by omega))) hS.rd ?_
                  refine LW.ex rfl rfl rfl rfl (Ex.move rfl) hS.rd ?_
                  refine LW.nil fun aa ha => ?_
                  refine ⟨_, _, ?m14, ⟨k + 1, adE, cE, es, μ58, (by first | omega | (simp; done) | (simp; omega)), rfl, rfl, hS, hse, ⟨fun _ => hch (posL.1 (by omega)), fun _ => posL.1 (by omega)⟩, hm6⟩, ha.sub ⟨rfl, rfl, rfl, rfl, rfl, rfl, trivial⟩⟩
                  case m14 => omega
            · have h18_2 := of_decide_eq_false h18_2
              refine LW.ex rfl rfl rfl rfl (Ex.move rfl) hS.rd ?_
              refine LW.skip rfl rfl rfl rfl ?_
              refine LW.skip rfl rfl rfl rfl ?_
              refine LW.skip rfl rfl rfl rfl ?_
              refine LW.skip rfl rfl rfl rfl ?_
              refine LW.skip rfl rfl rfl rfl ?_
              refine LW.skip rfl rfl rfl rfl ?_
              refine LW.skip rfl rfl rfl rfl ?_
              refine LW.skip rfl rfl rfl rfl ?_
              refine LW.skip rfl rfl rfl rfl ?_
              refine LW.skip rfl rfl rfl rfl ?_
              refine LW.ex rfl rfl rfl rfl (by first | exact Ex.pick_yes rfl rfl | exact Ex.pick_no rfl rfl) hS.rd ?_
              refine LW.nil fun aa ha => hK24 _ _ _ ?_ aa ha
              refine CW.no rfl ?_
              refine CW.skip fun aa ha => hK19 _ _ _ ?_ aa ha
              refine CW.region [0, 1] rfl ?_
              refine LW.ex rfl rfl rfl rfl (Ex.add rfl rfl (by first | exact inc64 (by omega) | exact addN (by omega) | exact w64 (by omega) (by omega))) hS.rd ?_
              refine LW.ex rfl rfl rfl rfl (Ex.move rfl) hS.rd ?_
              refine LW.nil fun aa ha => ?_
              refine ⟨_, _, ?m14, ⟨k + 1, adE, cE, es, μ58, (by first | omega | (simp; done) | (simp; omega)), rfl, rfl, hS, hse, by rw [hend, hno (List.eq_nil_of_length_eq_zero (by omega))], hm6⟩, ha.sub ⟨rfl, rfl, rfl, rfl, rfl, rfl, trivial⟩⟩
              case m14 => omega
          · skip
            refine PW.ex rfl rfl rfl rfl (Ex.not rfl rfl) ?_
            refine PW.ex rfl rfl rfl rfl (by first | exact Ex.pick_yes rfl rfl | exact Ex.pick_no rfl rfl) ?_
            refine PW.nil ?_
            refine LW.nil fun aa ha => hK22 _ _ _ ?_ aa ha
            refine CW.yes rfl ?_
            refine CW.exit fun aa ha => hK19 _ _ _ ?_ aa ha
            refine CW.region [0, 1] rfl ?_
            refine LW.ex rfl rfl rfl rfl (Ex.add rfl rfl (by first | exact inc64 (by omega) | exact addN (by omega) | exact w64 (by omega) (by omega))) hS.rd ?_
            refine LW.ex rfl rfl rfl rfl (Ex.move rfl) hS.rd ?_
            refine LW.nil fun aa ha => ?_
            refine ⟨_, _, ?m14, ⟨k + 1, adE, cE, es, μ5, (by first | omega | (simp; done) | (simp; omega)), rfl, rfl, hS, hse, by rw [hend, EndP.old]; simp [h16_8], hmL.trans hm5⟩, ha.sub ⟨rfl, rfl, rfl, rfl, rfl, rfl, trivial⟩⟩
            case m14 => omega
        · skip
          refine PW.ex rfl rfl rfl rfl (Ex.not rfl rfl) ?_
          refine PW.ex rfl rfl rfl rfl (Ex.move rfl) ?_
          refine PW.skip rfl rfl rfl rfl ?_
          refine PW.skip rfl rfl rfl rfl ?_
          refine PW.skip1 rfl rfl rfl rfl ?_
          refine PW.skip1 rfl rfl rfl rfl ?_
          refine PW.skip rfl rfl rfl rfl ?_
          refine PW.ex rfl rfl rfl rfl (by first | exact Ex.pick_yes rfl rfl | exact Ex.pick_no rfl rfl) ?_
          refine PW.nil ?_
          refine LW.nil fun aa ha => hK22 _ _ _ ?_ aa ha
          refine CW.yes rfl ?_
          refine CW.exit fun aa ha => hK19 _ _ _ ?_ aa ha
          refine CW.region [0, 1] rfl ?_
          refine LW.ex rfl rfl rfl rfl (Ex.add rfl rfl (by first | exact inc64 (by omega) | exact addN (by omega) | exact w64 (by omega) (by omega))) hS.rd ?_
          refine LW.ex rfl rfl rfl rfl (Ex.move rfl) hS.rd ?_
          refine LW.nil fun aa ha => ?_
          refine ⟨_, _, ?m14, ⟨k + 1, adE, cE, es, μ5, (by first | omega | (simp; done) | (simp; omega)), rfl, rfl, hS, hse, by rw [hend, EndP.old]; simp [h16_2], hmL.trans hm5⟩, ha.sub ⟨rfl, rfl, rfl, rfl, rfl, rfl, trivial⟩⟩
          case m14 => omega
      · have h14_0 := of_decide_eq_false h14_0
        refine LW.nil fun aa ha => hK17 _ _ _ ?_ aa ha
        refine CW.seq fun K25 hK25 => ?_
        refine CW.no rfl ?_
        refine CW.exit fun aa ha => hK15 _ _ _ ?_ aa ha
        refine CW.seq fun K26 hK26 => ?_
        refine CW.region [0, 1] rfl ?_
        refine LW.ex rfl rfl rfl rfl (Ex.load3c ti113 rfl rfl (by first | exact obT rfl | exact Rd.imm ‹_› | exact slT ‹_›) (by first | exact obT rfl | exact Rd.imm ‹_› | exact slT ‹_›) (by first | exact obT rfl | exact Rd.imm ‹_› | exact slT ‹_›)) hS.rd ?_
        refine LW.hu rfl rfl rfl (Hv.storeN (k := 2) ti113 hS rfl rfl rfl rfl (by simp [Value.oneCell'])) fun _ w_1 hS => ?_
        dsimp only [List.set] at hS
        refine LW.nil fun aa ha => hK26 _ _ _ ?_ aa ha
        refine CW.ret fun aa ha => ?_
        refine ret_cell ha Try.results70 rfl ti113 rfl (fun j v hv => Rd.objAll (k := 2) rfl hS.rd j v hv) ?_
        have hkN : k = s.Modes.toNat := by omega
        subst hkN
        exact ⟨_, μL, rfl, hS.below, (hm3.trans hm4).trans hmL, hS.imm, adD, adS, adE, nD, cD, nS, cS, es.length, cE, rfl, hst, by rw [posL]; exact hend⟩
    refine CW.seq fun K27 hK27 => ?_
    refine CW.region [0, 1] rfl ?_
    refine LW.ex rfl rfl rfl rfl (Ex.load1 ti128 rfl rfl (by first | exact obT rfl | exact Rd.imm ‹_› | exact slT ‹_›)) hS.rd ?_
    refine LW.hv rfl rfl rfl rfl (Hv.callS hS rfl rfl rfl cb72 (has8_c (liveM s) 0 hll (by omega) _)) fun v w34 ⟨hv, hS⟩ => ?_
    subst hv
    refine LW.splitB (fun h11_1 => ?_) (fun h11_1 => ?_)
    · skip
      refine LW.nil fun aa ha => hK27 _ _ _ ?_ aa ha
      refine CW.yes rfl ?_
      have hsz12 := hS.below.size
      refine CW.region [0, 1, 2, 3, 4] rfl ?_
      refine LW.ex rfl rfl rfl rfl (Ex.load3c ti29 rfl rfl (by first | exact obT rfl | exact Rd.imm ‹_› | exact slT ‹_›) (by first | exact obT rfl | exact Rd.imm ‹_› | exact slT ‹_›) (by first | exact obT rfl | exact Rd.imm ‹_› | exact slT ‹_›)) hS.rd ?_
      refine LW.ex rfl rfl rfl rfl (Ex.makeFunc rfl) hS.rd ?_
      refine LW.hv rfl rfl rfl rfl (Hv.callV hS rfl rfl rfl cb89 (search_c s hs 0 (by omega) false 90 b6 (fun j => !(liveM s).testBit j) cb90 _ _ μ3 _ hS.imm h03 (fun j hj w' h' => find1_c (liveM s) j b6 hll (by omega) μ3 w' h' hb6))) fun v w37 ⟨μ37, hv37, hm37, hS⟩ => ?_
      obtain ⟨ls, ⟨adS, cS, hv, hsS⟩, hiff⟩ := hv37
      subst hv
      refine LW.ex rfl rfl rfl rfl (Ex.fieldO 1 Try.underlying113 rfl rfl ti68 rfl) hS.rd ?_
      refine LW.hu rfl rfl rfl (Hv.storeObj (k := 0) ti68 hS rfl rfl rfl rfl (by first | assumption | (simp; done) | omega | exact Nat.zero_lt_succ _)) fun _ w_4 hS => ?_
      dsimp only [List.set] at hS
      refine LW.nil fun aa ha => ?_
      refine hJ11 _ (adS) (ls.length) (cS) (μ37) hS (by rw [posL, hiff]; unfold StuckP; simp [h11_1]) (hm37.mono hsz12) aa (ha.sub ⟨rfl, rfl, rfl, rfl, trivial⟩)
    · skip
      refine LW.nil fun aa ha => hK27 _ _ _ ?_ aa ha
      refine CW.no rfl ?_
      refine CW.skip fun aa ha => ?_
      refine hJ11 _ (none) (0) (0) (μ3) hS (by unfold StuckP; simp [h11_1]) (Mem.ext.refl _ _) aa (ha.sub ⟨rfl, rfl, rfl, rfl, trivial⟩)
end Go.Proofs.Ytgbdfgifgngijaa

/-
  Output: the walk of flaw.Sound; sound schemes; the walks of output.sound and output.accepts.
-/
namespace Go.Proofs.Ytgbdfgifgngijaa
open Go.RowKit Sy

def SndP (s : Sch) : Prop := (liveM s).testBit 0 = true ∧ ¬ StuckP s ∧ ¬ EndP s s.Modes.toNat
def IsSnd (s : Sch) (_ : Mem) (v : Value) : Prop := ∃ e : Int, v = .int .i64 e ∧ (e = 0 ↔ SndP s)
set_option maxRecDepth 100000 in
theorem sound_c (s : Sch) (hs : SchOk s) (a0 : Option Addr) (c0 : Nat) (μ : Mem) (w : World) (hμ : Imm μ w) (h0 : Sl μ a0 c0 s.Rules) :
    Calls Try.prog 53 #[.agg #[.int .i64 s.Modes, .int .u8 s.Accept.toNat, .slice a0 s.Rules.length c0]] w (RetV w μ (IsSnd s)) := by
  have hll := liveM_lt hs
  have hS := St.start w μ hμ
  refine calls_start 25 [.agg #[.int .i64 s.Modes, .int .u8 s.Accept.toNat, .slice a0 s.Rules.length c0]] Try.func53 rfl Try.ntmps53 rfl rfl ?_
  refine CW.seq fun K1 hK1 => ?_
  refine CW.region [0, 1] rfl ?_
  refine LW.hv rfl rfl rfl rfl (Hv.boxS hS rfl rfl) fun v w1 ⟨b1, hv, hb1, hS⟩ => ?_
  subst hv
  refine LW.ex rfl rfl rfl rfl (Ex.assign rfl) hS.rd ?_
  refine LW.nil fun aa ha => hK1 _ _ _ ?_ aa ha
  refine CW.seq fun K2 hK2 => ?_
  have hsz1 := hS.below.size
  refine CW.region [0, 1, 2, 3] rfl ?_
  refine LW.ex rfl rfl rfl rfl (Ex.load3c ti29 rfl rfl (by first | exact obT rfl | exact Rd.imm ‹_› | exact slT ‹_›) (by first | exact obT rfl | exact Rd.imm ‹_› | exact slT ‹_›) (by first | exact obT rfl | exact Rd.imm ‹_› | exact slT ‹_›)) hS.rd ?_
  refine LW.hv rfl rfl rfl rfl (Hv.callV hS rfl rfl rfl cb70 (find_c s hs _ _ μ _ hS.imm h0)) fun v w5 ⟨μ5, hv5, hm5, hS⟩ => ?_
  obtain ⟨adD, adS, adE, nD, cD, nS, cS, nE, cE, hv, hst, hen⟩ := hv5
  subst hv
  have h0 := h0.mono hm5
  refine LW.hv rfl rfl rfl rfl (Hv.alloc ti113 hS) fun v w3 ⟨b3, hv, hb3, hS⟩ => ?_
  subst hv
  refine LW.hu rfl rfl rfl (Hv.storeN (k := 0) ti113 hS rfl rfl rfl rfl (by simp [Value.oneCell'])) fun _ w_3 hS => ?_
  dsimp only [List.set] at hS
  refine LW.nil fun aa ha => hK2 _ _ _ ?_ aa ha
  refine CW.seq fun K3 hK3 => ?_
  refine CW.block ?_
  refine CW.seq fun K4 hK4 => ?_
  refine CW.region [0, 1, 2, 3] rfl ?_
  refine LW.ex rfl rfl rfl rfl (Ex.load3c ti29 rfl rfl (by first | exact obT rfl | exact Rd.imm ‹_› | exact slT ‹_›) (by first | exact obT rfl | exact Rd.imm ‹_› | exact slT ‹_›) (by first | exact obT rfl | exact Rd.imm ‹_› | exact slT ‹_›)) hS.rd ?_
  refine LW.hv rfl rfl rfl rfl (Hv.callS hS rfl rfl rfl cb52 (valid_y s hs _ _ μ5 _ hS.imm h0)) fun v w8 ⟨hv, hS⟩ => ?_
  subst hv
  refine LW.ex rfl rfl rfl rfl (Ex.not rfl rfl) hS.rd ?_
  refine LW.ex rfl rfl rfl rfl (Ex.assign rfl) hS.rd ?_
  refine LW.nil fun aa ha => hK4 _ _ _ ?_ aa ha
  refine CW.no rfl ?_
  refine CW.seq fun K5 hK5 => ?_
  refine CW.region [0, 1, 2, 3, 4] rfl ?_
  refine LW.ex rfl rfl rfl rfl (Ex.load3c ti29 rfl rfl (by first | exact obT rfl | exact Rd.imm ‹_› | exact slT ‹_›) (by first | exact obT rfl | exact Rd.imm ‹_› | exact slT ‹_›) (by first | exact obT rfl | exact Rd.imm ‹_› | exact slT ‹_›)) hS.rd ?_
  refine LW.hv rfl rfl rfl rfl (Hv.callS hS rfl rfl rfl cb71 (live_c s hs _ _ μ5 _ hS.imm h0)) fun v w12 ⟨hv, hS⟩ => ?_
  subst hv
  refine LW.hv rfl rfl rfl rfl (Hv.callS hS rfl rfl rfl cb72 (has8_c (liveM s) 0 hll (by omega) _)) fun v w13 ⟨hv, hS⟩ => ?_
  subst hv
  refine LW.splitB (fun h4_2 => ?_) (fun h4_2 => ?_)
  · skip
    refine LW.ex rfl rfl rfl rfl (Ex.not rfl rfl) hS.rd ?_
    refine LW.ex rfl rfl rfl rfl (Ex.assign rfl) hS.rd ?_
    refine LW.nil fun aa ha => hK5 _ _ _ ?_ aa ha
    refine CW.no rfl ?_
    refine CW.seq fun K6 hK6 => ?_
    refine CW.region [0, 1, 2, 3, 4] rfl ?_
    refine LW.ex rfl rfl rfl rfl (Ex.fieldO 1 Try.underlying113 rfl rfl ti68 rfl) hS.rd ?_
    refine LW.ex rfl rfl rfl rfl (Ex.load1 ti68 rfl rfl (by first | exact obT rfl | exact Rd.imm ‹_› | exact slT ‹_›)) hS.rd ?_
    refine LW.ex rfl rfl rfl rfl (Ex.lenSl rfl Try.underlying68 rfl) hS.rd ?_
    refine LW.ex rfl rfl rfl rfl (Ex.gtr rfl rfl rfl) hS.rd ?_
    refine LW.splitB (fun h6_3 => ?_) (fun h6_3 => ?_)
    · have h6_3 := of_decide_eq_true h6_3
      refine LW.ex rfl rfl rfl rfl (Ex.assign rfl) hS.rd ?_
      refine LW.nil fun aa ha => hK6 _ _ _ ?_ aa ha
      refine CW.yes rfl ?_
      refine CW.seq fun K7 hK7 => ?_
      refine CW.region [0] rfl ?_
      refine LW.ex rfl rfl rfl rfl (Ex.assign rfl) hS.rd ?_
      refine LW.nil fun aa ha => hK7 _ _ _ ?_ aa ha
      refine CW.ret fun aa ha => ?_
      refine ret_one ha Try.results53 rfl ?_
      exact ⟨_, μ5, rfl, hS.below, hm5.mono hsz1, hS.imm, 40, rfl, ⟨(fun h => by cases h), fun h => absurd (hst.1 (by omega)) h.2.1⟩⟩
    · have h6_3 := of_decide_eq_false h6_3
      refine LW.ex rfl rfl rfl rfl (Ex.assign rfl) hS.rd ?_
      refine LW.nil fun aa ha => hK6 _ _ _ ?_ aa ha
      refine CW.no rfl ?_
      refine CW.seq fun K8 hK8 => ?_
      refine CW.region [0, 1, 2, 3, 4] rfl ?_
      refine LW.ex rfl rfl rfl rfl (Ex.fieldO 2 Try.underlying113 rfl rfl ti68 rfl) hS.rd ?_
      refine LW.ex rfl rfl rfl rfl (Ex.load1 ti68 rfl rfl (by first | exact obT rfl | exact Rd.imm ‹_› | exact slT ‹_›)) hS.rd ?_
      refine LW.ex rfl rfl rfl rfl (Ex.lenSl rfl Try.underlying68 rfl) hS.rd ?_
      refine LW.ex rfl rfl rfl rfl (Ex.gtr rfl rfl rfl) hS.rd ?_
      refine LW.splitB (fun h8_3 => ?_) (fun h8_3 => ?_)
      · have h8_3 := of_decide_eq_true h8_3
        refine LW.ex rfl rfl rfl rfl (Ex.assign rfl) hS.rd ?_
        refine LW.nil fun aa ha => hK8 _ _ _ ?_ aa ha
        refine CW.yes rfl ?_
        refine CW.seq fun K9 hK9 => ?_
        refine CW.region [0] rfl ?_
        refine LW.ex rfl rfl rfl rfl (Ex.assign rfl) hS.rd ?_
        refine LW.nil fun aa ha => hK9 _ _ _ ?_ aa ha
        refine CW.ret fun aa ha => ?_
        refine ret_one ha Try.results53 rfl ?_
        exact ⟨_, μ5, rfl, hS.below, hm5.mono hsz1, hS.imm, 41, rfl, ⟨(fun h => by cases h), fun h => absurd (hen.1 (by omega)) h.2.2⟩⟩
      · have h8_3 := of_decide_eq_false h8_3
        refine LW.ex rfl rfl rfl rfl (Ex.assign rfl) hS.rd ?_
        refine LW.nil fun aa ha => hK8 _ _ _ ?_ aa ha
        refine CW.no rfl ?_
        refine CW.skip fun aa ha => hK3 _ _ _ ?_ aa ha
        refine CW.seq fun K10 hK10 => ?_
        refine CW.region [0] rfl ?_
        refine LW.ex rfl rfl rfl rfl (Ex.assign rfl) hS.rd ?_
        refine LW.nil fun aa ha => hK10 _ _ _ ?_ aa ha
        refine CW.ret fun aa ha => ?_
        refine ret_one ha Try.results53 rfl ?_
        exact ⟨_, μ5, rfl, hS.below, hm5.mono hsz1, hS.imm, 0, rfl, ⟨fun _ => ⟨h4_2, (fun h => by have := hst.2 h; omega), (fun h => by have := hen.2 h; omega)⟩, fun _ => rfl⟩⟩
  · skip
    refine LW.ex rfl rfl rfl rfl (Ex.not rfl rfl) hS.rd ?_
    refine LW.ex rfl rfl rfl rfl (Ex.assign rfl) hS.rd ?_
    refine LW.nil fun aa ha => hK5 _ _ _ ?_ aa ha
    refine CW.yes rfl ?_
    refine CW.seq fun K11 hK11 => ?_
    refine CW.region [0] rfl ?_
    refine LW.ex rfl rfl rfl rfl (Ex.assign rfl) hS.rd ?_
    refine LW.nil fun aa ha => hK11 _ _ _ ?_ aa ha
    refine CW.ret fun aa ha => ?_
    refine ret_one ha Try.results53 rfl ?_
    exact ⟨_, μ5, rfl, hS.below, hm5.mono hsz1, hS.imm, 50, rfl, ⟨(fun h => by cases h), fun h => by have := h.1; rw [h4_2] at this; cases this⟩⟩
/-- What output takes. -/
noncomputable def sndB (s : Sch) (inp : ByteArray) : Bool := @decide (SchOk s ∧ SndP s ∧ lettersC inp = true) (Classical.propDecidable _)
theorem sndB_iff {s : Sch} {inp : ByteArray} : sndB s inp = true ↔ SchOk s ∧ SndP s ∧ lettersC inp = true := by unfold sndB; exact @decide_eq_true_iff _ (Classical.propDecidable _)
theorem sndB_no {s : Sch} {inp : ByteArray} (h : ¬ (SchOk s ∧ SndP s ∧ lettersC inp = true)) : false = sndB s inp := by
  cases e : sndB s inp with
  | false => rfl
  | true => exact absurd (sndB_iff.1 e) h
set_option maxRecDepth 100000 in
theorem osound_c (s : Sch) (hs : SSmall s) (inp : ByteArray) (hi : inp.size ≤ 9223372036854775807) (a0 : Option Addr) (c0 : Nat) (μ : Mem) (w : World) (hμ : Imm μ w) (h0 : Sl μ a0 c0 s.Rules) :
    Calls Try.prog 27 #[.agg #[.int .i64 s.Modes, .int .u8 s.Accept.toNat, .slice a0 s.Rules.length c0], .string inp] w (RetS w (.bool (sndB s inp))) := by
  have hS := St.start w μ hμ
  refine calls_start 16 [.agg #[.int .i64 s.Modes, .int .u8 s.Accept.toNat, .slice a0 s.Rules.length c0], .string inp] Try.func27 rfl Try.ntmps27 rfl rfl ?_
  refine CW.seq fun K12 hK12 => ?_
  refine CW.region [0, 1] rfl ?_
  refine LW.hv rfl rfl rfl rfl (Hv.boxS hS rfl rfl) fun v w2 ⟨b2, hv, hb2, hS⟩ => ?_
  subst hv
  refine LW.ex rfl rfl rfl rfl (Ex.assign rfl) hS.rd ?_
  refine LW.nil fun aa ha => hK12 _ _ _ ?_ aa ha
  refine CW.seq fun K13 hK13 => ?_
  refine CW.region [0, 1, 2, 3, 4, 5, 6, 7, 8, 9, 10, 11] rfl ?_
  refine LW.ex rfl rfl rfl rfl (Ex.load3c ti29 rfl rfl (by first | exact obT rfl | exact Rd.imm ‹_› | exact slT ‹_›) (by first | exact obT rfl | exact Rd.imm ‹_› | exact slT ‹_›) (by first | exact obT rfl | exact Rd.imm ‹_› | exact slT ‹_›)) hS.rd ?_
  refine LW.hv rfl rfl rfl rfl (Hv.callS hS rfl rfl rfl cb52 (valid_c s hs _ _ μ _ hS.imm h0)) fun v w6 ⟨hv, hS⟩ => ?_
  subst hv
  refine LW.splitB (fun h1_1 => ?_) (fun h1_1 => ?_)
  · skip
    refine LW.ex rfl rfl rfl rfl (Ex.move rfl) hS.rd ?_
    refine LW.ex rfl rfl rfl rfl (Ex.load3c ti29 rfl rfl (by first | exact obT rfl | exact Rd.imm ‹_› | exact slT ‹_›) (by first | exact obT rfl | exact Rd.imm ‹_› | exact slT ‹_›) (by first | exact obT rfl | exact Rd.imm ‹_› | exact slT ‹_›)) hS.rd ?_
    refine LW.hv rfl rfl rfl rfl (Hv.callV hS rfl rfl rfl cb53 (sound_c s (okS_iff.1 h1_1) _ _ μ _ hS.imm h0)) fun v w9 ⟨μ9, hv9, hm9, hS⟩ => ?_
    first | (obtain ⟨e, hv, hiff⟩ := hv9; subst hv) | skip
    refine LW.ex rfl rfl rfl rfl (Ex.eql rfl rfl rfl) hS.rd ?_
    refine LW.splitB (fun h1_5 => ?_) (fun h1_5 => ?_)
    · have h1_5 := of_decide_eq_true h1_5
      refine LW.ex rfl rfl rfl rfl (by first | exact Ex.pick_yes rfl rfl | exact Ex.pick_no rfl rfl) hS.rd ?_
      refine LW.ex rfl rfl rfl rfl (Ex.move rfl) hS.rd ?_
      refine LW.ex rfl rfl rfl rfl (Ex.move rfl) hS.rd ?_
      refine LW.hv rfl rfl rfl rfl (Hv.callS hS rfl rfl rfl cb54 (letters_c inp hi _)) fun v w14 ⟨hv, hS⟩ => ?_
      subst hv
      refine LW.ex rfl rfl rfl rfl (by first | exact Ex.pick_yes rfl rfl | exact Ex.pick_no rfl rfl) hS.rd ?_
      refine LW.ex rfl rfl rfl rfl (Ex.assign rfl) hS.rd ?_
      refine LW.nil fun aa ha => hK13 _ _ _ ?_ aa ha
      refine CW.ret fun aa ha => ?_
      refine ret_one ha Try.results27 rfl ?_
      refine hS.retB ?_
      cases hl : lettersC inp with
      | false => exact sndB_no fun h => by rw [hl] at h; exact absurd h.2.2 (by decide)
      | true => exact (sndB_iff.2 ⟨okS_iff.1 h1_1, hiff.1 h1_5, hl⟩).symm
    · have h1_5 := of_decide_eq_false h1_5
      refine LW.ex rfl rfl rfl rfl (by first | exact Ex.pick_yes rfl rfl | exact Ex.pick_no rfl rfl) hS.rd ?_
      refine LW.ex rfl rfl rfl rfl (Ex.move rfl) hS.rd ?_
      refine LW.skip rfl rfl rfl rfl ?_
      refine LW.skip rfl rfl rfl rfl ?_
      refine LW.ex rfl rfl rfl rfl (by first | exact Ex.pick_yes rfl rfl | exact Ex.pick_no rfl rfl) hS.rd ?_
      refine LW.ex rfl rfl rfl rfl (Ex.assign rfl) hS.rd ?_
      refine LW.nil fun aa ha => hK13 _ _ _ ?_ aa ha
      refine CW.ret fun aa ha => ?_
      refine ret_one ha Try.results27 rfl ?_
      exact hS.retB (sndB_no fun h => h1_5 (hiff.2 h.2.1))
  · skip
    refine LW.ex rfl rfl rfl rfl (Ex.move rfl) hS.rd ?_
    refine LW.skip rfl rfl rfl rfl ?_
    refine LW.skip rfl rfl rfl rfl ?_
    first | (obtain ⟨e, hv, hiff⟩ := hv9; subst hv) | skip
    refine LW.skip rfl rfl rfl rfl ?_
    refine LW.ex rfl rfl rfl rfl (by first | exact Ex.pick_yes rfl rfl | exact Ex.pick_no rfl rfl) hS.rd ?_
    refine LW.ex rfl rfl rfl rfl (Ex.move rfl) hS.rd ?_
    refine LW.skip rfl rfl rfl rfl ?_
    refine LW.skip rfl rfl rfl rfl ?_
    refine LW.ex rfl rfl rfl rfl (by first | exact Ex.pick_yes rfl rfl | exact Ex.pick_no rfl rfl) hS.rd ?_
    refine LW.ex rfl rfl rfl rfl (Ex.assign rfl) hS.rd ?_
    refine LW.nil fun aa ha => hK13 _ _ _ ?_ aa ha
    refine CW.ret fun aa ha => ?_
    refine ret_one ha Try.results27 rfl ?_
    refine hS.retB (sndB_no fun h => ?_)
    rw [okS_yes h.1] at h1_1; cases h1_1
theorem acc_c (s : Sch) (j : Nat) (hj : j ≤ 8) (a0 : Option Addr) (c0 : Nat) (μ : Mem) (w : World) (hμ : Imm μ w) (h0 : Sl μ a0 c0 s.Rules) :
    Calls Try.prog 31 #[.agg #[.int .i64 s.Modes, .int .u8 s.Accept.toNat, .slice a0 s.Rules.length c0], .int .i64 j] w (RetS w (.bool (s.Accept.toNat.testBit j))) := by
  have hd : s.Accept.toNat / 2 ^ j < 256 := Nat.lt_of_le_of_lt (Nat.div_le_self _ _) s.Accept.toNat_lt
  have hS := St.start w μ hμ
  refine calls_start 11 [.agg #[.int .i64 s.Modes, .int .u8 s.Accept.toNat, .slice a0 s.Rules.length c0], .int .i64 j] Try.func31 rfl Try.ntmps31 rfl rfl ?_
  refine CW.seq fun K14 hK14 => ?_
  refine CW.region [0, 1] rfl ?_
  refine LW.hv rfl rfl rfl rfl (Hv.boxS hS rfl rfl) fun v w2 ⟨b2, hv, hb2, hS⟩ => ?_
  subst hv
  refine LW.ex rfl rfl rfl rfl (Ex.assign rfl) hS.rd ?_
  refine LW.nil fun aa ha => hK14 _ _ _ ?_ aa ha
  refine CW.seq fun K15 hK15 => ?_
  refine CW.region [0, 1, 2, 3, 4, 5, 6] rfl ?_
  refine LW.ex rfl rfl rfl rfl (Ex.fieldO 1 Try.underlying29 rfl rfl ti5 rfl) hS.rd ?_
  refine LW.ex rfl rfl rfl rfl (Ex.load1 ti5 rfl rfl (by first | exact obT rfl | exact Rd.imm ‹_› | exact slT ‹_›)) hS.rd ?_
  refine LW.ex rfl rfl rfl rfl (Ex.move rfl) hS.rd ?_
  refine LW.ex rfl rfl rfl rfl (shr8 rfl rfl hj) hS.rd ?_
  refine LW.ex rfl rfl rfl rfl (and8 (b := 1) rfl rfl hd (by omega)) hS.rd ?_
  refine LW.ex rfl rfl rfl rfl (Ex.eql rfl rfl (by first | exact decide_eq_true (by omega) | exact decide_eq_false (by omega) | rfl)) hS.rd ?_
  refine LW.ex rfl rfl rfl rfl (Ex.assign rfl) hS.rd ?_
  refine LW.nil fun aa ha => hK15 _ _ _ ?_ aa ha
  refine CW.ret fun aa ha => ?_
  refine ret_one ha Try.results31 rfl ?_
  exact hS.retB (bit_has s.Accept.toNat j)
end Go.Proofs.Ytgbdfgifgngijaa

/-
  Maps of the call's own: the current key of an iteration is deleted; an iterator is dropped; the length; many maps.
-/
namespace Go.Proofs.Ytgbdfgifgngijaa.Sy
open Go.RowKit Go.Maps Go.MapKept Go.ChangeMaps

section
variable {α β : Type} {P : Program} {m : List (Nat × Value)} {t k e : TypeId} {x y z : Operand} {w0 w : World} {μ : Mem} {L : List Own} {ek : α → Value} {ev : β → Value} {b i : Nat} {kv : List (α × β)}

theorem filter_erase {γ : Type} {p : γ → Bool} : ∀ {l : List γ} {j : Nat} {x : γ}, l[j]? = some x → p x = false → (l.eraseIdx j).filter p = l.filter p
  | [], _, _, h, _ => by simp at h
  | y :: r, 0, x, h, hp => by
    obtain rfl : y = x := by simpa using h
    rw [List.eraseIdx_cons_zero, List.filter_cons_of_neg (by simp [hp])]
  | y :: r, j + 1, x, h, hp => by
    rw [List.eraseIdx_cons_succ]
    simp only [List.filter_cons]
    rw [filter_erase (by simpa using h) hp]
theorem nodup_inj {γ : Type} {l : List γ} (hn : l.Nodup) {i j : Nat} (hi : i < l.length) (hj : j < l.length) (h : l[i] = l[j]) : i = j := by
  rcases Nat.lt_trichotomy i j with h1 | h1 | h1
  · exact absurd h (List.pairwise_iff_getElem.1 hn i j hi hj h1)
  · exact h1
  · exact absurd h.symm (List.pairwise_iff_getElem.1 hn j i hj hi h1)
theorem st_unrng {r : Nat} {left : List (α × β)} {cur : Option (α × β)} (hS : St w0 w μ L) (i : Nat) (hi : L[i]? = some (Own.rng ek ev b r kv left cur)) : St w0 w μ (L.set i (Own.mp ek ev b kv)) := by
  obtain ⟨bs, ⟨rfl, hne, es, clock, since, seen, c0, hb, hr, hM, rest⟩, hnd, hin, hstep⟩ := hS.turn hi
  exact hstep w _ [b] rfl rfl rfl (Nat.le_refl _) (Nat.le_refl _) (fun _ _ _ => rfl) ⟨rfl, es, clock, hb, hM⟩ (by simp) (fun c hc => .inl (by simp at hc; simp [hc]))
theorem mapAt_mem {es : Array MapEntry} {clock : Nat} (hM : MapAt ek ev kv es clock) {j : Nat} {p : α × β} (hj : kv[j]? = some p) : ∀ q, q ∈ kv.eraseIdx j ↔ q ∈ kv ∧ q.1 ≠ p.1 := fun q => by
  have hp := erase_perm hj
  have hn := (hp.map Prod.fst).nodup_iff.2 hM.nodup
  rw [List.map_cons, List.nodup_cons] at hn
  rw [← hp.mem_iff, List.mem_cons]
  constructor
  · intro h
    exact ⟨.inr h, fun e => hn.1 (by rw [← e]; exact List.mem_map.2 ⟨q, h, rfl⟩)⟩
  · rintro ⟨rfl | h, hne⟩
    · exact absurd rfl hne
    · exact h
theorem Hv.deleteCur [DecidableEq α] {a : α} {c : β} {r : Nat} {left : List (α × β)} {o' : Call} (ho' : o' = { callee := .builtin .delete, args := #[x, y], argTypes := #[t, k] }) (ht : P.underlying t = some (.map k e)) (hK : EncK P k ek) (i : Nat) (hS : St w0 w μ L)
    (hi : L[i]? = some (Own.rng ek ev b r kv left (some (a, c)))) (hx : Sy.ev m x = some (.map (some b))) (hy : Sy.ev m y = some (ek a)) :
    Hv P m (.call o') w (fun _ w' => ∃ kv', (∀ p, p ∈ kv' ↔ p ∈ kv ∧ p.1 ≠ a) ∧ St w0 w' μ (L.set i (Own.rng ek ev b r kv' left none))) :=
  .of_run fun ρ ha o ho => by
    subst ho'
    obtain ⟨bs, ⟨rfl, hne, es, clock, since, seen, c0, hb, hr, hM, hold, hsc, hsk, hleft, hcur⟩, hnd, hin, hstep⟩ := hS.turn hi
    obtain ⟨en, hen, hep, hck, seen0, hseen⟩ := hcur _ rfl
    have hb' : w.heap[b]? = some (.map es clock) := hb
    obtain ⟨l, hl⟩ := hK.key a
    have hep' := hep
    simp only [entV, pairV, Prod.mk.injEq] at hep'
    rcases hK.keyed.find w hl es.toList (hM.keys hK) with ⟨h1, h2⟩ | ⟨j, e0, h1, h2, h3⟩
    · exact absurd hep'.1 (h2 en hen)
    · obtain ⟨p, hp, p1, p2⟩ := hM.get h2
      have hpa : p.1 = a := hK.inj _ _ (by rw [← p1, h3])
      have hee : e0 = en := by
        obtain ⟨j', hj', e'⟩ := List.getElem_of_mem hen
        have hn := hM.stamped.2.2
        obtain ⟨hjl, he0⟩ := List.getElem?_eq_some_iff.1 h2
        have hkk : (es.toList.map (·.key))[j]'(by simpa using hjl) = (es.toList.map (·.key))[j']'(by simpa using hj') := by
          simp only [List.getElem_map, he0, e', h3, hep'.1]
        have hjj : j = j' := nodup_inj hn _ _ hkk
        subst hjj
        rw [← he0, e']
      have hlist : (es.eraseIdxIfInBounds j).toList = es.toList.eraseIdx j := by
        have hjs : j < es.size := by simpa using (List.getElem?_eq_some_iff.1 h2).1
        simp [Array.eraseIdxIfInBounds, hjs]
      have hM' : MapAt ek ev (kv.eraseIdx j) (es.eraseIdxIfInBounds j) clock := ⟨by rw [hlist, map_eraseIdx', map_eraseIdx', hM.eq], stamped_erase hM.stamped _⟩
      have hlf : (leftOf (es.eraseIdxIfInBounds j) seen).toList = (leftOf es seen).toList := by
        unfold leftOf
        simp only [Array.toList_filter, hlist]
        exact filter_erase h2 (by rw [hee, hseen]; simp)
      refine ⟨.tuple #[], setBlock w b (.map (es.eraseIdxIfInBounds j) clock), ?_, kv.eraseIdx j, by rw [← hpa]; exact mapAt_mem hM hp, ?_⟩
      · simp only [execOp, ho, resolve, invoke, builtin, Sem.run_bind, Sem.run_pure, Result.andThen_ok, List.map_toArray, List.map_cons, List.map_nil, ha _ _ hx, ha _ _ hy]
        simp [Builtin.delete_, run_underlying ht, MapKept.run_getObj_map hb', hK.keyed.check w _ hl, h1, MapKept.run_setObj_map _ hb', Result.andThen, setBlock, go_sem]
      · refine hstep _ _ [b, r] rfl rfl rfl (Nat.le_refl _) (by simp [setBlock]) (fun c hc hcn => setBlock_other (by simp at hcn; exact hcn.1)) ⟨rfl, hne, es.eraseIdxIfInBounds j, clock, since, seen, c0, setBlock_same hb', ?_, hM', fun x hx => hold x ?_, hsc, hsk, ?_, fun p hp => by cases hp⟩ (by simpa using hne) (fun c hc => .inl hc)
        · show (setBlock w b _).heap[r]? = _
          rw [setBlock_other (Ne.symm hne)]; exact hr
        · rw [hlist] at hx; exact (List.eraseIdx_sublist _ _).subset hx
        · rw [hlf]; exact hleft
theorem Ex.lenMap {o' : Call} (ho' : o' = { callee := .builtin .len, args := #[x], argTypes := #[t] }) (ht : P.underlying t = some (.map k e)) (i : Nat) (hi : L[i]? = some (Own.mp ek ev b kv)) (hx : Sy.ev m x = some (.map (some b))) :
    Ex P (Rd μ L) m (.call o') (.int .i64 kv.length) := fun ρ ha w hR o ho => by
  subst ho'
  obtain ⟨bs, rfl, es, clock, hb, hM⟩ := hR.get hi
  have hb' : w.heap[b]? = some (.map es clock) := hb
  have := hM.len
  simp [execOp, ho, resolve, invoke, builtin, Builtin.len_, ha _ _ hx, run_underlying ht, MapKept.run_getObj_map hb', Result.andThen, goInt, go_sem]
  omega
end

/-! ### Parts of strings -/
section
variable {P : Program} {S : World → Prop} {m : List (Nat × Value)} {t : TypeId} {x y : Operand} {s : ByteArray} {k : IntKind} {p : Int} {j : Nat}
/-- s[:j] -/
theorem sliceStrT (ht : P.underlying t = some .string) (hx : ev m x = some (.string s)) (hy : ev m y = some (.int k p)) (hp : p = (j : Int)) (hj : j ≤ s.size) : Ex P S m (.slice t x none (some y) none) (.string (s.extract 0 j)) := fun ρ ha w _ o ho => by
  subst hp
  have e1 : (Go.underlying t).run P w = .ok .string w := by simp [Go.underlying, program, Sem.run, ht, go_sem]
  have h2 : (j : Int) ≤ (s.size : Int) := by omega
  have e5 : (Instr.sliceBound (.int k (j : Int)) s.size .sliceAlen).run P w = .ok j w := by simp [Instr.sliceBound, asIntOf, h2, go_sem]
  simp [execOp, ho, ha _ _ hx, ha _ _ hy, Instr.sliceAt, Instr.slice, Instr.sliceBounds, e1, e5, go_sem]
/-- s[j:] -/
theorem sliceStrF (ht : P.underlying t = some .string) (hx : ev m x = some (.string s)) (hy : ev m y = some (.int k p)) (hp : p = (j : Int)) (hj : j ≤ s.size) : Ex P S m (.slice t x (some y) none none) (.string (s.extract j s.size)) := fun ρ ha w _ o ho => by
  subst hp
  have e1 : (Go.underlying t).run P w = .ok .string w := by simp [Go.underlying, program, Sem.run, ht, go_sem]
  have h2 : (j : Int) ≤ (s.size : Int) := by omega
  have e5 : (Instr.sliceBound (.int k (j : Int)) s.size .sliceB).run P w = .ok j w := by simp [Instr.sliceBound, asIntOf, h2, go_sem]
  simp [execOp, ho, ha _ _ hx, ha _ _ hy, Instr.sliceAt, Instr.slice, Instr.sliceBounds, e1, e5, go_sem]
end

/-! ### Many maps -/
def updF {α : Type} (f : Nat → α) (j : Nat) (x : α) : Nat → α := fun q => if q = j then x else f q
def mapsO {α β : Type} (ek : α → Value) (ev : β → Value) (bs : Nat → Nat) (ms : Nat → List (α × β)) (n : Nat) : List Own := (List.range n).map fun j => Own.mp ek ev (bs j) (ms j)
theorem mapsO_at {α β : Type} {ek : α → Value} {ev : β → Value} {bs : Nat → Nat} {ms : Nat → List (α × β)} {n j : Nat} (hj : j < n) : (mapsO ek ev bs ms n)[j]? = some (Own.mp ek ev (bs j) (ms j)) := by
  unfold mapsO; rw [List.getElem?_map, List.getElem?_range hj]; rfl
theorem mapsO_set {α β : Type} {ek : α → Value} {ev : β → Value} {bs : Nat → Nat} {ms : Nat → List (α × β)} {n j : Nat} (kv : List (α × β)) : (mapsO ek ev bs ms n).set j (Own.mp ek ev (bs j) kv) = mapsO ek ev bs (updF ms j kv) n := by
  unfold mapsO
  refine List.ext_getElem (by simp) fun i h1 h2 => ?_
  simp only [List.getElem_set, List.getElem_map, List.getElem_range, updF]
  split
  · rename_i h; subst h; rw [if_pos rfl]
  · rename_i h; rw [if_neg (fun e => h e.symm)]
theorem mapsO_self {α β : Type} {ek : α → Value} {ev : β → Value} {bs : Nat → Nat} {ms : Nat → List (α × β)} {n j : Nat} : (mapsO ek ev bs ms n).set j (Own.mp ek ev (bs j) (ms j)) = mapsO ek ev bs ms n := by
  rw [mapsO_set]
  congr 1
  funext q
  unfold updF
  split
  · rename_i h; rw [h]
  · rfl
theorem mapsO_snoc {α β : Type} {ek : α → Value} {ev : β → Value} {bs : Nat → Nat} {ms : Nat → List (α × β)} {n b : Nat} {kv : List (α × β)} : mapsO ek ev bs ms n ++ [Own.mp ek ev b kv] = mapsO ek ev (updF bs n b) (updF ms n kv) (n + 1) := by
  unfold mapsO
  rw [List.range_succ, List.map_append]
  congr 1
  · refine List.map_congr_left fun j hj => ?_
    have := List.mem_range.1 hj
    unfold updF
    rw [if_neg (by omega), if_neg (by omega)]
  · simp [updF]
section
variable {α β : Type} {ek : α → Value} {ev : β → Value} {bs : Nat → Nat} {ms : Nat → List (α × β)} {n j : Nat} {w0 w : World} {μ : Mem} {L : List Own}
theorem mapsO_len : (mapsO ek ev bs ms n).length = n := by unfold mapsO; simp
theorem maps_get (A : List Own) (hj : j < n) : (A ++ (mapsO ek ev bs ms n ++ L))[j + A.length]? = some (Own.mp ek ev (bs j) (ms j)) := by
  rw [List.getElem?_append_right (by omega), Nat.add_sub_cancel, List.getElem?_append_left (by rw [mapsO_len]; exact hj), mapsO_at hj]
theorem st_maps (A : List Own) {kv : List (α × β)} (hj : j < n) (h : St w0 w μ ((A ++ (mapsO ek ev bs ms n ++ L)).set (j + A.length) (Own.mp ek ev (bs j) kv))) : St w0 w μ (A ++ (mapsO ek ev bs (updF ms j kv) n ++ L)) := by
  rw [List.set_append_right _ _ (by omega), Nat.add_sub_cancel, List.set_append_left _ _ (by rw [mapsO_len]; exact hj), mapsO_set] at h
  exact h
theorem rng_get (A : List Own) (e : Own) (hj : j < n) : (A ++ ((mapsO ek ev bs ms n).set j e ++ L))[j + A.length]? = some e := by
  rw [List.getElem?_append_right (by omega), Nat.add_sub_cancel, List.getElem?_append_left (by rw [List.length_set, mapsO_len]; exact hj), List.getElem?_set_self (by rw [mapsO_len]; exact hj)]
theorem st_rng0 (A : List Own) (e : Own) (hj : j < n) (h : St w0 w μ ((A ++ (mapsO ek ev bs ms n ++ L)).set (j + A.length) e)) : St w0 w μ (A ++ ((mapsO ek ev bs ms n).set j e ++ L)) := by
  rw [List.set_append_right _ _ (by omega), Nat.add_sub_cancel, List.set_append_left _ _ (by rw [mapsO_len]; exact hj)] at h
  exact h
theorem st_rng1 (A : List Own) (e e' : Own) (hj : j < n) (h : St w0 w μ ((A ++ ((mapsO ek ev bs ms n).set j e ++ L)).set (j + A.length) e')) : St w0 w μ (A ++ ((mapsO ek ev bs ms n).set j e' ++ L)) := by
  rw [List.set_append_right _ _ (by omega), Nat.add_sub_cancel, List.set_append_left _ _ (by rw [List.length_set, mapsO_len]; exact hj), List.set_set] at h
  exact h
theorem st_unrngM (A : List Own) {r : Nat} {left : List (α × β)} {cur : Option (α × β)} (hj : j < n) (h : St w0 w μ (A ++ ((mapsO ek ev bs ms n).set j (Own.rng ek ev (bs j) r (ms j) left cur) ++ L))) : St w0 w μ (A ++ (mapsO ek ev bs ms n ++ L)) := by
  have h2 := st_unrng h (j + A.length) (rng_get A _ hj)
  have h3 := st_rng1 A _ _ hj h2
  rw [mapsO_self] at h3
  exact h3
end
theorem perm_in {α : Type} {e a b : α} {M L : List α} : (e :: a :: b :: (M ++ L)).Perm (a :: b :: ((M ++ [e]) ++ L)) := by
  have h1 : (e :: (a :: b :: M)).Perm ((a :: b :: M) ++ [e]) := (List.perm_append_singleton e _).symm
  have h2 := h1.append_right L
  simpa using h2
theorem perm_in1 {α : Type} {e a : α} {M L : List α} : (e :: a :: (M ++ L)).Perm (a :: ((M ++ [e]) ++ L)) := by
  have h1 : (e :: (a :: M)).Perm ((a :: M) ++ [e]) := (List.perm_append_singleton e _).symm
  have h2 := h1.append_right L
  simpa using h2
/-- A step of an iteration, over or not. -/
theorem Hv.nextAny {α β : Type} {P : Program} {m : List (Nat × Value)} {x : Operand} {w0 w : World} {μ : Mem} {L : List Own} {ek : α → Value} {ev : β → Value} {b : Nat} {kv : List (α × β)} {r : Nat} {left : List (α × β)} {cur : Option (α × β)} (i : Nat) (hS : St w0 w μ L)
    (hi : L[i]? = some (Own.rng ek ev b r kv left cur)) (hx : Sy.ev m x = some (.pointer (some ⟨r, 0, none⟩))) :
    Hv P m (.next x false) w (fun u w' => ∃ bo rest left' cur', u = .tuple (Value.bool bo :: rest).toArray ∧ (bo = false → left = [] ∧ left' = []) ∧ (bo = true → ∃ j p, left[j]? = some p ∧ left' = left.eraseIdx j ∧ cur' = some p) ∧ St w0 w' μ (L.set i (Own.rng ek ev b r kv left' cur'))) := by
  by_cases hl : left = []
  · subst hl
    refine (Hv.next_done i hS hi hx).mono fun u w' ⟨hu, hS'⟩ => ⟨false, [], [], cur, hu, fun _ => ⟨rfl, rfl⟩, fun h => by (cases h), ?_⟩
    rw [set_same hi]; exact hS'
  · refine (Hv.next_more i hS hi hx hl).mono fun u w' ⟨j, p, hj, hu, hS'⟩ => ⟨true, [ek p.1, ev p.2], _, _, hu, fun h => by (cases h), fun _ => ⟨j, p, hj, rfl, rfl⟩, hS'⟩
theorem st_perm' {w0 w : World} {μ : Mem} {L L' : List Own} (h : St w0 w μ L) (hp : L.Perm L') : St w0 w μ L' := by
  have key : ∀ {L L' : List Own} {h : Mem}, L.Perm L' → ∀ {bs : List Nat}, Seps L bs h → ∃ bs', bs'.Perm bs ∧ Seps L' bs' h := by
    intro L L' h hp
    induction hp with
    | nil => intro bs hs; exact ⟨bs, List.Perm.refl _, hs⟩
    | cons a _ ih =>
      intro bs hs
      obtain ⟨b1, b2, e, h1, h2⟩ := hs
      obtain ⟨b3, p3, h3⟩ := ih h2
      exact ⟨b1 ++ b3, by rw [e]; exact List.Perm.append_left _ p3, b1, b3, rfl, h1, h3⟩
    | swap a b l =>
      intro bs hs
      obtain ⟨b1, b2, e, h1, b3, b4, e2, h2, h3⟩ := hs
      refine ⟨b3 ++ (b1 ++ b4), ?_, b3, b1 ++ b4, rfl, h2, b1, b4, rfl, h1, h3⟩
      rw [e, e2, ← List.append_assoc, ← List.append_assoc]
      exact List.Perm.append_right _ List.perm_append_comm
    | trans _ _ ih1 ih2 =>
      intro bs hs
      obtain ⟨b1, p1, h1⟩ := ih1 hs
      obtain ⟨b2, p2, h2⟩ := ih2 h1
      exact ⟨b2, p2.trans p1, h2⟩
  exact ⟨h.below, h.imm, let ⟨_, h1, h2, h3⟩ := h.own; let ⟨bs', p, h4⟩ := key hp h1; ⟨bs', h4, p.nodup_iff.2 h2, fun b hb => h3 b (p.mem_iff.1 hb)⟩⟩
end Go.Proofs.Ytgbdfgifgngijaa.Sy

/-
  Output: routes and the least costs of the states at the places of an input (plain Lean).
-/
namespace Go.Proofs.Ytgbdfgifgngijaa
open Go.RowKit Sy

/-- What rules follow: an input, a first state, where a rule leads, and whether it fits. -/
structure WX (α : Type) where
  rules : List Rule
  inp : ByteArray
  first : α
  nv : α → Rule → α
  ft : α → Rule → Bool
def preB (s p : ByteArray) : Bool := (bl p).isPrefixOf (bl s)
def preAt (inp : ByteArray) (p : Nat) (r : Rule) : Bool := (bl r.In).isPrefixOf ((bl inp).drop p)
section
variable {α : Type} [DecidableEq α]
inductive Rt (X : WX α) : Nat → α → Int → Prop
  | nil : Rt X 0 X.first 0
  | snoc {p : Nat} {k : α} {c : Int} (h : Rt X p k c) (r : Rule) (hr : r ∈ X.rules) (hf : X.ft k r = true) (hp : preAt X.inp p r = true) : Rt X (p + r.In.size) (X.nv k r) (c + r.Cost)
/-- Each rule takes something, at a cost up to 1000. -/
def Takes (X : WX α) : Prop := ∀ r ∈ X.rules, 1 ≤ r.In.size ∧ 0 ≤ r.Cost ∧ r.Cost ≤ 1000
theorem pre_len {inp : ByteArray} {p : Nat} {r : Rule} (h : preAt inp p r = true) (h1 : 1 ≤ r.In.size) : p + r.In.size ≤ inp.size := by
  unfold preAt at h
  have h2 := (List.isPrefixOf_iff_prefix.1 h).length_le
  rw [List.length_drop, bl_len, bl_len] at h2
  omega
omit [DecidableEq α] in
theorem Rt.cost {X : WX α} (hX : Takes X) {j : Nat} {k : α} {c : Int} (h : Rt X j k c) : j ≤ X.inp.size ∧ 0 ≤ c ∧ c ≤ 1000 * j := by
  induction h with
  | nil => exact ⟨Nat.zero_le _, by omega, by omega⟩
  | snoc h r hr hf hp ih =>
    have := hX r hr
    have := pre_len hp this.1
    omega
def putM (kv : List (α × Int)) (k : α) (c : Int) : List (α × Int) :=
  match aget kv k with
  | some old => if old ≤ c then kv else aset kv k c
  | none => aset kv k c
def putB (kv : List (α × Int)) (k : α) (c : Int) : Bool :=
  match aget kv k with
  | some old => !decide (old ≤ c)
  | none => true
theorem putM_self (kv : List (α × Int)) (k : α) (c : Int) : ∃ c', c' ≤ c ∧ aget (putM kv k c) k = some c' := by
  unfold putM
  cases h : aget kv k with
  | none => exact ⟨c, Int.le_refl _, by simp only; rw [aget_aset, if_pos rfl]⟩
  | some old =>
    simp only
    by_cases h2 : old ≤ c
    · rw [if_pos h2]; exact ⟨old, h2, h⟩
    · rw [if_neg h2]; exact ⟨c, Int.le_refl _, by rw [aget_aset, if_pos rfl]⟩
theorem putM_mono {kv : List (α × Int)} {x : α} {c0 : Int} (k : α) (c : Int) (h : aget kv x = some c0) : ∃ c', c' ≤ c0 ∧ aget (putM kv k c) x = some c' := by
  unfold putM
  cases h1 : aget kv k with
  | none =>
    simp only
    by_cases e : k = x
    · subst e; rw [h] at h1; cases h1
    · exact ⟨c0, Int.le_refl _, by rw [aget_aset, if_neg e]; exact h⟩
  | some old =>
    simp only
    by_cases h2 : old ≤ c
    · rw [if_pos h2]; exact ⟨c0, Int.le_refl _, h⟩
    · rw [if_neg h2]
      by_cases e : k = x
      · subst e
        rw [h] at h1
        obtain rfl := Option.some.inj h1
        exact ⟨c, by omega, by rw [aget_aset, if_pos rfl]⟩
      · exact ⟨c0, Int.le_refl _, by rw [aget_aset, if_neg e]; exact h⟩
theorem putM_src {kv : List (α × Int)} {x k : α} {c c' : Int} (h : aget (putM kv k c) x = some c') : aget kv x = some c' ∨ x = k ∧ c' = c := by
  unfold putM at h
  have key : ∀ h : aget (aset kv k c) x = some c', aget kv x = some c' ∨ x = k ∧ c' = c := fun h => by
    rw [aget_aset] at h
    by_cases e : k = x
    · rw [if_pos e] at h; exact .inr ⟨e.symm, (Option.some.inj h).symm⟩
    · rw [if_neg e] at h; exact .inl h
  cases h1 : aget kv k with
  | none => rw [h1] at h; exact key h
  | some old =>
    rw [h1] at h
    simp only at h
    split at h
    · exact .inl h
    · exact key h

/-- What holds when all places before i are done. -/
structure WI (X : WX α) (ms : Nat → List (α × Int)) (i : Nat) : Prop where
  fst : ∃ c, c ≤ 0 ∧ aget (ms 0) X.first = some c
  snd : ∀ j k c, aget (ms j) k = some c → Rt X j k c
  cmp : ∀ p, p < i → ∀ k c, aget (ms p) k = some c → ∀ r ∈ X.rules, X.ft k r = true → preAt X.inp p r = true → ∃ c', c' ≤ c + r.Cost ∧ aget (ms (p + r.In.size)) (X.nv k r) = some c'
theorem WI.complete {X : WX α} (hX : Takes X) {ms : Nat → List (α × Int)} {i : Nat} (h : WI X ms i) {j : Nat} {k : α} {c : Int} (hr : Rt X j k c) : j ≤ i → ∃ c', c' ≤ c ∧ aget (ms j) k = some c' := by
  induction hr with
  | nil => intro _; exact h.fst
  | @snoc p k c h2 r hr hf hp ih =>
    intro hj
    have := hX r hr
    obtain ⟨c1, h3, h4⟩ := ih (by omega)
    obtain ⟨c2, h5, h6⟩ := h.cmp p (by omega) k c1 h4 r hr hf hp
    exact ⟨c2, by omega, h6⟩
/-- While a place is worked on: the keys that are done. -/
structure WJ (X : WX α) (ms : Nat → List (α × Int)) (i : Nat) (left : List α) : Prop where
  wi : WI X ms i
  dn : ∀ k c, aget (ms i) k = some c → k ∉ left → ∀ r ∈ X.rules, X.ft k r = true → preAt X.inp i r = true → ∃ c', c' ≤ c + r.Cost ∧ aget (ms (i + r.In.size)) (X.nv k r) = some c'
/-- While the rules follow one key. -/
structure WK (X : WX α) (ms : Nat → List (α × Int)) (i : Nat) (left : List α) (k : α) (c : Int) (t : Nat) : Prop where
  wi : WI X ms i
  at_ : aget (ms i) k = some c
  dn : ∀ k' c', aget (ms i) k' = some c' → k' ∉ left → k' ≠ k → ∀ r ∈ X.rules, X.ft k' r = true → preAt X.inp i r = true → ∃ c2, c2 ≤ c' + r.Cost ∧ aget (ms (i + r.In.size)) (X.nv k' r) = some c2
  ru : ∀ q (h : q < X.rules.length), q < t → X.ft k X.rules[q] = true → preAt X.inp i X.rules[q] = true → ∃ c2, c2 ≤ c + X.rules[q].Cost ∧ aget (ms (i + X.rules[q].In.size)) (X.nv k X.rules[q]) = some c2
theorem WI.start (X : WX α) (ms : Nat → List (α × Int)) (h0 : aget (ms 0) X.first = some 0) (hs : ∀ j k c, aget (ms j) k = some c → j = 0 ∧ k = X.first ∧ c = 0) : WI X ms 0 :=
  ⟨⟨0, Int.le_refl _, h0⟩, fun j k c h => by obtain ⟨rfl, rfl, rfl⟩ := hs j k c h; exact Rt.nil, fun p hp => by omega⟩
theorem WJ.start {X : WX α} {ms : Nat → List (α × Int)} {i : Nat} (h : WI X ms i) {left : List α} (hl : ∀ k c, aget (ms i) k = some c → k ∈ left) : WJ X ms i left := ⟨h, fun k c hk hn => absurd (hl k c hk) hn⟩
theorem WJ.done {X : WX α} {ms : Nat → List (α × Int)} {i : Nat} (h : WJ X ms i []) : WI X ms (i + 1) :=
  ⟨h.wi.fst, h.wi.snd, fun p hp k c hk r hr hf hpr => if e : p = i then by subst e; exact h.dn k c hk (by simp) r hr hf hpr else h.wi.cmp p (by omega) k c hk r hr hf hpr⟩
theorem WK.start {X : WX α} {ms : Nat → List (α × Int)} {i : Nat} {left left' : List α} {k : α} {c : Int} (h : WJ X ms i left) (hk : aget (ms i) k = some c) (hl : ∀ x, x ∈ left → x = k ∨ x ∈ left') : WK X ms i left' k c 0 :=
  ⟨h.wi, hk, fun k' c' h1 h2 h3 => h.dn k' c' h1 fun h4 => (hl k' h4).elim h3 h2, fun q _ hq => by omega⟩
theorem WK.done {X : WX α} {ms : Nat → List (α × Int)} {i : Nat} {left : List α} {k : α} {c : Int} {t : Nat} (h : WK X ms i left k c t) (ht : ¬ t < X.rules.length) : WJ X ms i left :=
  ⟨h.wi, fun k' c' h1 h2 r hr hf hp => by
    by_cases e : k' = k
    · subst e
      obtain ⟨q, hq, rfl⟩ := List.getElem_of_mem hr
      rw [h.at_] at h1
      obtain rfl := Option.some.inj h1
      exact h.ru q hq (by omega) hf hp
    · exact h.dn k' c' h1 h2 e r hr hf hp⟩
theorem WK.skip {X : WX α} {ms : Nat → List (α × Int)} {i : Nat} {left : List α} {k : α} {c : Int} {t : Nat} (h : WK X ms i left k c t) (ht : t < X.rules.length) (hn : X.ft k X.rules[t] = true → preAt X.inp i X.rules[t] = true → False) : WK X ms i left k c (t + 1) :=
  ⟨h.wi, h.at_, h.dn, fun q hq hqt hf hp => if e : q = t then by subst e; exact (hn hf hp).elim else h.ru q hq (by omega) hf hp⟩
theorem WK.put {X : WX α} (hX : Takes X) {ms : Nat → List (α × Int)} {i : Nat} {left : List α} {k : α} {c : Int} {t : Nat} (h : WK X ms i left k c t) (ht : t < X.rules.length) (hf : X.ft k X.rules[t] = true) (hp : preAt X.inp i X.rules[t] = true) :
    WK X (updF ms (i + X.rules[t].In.size) (putM (ms (i + X.rules[t].In.size)) (X.nv k X.rules[t]) (c + X.rules[t].Cost))) i left k c (t + 1) := by
  have hT := hX _ (List.getElem_mem ht)
  obtain ⟨J, hJ⟩ : ∃ J, J = i + X.rules[t].In.size := ⟨_, rfl⟩
  obtain ⟨kk, hkk⟩ : ∃ kk, kk = X.nv k X.rules[t] := ⟨_, rfl⟩
  obtain ⟨cc, hcc⟩ : ∃ cc, cc = c + X.rules[t].Cost := ⟨_, rfl⟩
  rw [← hJ, ← hkk, ← hcc]
  have low : ∀ p, p ≤ i → updF ms J (putM (ms J) kk cc) p = ms p := fun p hpi => by unfold updF; rw [if_neg (by omega)]
  have mono : ∀ q x c0, (∃ c', c' ≤ c0 ∧ aget (ms q) x = some c') → ∃ c', c' ≤ c0 ∧ aget (updF ms J (putM (ms J) kk cc) q) x = some c' := fun q x c0 ⟨c', h1, h2⟩ => by
    by_cases e : q = J
    · subst e
      obtain ⟨c2, h3, h4⟩ := putM_mono kk cc h2
      exact ⟨c2, by omega, by unfold updF; rw [if_pos rfl]; exact h4⟩
    · exact ⟨c', h1, by unfold updF; rw [if_neg e]; exact h2⟩
  refine ⟨⟨by rw [low 0 (Nat.zero_le _)]; exact h.wi.fst, fun j x c0 h0 => ?_, fun p hpi x c0 h0 r hr h1 h2 => ?_⟩, by rw [low i (Nat.le_refl _)]; exact h.at_, fun k' c' h1 h2 h3 r hr h4 h5 => ?_, fun q hq hqt h1 h2 => ?_⟩
  · by_cases e : j = J
    · subst e
      unfold updF at h0
      rw [if_pos rfl] at h0
      rcases putM_src h0 with h1 | ⟨rfl, rfl⟩
      · exact h.wi.snd _ x c0 h1
      · rw [hJ, hkk, hcc]; exact Rt.snoc (h.wi.snd i k c h.at_) _ (List.getElem_mem ht) hf hp
    · unfold updF at h0
      rw [if_neg e] at h0
      exact h.wi.snd j x c0 h0
  · rw [low p (by omega)] at h0
    exact mono _ _ _ (h.wi.cmp p hpi x c0 h0 r hr h1 h2)
  · rw [low i (Nat.le_refl _)] at h1
    exact mono _ _ _ (h.dn k' c' h1 h2 h3 r hr h4 h5)
  · by_cases e : q = t
    · subst e
      rw [← hJ, ← hkk, ← hcc]
      obtain ⟨c2, h3, h4⟩ := putM_self (ms J) kk cc
      exact ⟨c2, h3, by unfold updF; rw [if_pos rfl]; exact h4⟩
    · exact mono _ _ _ (h.ru q hq (by omega) h1 h2)
end
end Go.Proofs.Ytgbdfgifgngijaa

/-
  Function values with first arguments; slices from one place to another; slices of arrays; clear.
-/
namespace Go.Proofs.Ytgbdfgifgngijaa.Sy
open Go.RowKit

section
variable {P : Program} {m : List (Nat × Value)} {w : World} {Φ : Value → World → Prop}
end

namespace Ex
variable {P : Program} {S : World → Prop} {m : List (Nat × Value)} {t t' : TypeId} {x y y2 : Operand} {d : TypeDesc} {z : Value} {by_ sz : Nat}
/-- s[i:j], of a string -/
theorem sliceStr {s : ByteArray} {i j : Nat} {k k2 : IntKind} {p q : Int} (ht : P.underlying t = some .string) (hx : ev m x = some (.string s)) (hy : ev m y = some (.int k p)) (hy2 : ev m y2 = some (.int k2 q)) (hp : p = (i : Int)) (hq : q = (j : Int)) (hi : i ≤ j) (hj : j ≤ s.size) :
    Ex P S m (.slice t x (some y) (some y2) none) (.string (s.extract i j)) := fun ρ ha w _ o ho => by
  subst hp; subst hq
  have e1 : (Go.underlying t).run P w = .ok .string w := by simp [Go.underlying, program, Sem.run, ht, go_sem]
  have h1 : (i : Int) ≤ (j : Int) := by omega
  have h2 : (j : Int) ≤ (s.size : Int) := by omega
  have e4 : (Instr.sliceBound (.int k (i : Int)) j .sliceB).run P w = .ok i w := by simp [Instr.sliceBound, asIntOf, h1, go_sem]
  have e5 : (Instr.sliceBound (.int k2 (j : Int)) s.size .sliceAlen).run P w = .ok j w := by simp [Instr.sliceBound, asIntOf, h2, go_sem]
  simp [execOp, ho, ha _ _ hx, ha _ _ hy, ha _ _ hy2, Instr.sliceAt, Instr.slice, Instr.sliceBounds, e1, e4, e5, go_sem]
  intro h; omega
end Ex

/-- A part of a slice of immutable memory. -/
theorem Sl.part {α : Type} [El α] {μ : Mem} {ad : Option Addr} {c : Nat} {xs : List α} (h : Sl μ ad c xs) {i j : Nat} (hij : i ≤ j) (hj : j ≤ xs.length) : ∃ ys : List α, ys = (xs.drop i).take (j - i) ∧ ys.length = j - i ∧ Sl μ (if c = i then ad else ad.map (·.add (i * El.sz α))) (c - i) ys := by
  have hl : ((xs.drop i).take (j - i)).length = j - i := by rw [List.length_take, List.length_drop]; omega
  refine ⟨_, rfl, hl, ⟨by rw [hl]; have := h.1; omega, by have := h.2.1; omega, fun k hk => ?_⟩⟩
  rw [hl] at hk
  have hk' : i + k < xs.length := by omega
  obtain ⟨b, off, e, hr⟩ := h.2.2 (i + k) hk'
  have hc : ¬ c = i := by have := h.1; omega
  refine ⟨b, off + i * El.sz α, ?_, ?_⟩
  · rw [if_neg hc, e]
    simp only [Option.map_some, Option.some.injEq]
    unfold Addr.add; split <;> simp_all
  · rw [List.getElem_take, List.getElem_drop]
    rw [Nat.add_mul, ← Nat.add_assoc] at hr
    exact hr

end Go.Proofs.Ytgbdfgifgngijaa.Sy
