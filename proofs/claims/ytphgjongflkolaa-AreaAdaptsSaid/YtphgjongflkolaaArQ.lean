/-
  Areas: the walk of the reference's Adapt.
-/
import Derived.Test.YtphgjongflkolaaArP
namespace Go.Proofs.Ytphgjongflkolaa
open Go.RowKit Sy Go.Sort

def lastTap (key : UInt8) (l : List Tap) : Tap := l.foldl (fun t x => if x.Key = key then x else t) ⟨key, 0, 0, 0⟩
def putStep (key : UInt8) (t : Tap) (s : Bool × List Tap) (x : Tap) : Bool × List Tap :=
  if key.toNat ≤ x.Key.toNat ∧ s.1 = false then (if x.Key = key then (true, s.2 ++ [t]) else (true, s.2 ++ [t] ++ [x])) else (if x.Key = key then s else (s.1, s.2 ++ [x]))
def putFold (key : UInt8) (t : Tap) (l : List Tap) : Bool × List Tap := l.foldl (putStep key t) (false, [])
def putTap (key : UInt8) (t : Tap) (l : List Tap) : List Tap := if (putFold key t l).1 then (putFold key t l).2 else (putFold key t l).2 ++ [t]
def tapNextR (t : Tap) (dx dy : Int) : Tap := if t.N + 1 = 64 then ⟨t.Key, (t.DX + dx).tdiv 2, (t.DY + dy).tdiv 2, 32⟩ else ⟨t.Key, t.DX + dx, t.DY + dy, t.N + 1⟩
/-- syllabaryref21.Adapt -/
def adaptR (l : List Area) (taps : List Tap) (key : UInt8) (p : Pt) : List Tap × Int :=
  if inP p = false then ([], 1) else match areaOf l key with
    | none => ([], 210)
    | some a => (putTap key (tapNextR (lastTap key taps) (p.X - (a.X0 + a.X1).tdiv 2) (p.Y - (a.Y0 + a.Y1).tdiv 2)) taps, 0)
theorem take_foldl {α β : Type} (f : β → α → β) (b : β) (l : List α) (i : Nat) (h : i < l.length) : (l.take (i + 1)).foldl f b = f ((l.take i).foldl f b) l[i] := by
  rw [List.take_succ_eq_append_getElem h, List.foldl_append]; rfl
theorem lastTap_bound {key : UInt8} {l : List Tap} (hT : ∀ t ∈ l, TapB t) (i : Nat) : -100000 ≤ (lastTap key (l.take i)).DX ∧ (lastTap key (l.take i)).DX ≤ 100000 ∧ -100000 ≤ (lastTap key (l.take i)).DY ∧ (lastTap key (l.take i)).DY ≤ 100000 ∧ 0 ≤ (lastTap key (l.take i)).N ∧ (lastTap key (l.take i)).N ≤ 1000 := by
  induction i with
  | zero => simp [lastTap]
  | succ i ih =>
    by_cases h : i < l.length
    · unfold lastTap at ih ⊢
      rw [take_foldl _ _ _ _ h]
      split
      · obtain ⟨⟨a, b⟩, ⟨c, d⟩, ⟨e, f⟩⟩ := hT _ (List.getElem_mem h); omega
      · exact ih
    · rw [List.take_of_length_le (by omega)] at ih ⊢; exact ih

theorem flatTap (xs : List Tap) (t : Tap) : xs.flatMap tapL ++ [.int .u8 t.Key.toNat, .int .i64 t.DX, .int .i64 t.DY, .int .i64 t.N] = (xs ++ [t]).flatMap tapL := by rw [List.flatMap_append]; rfl
set_option maxRecDepth 100000 in
set_option maxHeartbeats 1000000 in
theorem refadapt_c (l : List Area) (taps : List Tap) (key : UInt8) (p : Pt) (v1 v2 : Value) (ada adt : Option Addr) (ca ct : Nat) (μ : Mem) (w : World) (hμ : Imm μ w) (hl : Sl μ ada ca l) (ht : Sl μ adt ct taps) (hB : ∀ a ∈ l, ArB a) (hT : ∀ t ∈ taps, TapB t) (hll : l.length ≤ 1000) (htl : taps.length ≤ 1000) :
    Calls Try.prog 18 #[.agg #[.slice ada l.length ca, v1, v2], .slice adt taps.length ct, .agg #[.int .u8 key.toNat, .int .i64 p.X, .int .i64 p.Y]] w (RetV w μ (IsAdapt (adaptR l taps key p))) := by
  have hS := St.start w μ hμ
  refine calls_start 133 [.agg #[.slice ada l.length ca, v1, v2], .slice adt taps.length ct, .agg #[.int .u8 key.toNat, .int .i64 p.X, .int .i64 p.Y]] Try.func18 rfl Try.ntmps18 rfl rfl ?_
  refine CW.seq fun K1 hK1 => ?_
  refine CW.region [0, 1, 2, 3] rfl ?_
  refine LW.hv rfl rfl rfl rfl (Hv.boxS hS rfl rfl) fun v w3 ⟨b3, hv, hb3, hS⟩ => ?_
  subst hv
  refine LW.hv rfl rfl rfl rfl (Hv.boxS hS rfl rfl) fun v w5 ⟨b5, hv, hb5, hS⟩ => ?_
  subst hv
  refine LW.ex rfl rfl rfl rfl (Ex.assign rfl) hS.rd ?_
  refine LW.ex rfl rfl rfl rfl (Ex.assign rfl) hS.rd ?_
  refine LW.nil fun aa ha => hK1 _ _ _ ?_ aa ha
  refine CW.seq fun K2 hK2 => ?_
  refine CW.seq fun K3 hK3 => ?_
  refine CW.region [0, 1, 2, 3] rfl ?_
  refine LW.ex rfl rfl rfl rfl (Ex.fieldO 1 Try.underlying47 rfl rfl ti36 rfl) hS.rd ?_
  refine LW.ex rfl rfl rfl rfl (Ex.load2c ti36 rfl rfl (by first | exact Rd.obj (k := 0) rfl rfl | exact Rd.obj (k := 1) rfl rfl | exact Rd.obj (k := 2) rfl rfl | exact Rd.obj (k := 3) rfl rfl | exact Rd.obj (k := 4) rfl rfl | exact Rd.imm (by assumption) | exact Rd.sl (k := 0) rfl (by assumption) | exact Rd.sl (k := 1) rfl (by assumption) | exact Rd.sl (k := 2) rfl (by assumption) | exact Rd.sl (k := 3) rfl (by assumption)) (by first | exact Rd.obj (k := 0) rfl rfl | exact Rd.obj (k := 1) rfl rfl | exact Rd.obj (k := 2) rfl rfl | exact Rd.obj (k := 3) rfl rfl | exact Rd.obj (k := 4) rfl rfl | exact Rd.imm (by assumption) | exact Rd.sl (k := 0) rfl (by assumption) | exact Rd.sl (k := 1) rfl (by assumption) | exact Rd.sl (k := 2) rfl (by assumption) | exact Rd.sl (k := 3) rfl (by assumption))) hS.rd ?_
  refine LW.hv rfl rfl rfl rfl (Hv.callS hS rfl rfl rfl cb39 (refinside_c p _)) fun v w18 ⟨hv, hS⟩ => ?_
  subst hv
  refine LW.splitB (fun h1_2 => ?_) (fun h1_2 => ?_)
  · skip
    refine LW.ex rfl rfl rfl rfl (Ex.not rfl rfl) hS.rd ?_
    refine LW.nil fun aa ha => hK3 _ _ _ ?_ aa ha
    refine CW.no rfl ?_
    refine CW.skip fun aa ha => hK2 _ _ _ ?_ aa ha
    refine CW.seq fun K4 hK4 => ?_
    have hpb : 0 ≤ p.X ∧ p.X ≤ 1000 ∧ 0 ≤ p.Y ∧ p.Y ≤ 1000 := by simp only [inP, Bool.and_eq_true, decide_eq_true_eq] at h1_2; omega
    refine CW.region [0, 1, 2, 3, 4, 5, 6, 7, 8, 9] rfl ?_
    refine LW.ex rfl rfl rfl rfl (Ex.load3c ti31 rfl rfl (by first | exact Rd.obj (k := 0) rfl rfl | exact Rd.obj (k := 1) rfl rfl | exact Rd.obj (k := 2) rfl rfl | exact Rd.obj (k := 3) rfl rfl | exact Rd.obj (k := 4) rfl rfl | exact Rd.imm (by assumption) | exact Rd.sl (k := 0) rfl (by assumption) | exact Rd.sl (k := 1) rfl (by assumption) | exact Rd.sl (k := 2) rfl (by assumption) | exact Rd.sl (k := 3) rfl (by assumption)) (by first | exact Rd.obj (k := 0) rfl rfl | exact Rd.obj (k := 1) rfl rfl | exact Rd.obj (k := 2) rfl rfl | exact Rd.obj (k := 3) rfl rfl | exact Rd.obj (k := 4) rfl rfl | exact Rd.imm (by assumption) | exact Rd.sl (k := 0) rfl (by assumption) | exact Rd.sl (k := 1) rfl (by assumption) | exact Rd.sl (k := 2) rfl (by assumption) | exact Rd.sl (k := 3) rfl (by assumption)) (by first | exact Rd.obj (k := 0) rfl rfl | exact Rd.obj (k := 1) rfl rfl | exact Rd.obj (k := 2) rfl rfl | exact Rd.obj (k := 3) rfl rfl | exact Rd.obj (k := 4) rfl rfl | exact Rd.imm (by assumption) | exact Rd.sl (k := 0) rfl (by assumption) | exact Rd.sl (k := 1) rfl (by assumption) | exact Rd.sl (k := 2) rfl (by assumption) | exact Rd.sl (k := 3) rfl (by assumption))) hS.rd ?_
    refine LW.ex rfl rfl rfl rfl (Ex.fieldO 0 Try.underlying47 rfl rfl ti5 rfl) hS.rd ?_
    refine LW.ex rfl rfl rfl rfl (Ex.load1 ti5 rfl rfl (by first | exact Rd.obj (k := 0) rfl rfl | exact Rd.obj (k := 1) rfl rfl | exact Rd.obj (k := 2) rfl rfl | exact Rd.obj (k := 3) rfl rfl | exact Rd.obj (k := 4) rfl rfl | exact Rd.imm (by assumption) | exact Rd.sl (k := 0) rfl (by assumption) | exact Rd.sl (k := 1) rfl (by assumption) | exact Rd.sl (k := 2) rfl (by assumption) | exact Rd.sl (k := 3) rfl (by assumption))) hS.rd ?_
    refine LW.hv rfl rfl rfl rfl (Hv.callS hS rfl rfl rfl cb25 (area_c l v1 v2 key _ _ μ _ hS.imm hl)) fun v w24 ⟨hv, hS⟩ => ?_
    subst hv
    refine LW.ex rfl rfl rfl rfl (Ex.move rfl) hS.rd ?_
    refine LW.ex rfl rfl rfl rfl (Ex.extract rfl rfl) hS.rd ?_
    refine LW.ex rfl rfl rfl rfl (Ex.extract rfl rfl) hS.rd ?_
    refine LW.hv rfl rfl rfl rfl (Hv.alloc ti57 hS) fun v w8 ⟨b8, hv, hb8, hS⟩ => ?_
    subst hv
    refine LW.hu rfl rfl rfl (Hv.storeN (k := 0) ti57 hS rfl rfl rfl rfl (by simp [Value.oneCell'])) fun _ w_8 hS => ?_
    dsimp only [List.set] at hS
    refine LW.ex rfl rfl rfl rfl (Ex.assign rfl) hS.rd ?_
    refine LW.nil fun aa ha => hK4 _ _ _ ?_ aa ha
    refine CW.seq fun K5 hK5 => ?_
    refine CW.seq fun K6 hK6 => ?_
    refine CW.region [0, 1] rfl ?_
    refine LW.ex rfl rfl rfl rfl (Ex.move rfl) hS.rd ?_
    refine LW.splitB (fun h4_0 => ?_) (fun h4_0 => ?_)
    · skip
      refine LW.ex rfl rfl rfl rfl (Ex.not rfl rfl) hS.rd ?_
      refine LW.nil fun aa ha => hK6 _ _ _ ?_ aa ha
      refine CW.no rfl ?_
      refine CW.skip fun aa ha => hK5 _ _ _ ?_ aa ha
      refine CW.seq fun K7 hK7 => ?_
      obtain ⟨a, hao⟩ := Option.isSome_iff_exists.1 h4_0
      have ham : a ∈ l := List.mem_of_find?_eq_some hao
      have hA := hB a ham
      rw [hao] at hS
      have hS : St w _ μ [Own.obj b8 (areaL a) 57, Own.obj b5 [.int .u8 key.toNat, .int .i64 p.X, .int .i64 p.Y] 47, Own.obj b3 [.slice ada l.length ca, v1, v2] 31] := hS
      refine CW.region [0, 1, 2, 3] rfl ?_
      refine LW.ex rfl rfl rfl rfl (Ex.load5c ti57 rfl rfl (by first | exact Rd.obj (k := 0) rfl rfl | exact Rd.obj (k := 1) rfl rfl | exact Rd.obj (k := 2) rfl rfl | exact Rd.obj (k := 3) rfl rfl | exact Rd.obj (k := 4) rfl rfl | exact Rd.imm (by assumption) | exact Rd.sl (k := 0) rfl (by assumption) | exact Rd.sl (k := 1) rfl (by assumption) | exact Rd.sl (k := 2) rfl (by assumption) | exact Rd.sl (k := 3) rfl (by assumption)) (by first | exact Rd.obj (k := 0) rfl rfl | exact Rd.obj (k := 1) rfl rfl | exact Rd.obj (k := 2) rfl rfl | exact Rd.obj (k := 3) rfl rfl | exact Rd.obj (k := 4) rfl rfl | exact Rd.imm (by assumption) | exact Rd.sl (k := 0) rfl (by assumption) | exact Rd.sl (k := 1) rfl (by assumption) | exact Rd.sl (k := 2) rfl (by assumption) | exact Rd.sl (k := 3) rfl (by assumption)) (by first | exact Rd.obj (k := 0) rfl rfl | exact Rd.obj (k := 1) rfl rfl | exact Rd.obj (k := 2) rfl rfl | exact Rd.obj (k := 3) rfl rfl | exact Rd.obj (k := 4) rfl rfl | exact Rd.imm (by assumption) | exact Rd.sl (k := 0) rfl (by assumption) | exact Rd.sl (k := 1) rfl (by assumption) | exact Rd.sl (k := 2) rfl (by assumption) | exact Rd.sl (k := 3) rfl (by assumption)) (by first | exact Rd.obj (k := 0) rfl rfl | exact Rd.obj (k := 1) rfl rfl | exact Rd.obj (k := 2) rfl rfl | exact Rd.obj (k := 3) rfl rfl | exact Rd.obj (k := 4) rfl rfl | exact Rd.imm (by assumption) | exact Rd.sl (k := 0) rfl (by assumption) | exact Rd.sl (k := 1) rfl (by assumption) | exact Rd.sl (k := 2) rfl (by assumption) | exact Rd.sl (k := 3) rfl (by assumption)) (by first | exact Rd.obj (k := 0) rfl rfl | exact Rd.obj (k := 1) rfl rfl | exact Rd.obj (k := 2) rfl rfl | exact Rd.obj (k := 3) rfl rfl | exact Rd.obj (k := 4) rfl rfl | exact Rd.imm (by assumption) | exact Rd.sl (k := 0) rfl (by assumption) | exact Rd.sl (k := 1) rfl (by assumption) | exact Rd.sl (k := 2) rfl (by assumption) | exact Rd.sl (k := 3) rfl (by assumption))) hS.rd ?_
      refine LW.hv rfl rfl rfl rfl (Hv.callS hS rfl rfl rfl cb28 (middle_c a _ hA)) fun v w30 ⟨hv, hS⟩ => ?_
      subst hv
      refine LW.hv rfl rfl rfl rfl (Hv.alloc ti36 hS) fun v w10 ⟨b10, hv, hb10, hS⟩ => ?_
      subst hv
      refine LW.hu rfl rfl rfl (Hv.storeN (k := 0) ti36 hS rfl rfl rfl rfl (by simp [Value.oneCell'])) fun _ w_3 hS => ?_
      dsimp only [List.set] at hS
      refine LW.nil fun aa ha => hK7 _ _ _ ?_ aa ha
      refine CW.seq fun K8 hK8 => ?_
      refine CW.region [0, 1, 2, 3, 4, 5, 6, 7] rfl ?_
      refine LW.ex rfl rfl rfl rfl (Ex.fieldO 0 Try.underlying47 rfl rfl ti5 rfl) hS.rd ?_
      refine LW.ex rfl rfl rfl rfl (Ex.load1 ti5 rfl rfl (by first | exact Rd.obj (k := 0) rfl rfl | exact Rd.obj (k := 1) rfl rfl | exact Rd.obj (k := 2) rfl rfl | exact Rd.obj (k := 3) rfl rfl | exact Rd.obj (k := 4) rfl rfl | exact Rd.imm (by assumption) | exact Rd.sl (k := 0) rfl (by assumption) | exact Rd.sl (k := 1) rfl (by assumption) | exact Rd.sl (k := 2) rfl (by assumption) | exact Rd.sl (k := 3) rfl (by assumption))) hS.rd ?_
      refine LW.ex rfl rfl rfl rfl (Ex.buildS st82 rfl rfl rfl) hS.rd ?_
      refine LW.hv rfl rfl rfl rfl (Hv.buildSl hS Try.underlying33 ti82 rfl rfl rfl rfl rfl rfl) fun v w34 ⟨b34, hv, hb34, hS⟩ => ?_
      subst hv
      refine LW.hv rfl rfl rfl rfl (Hv.alloc ti82 hS) fun v w11 ⟨b11, hv, hb11, hS⟩ => ?_
      subst hv
      refine LW.hu rfl rfl rfl (Hv.storeN (k := 0) ti82 hS rfl rfl rfl rfl (by simp [Value.oneCell'])) fun _ w_5 hS => ?_
      dsimp only [List.set] at hS
      have hS := hS.row_sl (k := 1) rfl 0 4 rfl (by simp [maxLen])
      dsimp only [List.set] at hS
      refine LW.ex rfl rfl rfl rfl (Ex.assign rfl) hS.rd ?_
      refine LW.ex rfl rfl rfl rfl (Ex.assign rfl) hS.rd ?_
      refine LW.nil fun aa ha => hK8 _ _ _ ?_ aa ha
      refine CW.seq fun K9 hK9 => ?_
      refine CW.seq fun K10 hK10 => ?_
      obtain ⟨⟨a1, a2⟩, ⟨a3, a4⟩, ⟨a5, a6⟩, ⟨a7, a8⟩⟩ := hA
      have hmx := tdiv2_in (a := a.X0 + a.X1) (B := 20000) ⟨by omega, by omega⟩
      have hmy := tdiv2_in (a := a.Y0 + a.Y1) (B := 20000) ⟨by omega, by omega⟩
      obtain ⟨cx, hcx⟩ : ∃ cx, cx = (a.X0 + a.X1).tdiv 2 := ⟨_, rfl⟩
      obtain ⟨cy, hcy⟩ : ∃ cy, cy = (a.Y0 + a.Y1).tdiv 2 := ⟨_, rfl⟩
      have hcm : middle a = ⟨cx, cy⟩ := by rw [hcx, hcy]; rfl
      rw [hcm] at hS
      rw [← hcx] at hmx
      rw [← hcy] at hmy
      refine CW.region [0] rfl ?_
      refine LW.ex rfl rfl rfl rfl (Ex.assign rfl) hS.rd ?_
      refine LW.nil fun aa ha => hK10 _ _ _ ?_ aa ha
      refine CW.block ?_
      refine CW.loop (fun q m wl9 => ∃ (i : Nat) (t : Tap), i ≤ taps.length ∧ q = taps.length - i ∧ m = [(1, .slice adt taps.length ct), (5, .pointer (some ⟨b5, 0, none⟩)), (10, .pointer (some ⟨b10, 0, none⟩)), (11, .pointer (some ⟨b11, 0, none⟩)), (12, .slice (some ⟨b34, 0, none⟩) 0 0), (13, .bool false), (14, .int .i64 i)] ∧ St w wl9 μ [Own.obj b11 [.int .u8 t.Key.toNat, .int .i64 t.DX, .int .i64 t.DY, .int .i64 t.N] 82, Own.sl (some ⟨b34, 0, none⟩) 0 0 82 4 [], Own.obj b10 [.int .i64 cx, .int .i64 cy] 36, Own.obj b8 (areaL a) 57, Own.obj b5 [.int .u8 key.toNat, .int .i64 p.X, .int .i64 p.Y] 47, Own.obj b3 [.slice ada l.length ca, v1, v2] 31] ∧ (t = lastTap key (taps.take i))) _ ⟨0, ⟨key, 0, 0, 0⟩, (by first | omega | (simp; done) | (simp; omega)), rfl, rfl, hS, rfl⟩ ⟨rfl, rfl, rfl, rfl, rfl, rfl, rfl, trivial⟩ ?_
      clear hS
      rintro q m wl9 ⟨i, t, hi, hq, rfl, hS, hlt⟩
      refine CW.seq fun K11 hK11 => ?_
      refine CW.seq fun K12 hK12 => ?_
      refine CW.region [0, 1, 2, 3] rfl ?_
      refine LW.ex rfl rfl rfl rfl (Ex.move rfl) hS.rd ?_
      refine LW.ex rfl rfl rfl rfl (Ex.move rfl) hS.rd ?_
      refine LW.ex rfl rfl rfl rfl (Ex.lenSl rfl Try.underlying33 rfl) hS.rd ?_
      refine LW.ex rfl rfl rfl rfl (Ex.lss rfl rfl rfl) hS.rd ?_
      refine LW.splitB (fun h9_3 => ?_) (fun h9_3 => ?_)
      · have h9_3 := of_decide_eq_true h9_3
        refine LW.nil fun aa ha => hK12 _ _ _ ?_ aa ha
        refine CW.yes rfl ?_
        refine CW.skip fun aa ha => hK11 _ _ _ ?_ aa ha
        refine CW.seq fun K13 hK13 => ?_
        refine CW.block ?_
        refine CW.seq fun K14 hK14 => ?_
        have h1 : i < taps.length := by omega
        obtain ⟨bl, ol, rfl, k0, k1, k2, k3⟩ := ht.at h1
        have hS := hS.drew
        refine CW.draw 8 (.ex 0 <| .ex 1 <| .ex 2 <| .ex 3 <| .ex 4 <| .ex 5 <| .ex 6 <| .ex 7 <| .done) [] (Rd _ _) mixed (by kernel_rfl) rfl rfl hS.rd ?_
        refine PW.ex rfl rfl rfl rfl (Ex.move rfl) ?_
        refine PW.ex rfl rfl rfl rfl (Ex.move rfl) ?_
        refine PW.ex rfl rfl rfl rfl (Ex.indexSl Try.underlying33 ti82 rfl rfl rfl (by omega)) ?_
        refine PW.ex rfl rfl rfl rfl (Ex.fieldO 0 Try.underlying82 rfl rfl ti5 rfl) ?_
        refine PW.ex rfl rfl rfl rfl (Ex.load1 ti5 rfl rfl (by first | exact Rd.obj (k := 0) rfl rfl | exact Rd.obj (k := 1) rfl rfl | exact Rd.obj (k := 2) rfl rfl | exact Rd.obj (k := 3) rfl rfl | exact Rd.obj (k := 4) rfl rfl | exact Rd.imm (by assumption) | exact Rd.sl (k := 0) rfl (by assumption) | exact Rd.sl (k := 1) rfl (by assumption) | exact Rd.sl (k := 2) rfl (by assumption) | exact Rd.sl (k := 3) rfl (by assumption))) ?_
        refine PW.ex rfl rfl rfl rfl (Ex.fieldO 0 Try.underlying47 rfl rfl ti5 rfl) ?_
        refine PW.ex rfl rfl rfl rfl (Ex.load1 ti5 rfl rfl (by first | exact Rd.obj (k := 0) rfl rfl | exact Rd.obj (k := 1) rfl rfl | exact Rd.obj (k := 2) rfl rfl | exact Rd.obj (k := 3) rfl rfl | exact Rd.obj (k := 4) rfl rfl | exact Rd.imm (by assumption) | exact Rd.sl (k := 0) rfl (by assumption) | exact Rd.sl (k := 1) rfl (by assumption) | exact Rd.sl (k := 2) rfl (by assumption) | exact Rd.sl (k := 3) rfl (by assumption))) ?_
        refine PW.ex rfl rfl rfl rfl (Ex.eql rfl rfl rfl) ?_
        refine PW.splitB (fun h11_7 => ?_) (fun h11_7 => ?_)
        · have h11_7 := of_decide_eq_true h11_7
          refine PW.nil ?_
          refine LW.nil fun aa ha => hK14 _ _ _ ?_ aa ha
          refine CW.yes rfl ?_
          refine CW.region [0, 1, 2, 3, 4] rfl ?_
          refine LW.ex rfl rfl rfl rfl (Ex.move rfl) hS.rd ?_
          refine LW.ex rfl rfl rfl rfl (Ex.move rfl) hS.rd ?_
          refine LW.ex rfl rfl rfl rfl (Ex.indexSl Try.underlying33 ti82 rfl rfl rfl (by omega)) hS.rd ?_
          refine LW.ex rfl rfl rfl rfl (Ex.load4c ti82 rfl rfl (by first | exact Rd.obj (k := 0) rfl rfl | exact Rd.obj (k := 1) rfl rfl | exact Rd.obj (k := 2) rfl rfl | exact Rd.obj (k := 3) rfl rfl | exact Rd.obj (k := 4) rfl rfl | exact Rd.imm (by assumption) | exact Rd.sl (k := 0) rfl (by assumption) | exact Rd.sl (k := 1) rfl (by assumption) | exact Rd.sl (k := 2) rfl (by assumption) | exact Rd.sl (k := 3) rfl (by assumption)) (by first | exact Rd.obj (k := 0) rfl rfl | exact Rd.obj (k := 1) rfl rfl | exact Rd.obj (k := 2) rfl rfl | exact Rd.obj (k := 3) rfl rfl | exact Rd.obj (k := 4) rfl rfl | exact Rd.imm (by assumption) | exact Rd.sl (k := 0) rfl (by assumption) | exact Rd.sl (k := 1) rfl (by assumption) | exact Rd.sl (k := 2) rfl (by assumption) | exact Rd.sl (k := 3) rfl (by assumption)) (by first | exact Rd.obj (k := 0) rfl rfl | exact Rd.obj (k := 1) rfl rfl | exact Rd.obj (k := 2) rfl rfl | exact Rd.obj (k := 3) rfl rfl | exact Rd.obj (k := 4) rfl rfl | exact Rd.imm (by assumption) | exact Rd.sl (k := 0) rfl (by assumption) | exact Rd.sl (k := 1) rfl (by assumption) | exact Rd.sl (k := 2) rfl (by assumption) | exact Rd.sl (k := 3) rfl (by assumption)) (by first | exact Rd.obj (k := 0) rfl rfl | exact Rd.obj (k := 1) rfl rfl | exact Rd.obj (k := 2) rfl rfl | exact Rd.obj (k := 3) rfl rfl | exact Rd.obj (k := 4) rfl rfl | exact Rd.imm (by assumption) | exact Rd.sl (k := 0) rfl (by assumption) | exact Rd.sl (k := 1) rfl (by assumption) | exact Rd.sl (k := 2) rfl (by assumption) | exact Rd.sl (k := 3) rfl (by assumption))) hS.rd ?_
          refine LW.hu rfl rfl rfl (Hv.storeN (k := 0) ti82 hS rfl rfl rfl rfl (by simp [Value.oneCell'])) fun _ w_4 hS => ?_
          dsimp only [List.set] at hS
          refine LW.nil fun aa ha => hK13 _ _ _ ?_ aa ha
          refine CW.region [0, 1, 2] rfl ?_
          refine LW.ex rfl rfl rfl rfl (Ex.move rfl) hS.rd ?_
          refine LW.ex rfl rfl rfl rfl (Ex.add rfl rfl (by first | exact inc64 (by omega) | exact addN (by omega) | exact w64 (by omega) (by omega))) hS.rd ?_
          refine LW.ex rfl rfl rfl rfl (Ex.assign rfl) hS.rd ?_
          refine LW.nil fun aa ha => ?_
          refine ⟨_, _, ?m9, ⟨i + 1, taps[i], (by first | omega | (simp; done) | (simp; omega)), rfl, rfl, hS, ?_⟩, ha.sub ⟨rfl, rfl, rfl, rfl, rfl, rfl, rfl, trivial⟩⟩
          case m9 => omega
          unfold lastTap; rw [take_foldl _ _ _ _ h1, if_pos (u8_inj (by omega))]
        · have h11_7 := of_decide_eq_false h11_7
          refine PW.nil ?_
          refine LW.nil fun aa ha => hK14 _ _ _ ?_ aa ha
          refine CW.no rfl ?_
          refine CW.skip fun aa ha => hK13 _ _ _ ?_ aa ha
          refine CW.region [0, 1, 2] rfl ?_
          refine LW.ex rfl rfl rfl rfl (Ex.move rfl) hS.rd ?_
          refine LW.ex rfl rfl rfl rfl (Ex.add rfl rfl (by first | exact inc64 (by omega) | exact addN (by omega) | exact w64 (by omega) (by omega))) hS.rd ?_
          refine LW.ex rfl rfl rfl rfl (Ex.assign rfl) hS.rd ?_
          refine LW.nil fun aa ha => ?_
          refine ⟨_, _, ?m9, ⟨i + 1, t, (by first | omega | (simp; done) | (simp; omega)), rfl, rfl, hS, ?_⟩, ha.sub ⟨rfl, rfl, rfl, rfl, rfl, rfl, rfl, trivial⟩⟩
          case m9 => omega
          unfold lastTap at hlt ⊢; rw [take_foldl _ _ _ _ h1, if_neg (fun e => h11_7 (by rw [e])), hlt]
      · have h9_3 := of_decide_eq_false h9_3
        refine LW.nil fun aa ha => hK12 _ _ _ ?_ aa ha
        refine CW.no rfl ?_
        refine CW.exit fun aa ha => hK9 _ _ _ ?_ aa ha
        refine CW.seq fun K15 hK15 => ?_
        have hlb := lastTap_bound (key := key) hT i
        rw [← hlt] at hlb
        have hte : t = lastTap key taps := by rw [hlt, List.take_of_length_le (by omega)]
        have hS := hS.drew
        refine CW.drawP 22 [11, 12, 13, 14, 15, 16, 17, 20] (.ex 0 <| .ex 1 <| .ex 2 <| .ex 3 <| .ex 4 <| .ex 5 <| .ex 6 <| .ex 7 <| .ex 8 <| .ex 9 <| .ex 10 <| .pu 11 <| .pu 12 <| .pu 13 <| .pu 14 <| .pu 15 <| .pu 16 <| .pu 17 <| .ex 18 <| .ex 19 <| .pu 20 <| .ex 21 <| .done) [22, 23, 24, 25, 26] (Rd _ _) (Rd _ _) mixed (by kernel_rfl) rfl rfl (hS.rd.erase 0) hS.rd ?_
        refine QW.ex rfl rfl rfl rfl (Ex.fieldO 1 Try.underlying82 rfl rfl ti3 rfl) ?_
        refine QW.ex rfl rfl rfl rfl (Ex.load1 ti3 rfl rfl (by first | exact Rd.obj (k := 0) rfl rfl | exact Rd.obj (k := 1) rfl rfl | exact Rd.obj (k := 2) rfl rfl | exact Rd.obj (k := 3) rfl rfl | exact Rd.obj (k := 4) rfl rfl | exact Rd.imm (by assumption) | exact Rd.sl (k := 0) rfl (by assumption) | exact Rd.sl (k := 1) rfl (by assumption) | exact Rd.sl (k := 2) rfl (by assumption) | exact Rd.sl (k := 3) rfl (by assumption))) ?_
        refine QW.ex rfl rfl rfl rfl (Ex.fieldO 1 Try.underlying47 rfl rfl ti36 rfl) ?_
        refine QW.ex rfl rfl rfl rfl (Ex.fieldO 0 Try.underlying36 rfl rfl ti3 rfl) ?_
        refine QW.ex rfl rfl rfl rfl (Ex.load1 ti3 rfl rfl (by first | exact Rd.obj (k := 0) rfl rfl | exact Rd.obj (k := 1) rfl rfl | exact Rd.obj (k := 2) rfl rfl | exact Rd.obj (k := 3) rfl rfl | exact Rd.obj (k := 4) rfl rfl | exact Rd.imm (by assumption) | exact Rd.sl (k := 0) rfl (by assumption) | exact Rd.sl (k := 1) rfl (by assumption) | exact Rd.sl (k := 2) rfl (by assumption) | exact Rd.sl (k := 3) rfl (by assumption))) ?_
        refine QW.ex rfl rfl rfl rfl (Ex.add rfl rfl (by first | exact inc64 (by omega) | exact addN (by omega) | exact w64 (by omega) (by omega))) ?_
        refine QW.ex rfl rfl rfl rfl (Ex.fieldO 0 Try.underlying36 rfl rfl ti3 rfl) ?_
        refine QW.ex rfl rfl rfl rfl (Ex.load1 ti3 rfl rfl (by first | exact Rd.obj (k := 0) rfl rfl | exact Rd.obj (k := 1) rfl rfl | exact Rd.obj (k := 2) rfl rfl | exact Rd.obj (k := 3) rfl rfl | exact Rd.obj (k := 4) rfl rfl | exact Rd.imm (by assumption) | exact Rd.sl (k := 0) rfl (by assumption) | exact Rd.sl (k := 1) rfl (by assumption) | exact Rd.sl (k := 2) rfl (by assumption) | exact Rd.sl (k := 3) rfl (by assumption))) ?_
        refine QW.ex rfl rfl rfl rfl (Ex.sub rfl rfl (by first | exact dec64 (by omega) (by omega) | exact subN (by omega) (by omega) | exact w64 (by omega) (by omega))) ?_
        refine QW.ex rfl rfl rfl rfl (Ex.fieldO 2 Try.underlying82 rfl rfl ti3 rfl) ?_
        refine QW.ex rfl rfl rfl rfl (Ex.load1 ti3 rfl rfl (by first | exact Rd.obj (k := 0) rfl rfl | exact Rd.obj (k := 1) rfl rfl | exact Rd.obj (k := 2) rfl rfl | exact Rd.obj (k := 3) rfl rfl | exact Rd.obj (k := 4) rfl rfl | exact Rd.imm (by assumption) | exact Rd.sl (k := 0) rfl (by assumption) | exact Rd.sl (k := 1) rfl (by assumption) | exact Rd.sl (k := 2) rfl (by assumption) | exact Rd.sl (k := 3) rfl (by assumption))) ?_
        refine QW.pu rfl rfl rfl rfl (Ex.fieldO 1 Try.underlying47 rfl rfl ti36 rfl) ?_
        refine QW.pu rfl rfl rfl rfl (Ex.fieldO 1 Try.underlying36 rfl rfl ti3 rfl) ?_
        refine QW.pu rfl rfl rfl rfl (Ex.load1 ti3 rfl rfl (by first | exact Rd.obj (k := 0) rfl rfl | exact Rd.obj (k := 1) rfl rfl | exact Rd.obj (k := 2) rfl rfl | exact Rd.obj (k := 3) rfl rfl | exact Rd.obj (k := 4) rfl rfl | exact Rd.imm (by assumption) | exact Rd.sl (k := 0) rfl (by assumption) | exact Rd.sl (k := 1) rfl (by assumption) | exact Rd.sl (k := 2) rfl (by assumption) | exact Rd.sl (k := 3) rfl (by assumption))) ?_
        refine QW.pu rfl rfl rfl rfl (Ex.add rfl rfl (by first | exact inc64 (by omega) | exact addN (by omega) | exact w64 (by omega) (by omega))) ?_
        refine QW.pu rfl rfl rfl rfl (Ex.fieldO 1 Try.underlying36 rfl rfl ti3 rfl) ?_
        refine QW.pu rfl rfl rfl rfl (Ex.load1 ti3 rfl rfl (by first | exact Rd.obj (k := 0) rfl rfl | exact Rd.obj (k := 1) rfl rfl | exact Rd.obj (k := 2) rfl rfl | exact Rd.obj (k := 3) rfl rfl | exact Rd.obj (k := 4) rfl rfl | exact Rd.imm (by assumption) | exact Rd.sl (k := 0) rfl (by assumption) | exact Rd.sl (k := 1) rfl (by assumption) | exact Rd.sl (k := 2) rfl (by assumption) | exact Rd.sl (k := 3) rfl (by assumption))) ?_
        refine QW.pu rfl rfl rfl rfl (Ex.sub rfl rfl (by first | exact dec64 (by omega) (by omega) | exact subN (by omega) (by omega) | exact w64 (by omega) (by omega))) ?_
        refine QW.ex rfl rfl rfl rfl (Ex.fieldO 3 Try.underlying82 rfl rfl ti3 rfl) ?_
        refine QW.ex rfl rfl rfl rfl (Ex.load1 ti3 rfl rfl (by first | exact Rd.obj (k := 0) rfl rfl | exact Rd.obj (k := 1) rfl rfl | exact Rd.obj (k := 2) rfl rfl | exact Rd.obj (k := 3) rfl rfl | exact Rd.obj (k := 4) rfl rfl | exact Rd.imm (by assumption) | exact Rd.sl (k := 0) rfl (by assumption) | exact Rd.sl (k := 1) rfl (by assumption) | exact Rd.sl (k := 2) rfl (by assumption) | exact Rd.sl (k := 3) rfl (by assumption))) ?_
        refine QW.pu rfl rfl rfl rfl (Ex.add rfl rfl (by first | exact inc64 (by omega) | exact addN (by omega) | exact w64 (by omega) (by omega))) ?_
        refine QW.ex rfl rfl rfl rfl (Ex.fieldO 1 Try.underlying82 rfl rfl ti3 rfl) ?_
        refine QW.nil ?_
        refine TW.hu rfl rfl rfl (Hv.storeObj (k := 0) ti3 hS rfl rfl rfl rfl (by first | (simp; done) | omega)) (fun _ _ h => (h.rd.erase 0)) fun _ w_22 hS => ?_
        dsimp only [List.set] at hS
        refine TW.ex rfl rfl rfl rfl (Ex.fieldO 2 Try.underlying82 rfl rfl ti3 rfl) hS.rd ?_
        refine TW.hu rfl rfl rfl (Hv.storeObj (k := 0) ti3 hS rfl rfl rfl rfl (by first | (simp; done) | omega)) (fun _ _ h => (h.rd.erase 0)) fun _ w_24 hS => ?_
        dsimp only [List.set] at hS
        refine TW.ex rfl rfl rfl rfl (Ex.fieldO 3 Try.underlying82 rfl rfl ti3 rfl) hS.rd ?_
        refine TW.hu rfl rfl rfl (Hv.storeObj (k := 0) ti3 hS rfl rfl rfl rfl (by first | (simp; done) | omega)) (fun _ _ h => (h.rd.erase 0)) fun _ w_26 hS => ?_
        dsimp only [List.set] at hS
        refine TW.nil fun aa ha => hK15 _ _ _ ?_ aa ha
        refine CW.seq fun K16 hK16 => ?_
        have hJ14 : ∀ (wj : World) (t2 : Tap), St w wj μ [Own.obj b11 [.int .u8 t2.Key.toNat, .int .i64 t2.DX, .int .i64 t2.DY, .int .i64 t2.N] 82, Own.sl (some ⟨b34, 0, none⟩) 0 0 82 4 [], Own.obj b10 [.int .i64 cx, .int .i64 cy] 36, Own.obj b8 (areaL a) 57, Own.obj b5 [.int .u8 key.toNat, .int .i64 p.X, .int .i64 p.Y] 47, Own.obj b3 [.slice ada l.length ca, v1, v2] 31] → (t2 = tapNextR t (p.X - cx) (p.Y - cy)) → KW K16 133 [(1, .slice adt taps.length ct), (5, .pointer (some ⟨b5, 0, none⟩)), (11, .pointer (some ⟨b11, 0, none⟩)), (12, .slice (some ⟨b34, 0, none⟩) 0 0), (13, .bool false)] wj := by
          intro wj t2 hS ht2
          refine hK16 _ _ _ ?_
          refine CW.seq fun K17 hK17 => ?_
          refine CW.seq fun K18 hK18 => ?_
          skip
          refine CW.region [0] rfl ?_
          refine LW.ex rfl rfl rfl rfl (Ex.assign rfl) hS.rd ?_
          refine LW.nil fun aa ha => hK18 _ _ _ ?_ aa ha
          refine CW.block ?_
          refine CW.loop (fun q m wl17 => ∃ (i n : Nat) (d : Bool) (xs : List Tap) (ado : Option Addr) (co : Nat), i ≤ taps.length ∧ n = xs.length ∧ n ≤ 2 * i ∧ q = taps.length - i ∧ m = [(1, .slice adt taps.length ct), (5, .pointer (some ⟨b5, 0, none⟩)), (11, .pointer (some ⟨b11, 0, none⟩)), (12, .slice ado n co), (13, .bool d), (15, .int .i64 i)] ∧ St w wl17 μ [Own.obj b11 [.int .u8 t2.Key.toNat, .int .i64 t2.DX, .int .i64 t2.DY, .int .i64 t2.N] 82, Own.sl ado n co 82 4 (xs.flatMap tapL), Own.obj b10 [.int .i64 cx, .int .i64 cy] 36, Own.obj b8 (areaL a) 57, Own.obj b5 [.int .u8 key.toNat, .int .i64 p.X, .int .i64 p.Y] 47, Own.obj b3 [.slice ada l.length ca, v1, v2] 31] ∧ (putFold key t2 (taps.take i) = (d, xs))) _ ⟨0, 0, false, [], some ⟨b34, 0, none⟩, 0, (by first | omega | (simp; done) | (simp; omega)), (by first | omega | (simp; done) | (simp; omega)), (by first | omega | (simp; done) | (simp; omega)), rfl, rfl, hS, rfl⟩ ⟨rfl, rfl, rfl, rfl, rfl, rfl, trivial⟩ ?_
          clear hS
          rintro q m wl17 ⟨i, n, d, xs, ado, co, hi, hn, hni, hq, rfl, hS, hf⟩
          have hcap := hS.sl_cap 1 rfl
          refine CW.seq fun K19 hK19 => ?_
          refine CW.seq fun K20 hK20 => ?_
          refine CW.region [0, 1, 2, 3] rfl ?_
          refine LW.ex rfl rfl rfl rfl (Ex.move rfl) hS.rd ?_
          refine LW.ex rfl rfl rfl rfl (Ex.move rfl) hS.rd ?_
          refine LW.ex rfl rfl rfl rfl (Ex.lenSl rfl Try.underlying33 rfl) hS.rd ?_
          refine LW.ex rfl rfl rfl rfl (Ex.lss rfl rfl rfl) hS.rd ?_
          refine LW.splitB (fun h17_3 => ?_) (fun h17_3 => ?_)
          · have h17_3 := of_decide_eq_true h17_3
            refine LW.nil fun aa ha => hK20 _ _ _ ?_ aa ha
            refine CW.yes rfl ?_
            refine CW.skip fun aa ha => hK19 _ _ _ ?_ aa ha
            refine CW.seq fun K21 hK21 => ?_
            refine CW.block ?_
            refine CW.seq fun K22 hK22 => ?_
            refine CW.seq fun K23 hK23 => ?_
            have h1 : i < taps.length := by omega
            obtain ⟨bl, ol, rfl, k0, k1, k2, k3⟩ := ht.at h1
            have hst : putFold key t2 (taps.take (i + 1)) = putStep key t2 (d, xs) taps[i] := by rw [← hf]; unfold putFold; exact take_foldl _ _ _ _ h1
            have hS := hS.drew
            refine CW.draw 12 (.ex 0 <| .ex 1 <| .ex 2 <| .ex 3 <| .ex 4 <| .ex 5 <| .ex 6 <| .ex 7 <| .ex 8 <| .ex 9 <| .ex 10 <| .ex 11 <| .done) [] (Rd _ _) mixed (by kernel_rfl) rfl rfl hS.rd ?_
            refine PW.ex rfl rfl rfl rfl (Ex.move rfl) ?_
            refine PW.ex rfl rfl rfl rfl (Ex.move rfl) ?_
            refine PW.ex rfl rfl rfl rfl (Ex.indexSl Try.underlying33 ti82 rfl rfl rfl (by omega)) ?_
            refine PW.ex rfl rfl rfl rfl (Ex.fieldO 0 Try.underlying82 rfl rfl ti5 rfl) ?_
            refine PW.ex rfl rfl rfl rfl (Ex.load1 ti5 rfl rfl (by first | exact Rd.obj (k := 0) rfl rfl | exact Rd.obj (k := 1) rfl rfl | exact Rd.obj (k := 2) rfl rfl | exact Rd.obj (k := 3) rfl rfl | exact Rd.obj (k := 4) rfl rfl | exact Rd.imm (by assumption) | exact Rd.sl (k := 0) rfl (by assumption) | exact Rd.sl (k := 1) rfl (by assumption) | exact Rd.sl (k := 2) rfl (by assumption) | exact Rd.sl (k := 3) rfl (by assumption))) ?_
            refine PW.ex rfl rfl rfl rfl (Ex.fieldO 0 Try.underlying47 rfl rfl ti5 rfl) ?_
            refine PW.ex rfl rfl rfl rfl (Ex.load1 ti5 rfl rfl (by first | exact Rd.obj (k := 0) rfl rfl | exact Rd.obj (k := 1) rfl rfl | exact Rd.obj (k := 2) rfl rfl | exact Rd.obj (k := 3) rfl rfl | exact Rd.obj (k := 4) rfl rfl | exact Rd.imm (by assumption) | exact Rd.sl (k := 0) rfl (by assumption) | exact Rd.sl (k := 1) rfl (by assumption) | exact Rd.sl (k := 2) rfl (by assumption) | exact Rd.sl (k := 3) rfl (by assumption))) ?_
            refine PW.ex rfl rfl rfl rfl (Ex.geq rfl rfl rfl) ?_
            refine PW.splitB (fun h19_7 => ?_) (fun h19_7 => ?_)
            · have h19_7 := of_decide_eq_true h19_7
              refine PW.ex rfl rfl rfl rfl (Ex.move rfl) ?_
              refine PW.ex rfl rfl rfl rfl (Ex.move rfl) ?_
              refine PW.splitB (fun h19_9 => ?_) (fun h19_9 => ?_)
              · skip
                refine PW.ex rfl rfl rfl rfl (Ex.not rfl rfl) ?_
                refine PW.ex rfl rfl rfl rfl (by first | exact Ex.pick_yes rfl rfl | exact Ex.pick_no rfl rfl) ?_
                refine PW.nil ?_
                refine LW.nil fun aa ha => hK23 _ _ _ ?_ aa ha
                refine CW.no rfl ?_
                refine CW.skip fun aa ha => hK22 _ _ _ ?_ aa ha
                refine CW.seq fun K24 hK24 => ?_
                skip
                have hS := hS.drew
                refine CW.draw 8 (.ex 0 <| .ex 1 <| .ex 2 <| .ex 3 <| .ex 4 <| .ex 5 <| .ex 6 <| .ex 7 <| .done) [] (Rd _ _) mixed (by kernel_rfl) rfl rfl hS.rd ?_
                refine PW.ex rfl rfl rfl rfl (Ex.move rfl) ?_
                refine PW.ex rfl rfl rfl rfl (Ex.move rfl) ?_
                refine PW.ex rfl rfl rfl rfl (Ex.indexSl Try.underlying33 ti82 rfl rfl rfl (by omega)) ?_
                refine PW.ex rfl rfl rfl rfl (Ex.fieldO 0 Try.underlying82 rfl rfl ti5 rfl) ?_
                refine PW.ex rfl rfl rfl rfl (Ex.load1 ti5 rfl rfl (by first | exact Rd.obj (k := 0) rfl rfl | exact Rd.obj (k := 1) rfl rfl | exact Rd.obj (k := 2) rfl rfl | exact Rd.obj (k := 3) rfl rfl | exact Rd.obj (k := 4) rfl rfl | exact Rd.imm (by assumption) | exact Rd.sl (k := 0) rfl (by assumption) | exact Rd.sl (k := 1) rfl (by assumption) | exact Rd.sl (k := 2) rfl (by assumption) | exact Rd.sl (k := 3) rfl (by assumption))) ?_
                refine PW.ex rfl rfl rfl rfl (Ex.fieldO 0 Try.underlying47 rfl rfl ti5 rfl) ?_
                refine PW.ex rfl rfl rfl rfl (Ex.load1 ti5 rfl rfl (by first | exact Rd.obj (k := 0) rfl rfl | exact Rd.obj (k := 1) rfl rfl | exact Rd.obj (k := 2) rfl rfl | exact Rd.obj (k := 3) rfl rfl | exact Rd.obj (k := 4) rfl rfl | exact Rd.imm (by assumption) | exact Rd.sl (k := 0) rfl (by assumption) | exact Rd.sl (k := 1) rfl (by assumption) | exact Rd.sl (k := 2) rfl (by assumption) | exact Rd.sl (k := 3) rfl (by assumption))) ?_
                refine PW.ex rfl rfl rfl rfl (Ex.neq rfl rfl rfl) ?_
                refine PW.splitB (fun h22_7 => ?_) (fun h22_7 => ?_)
                · have h22_7 := of_decide_eq_true h22_7
                  refine PW.nil ?_
                  refine LW.nil fun aa ha => hK24 _ _ _ ?_ aa ha
                  refine CW.yes rfl ?_
                  refine CW.region [0, 1, 2, 3, 4, 5, 6, 7] rfl ?_
                  refine LW.ex rfl rfl rfl rfl (Ex.move rfl) hS.rd ?_
                  refine LW.ex rfl rfl rfl rfl (Ex.move rfl) hS.rd ?_
                  refine LW.ex rfl rfl rfl rfl (Ex.move rfl) hS.rd ?_
                  refine LW.ex rfl rfl rfl rfl (Ex.indexSl Try.underlying33 ti82 rfl rfl rfl (by omega)) hS.rd ?_
                  refine LW.ex rfl rfl rfl rfl (Ex.load4c ti82 rfl rfl (by first | exact Rd.obj (k := 0) rfl rfl | exact Rd.obj (k := 1) rfl rfl | exact Rd.obj (k := 2) rfl rfl | exact Rd.obj (k := 3) rfl rfl | exact Rd.obj (k := 4) rfl rfl | exact Rd.imm (by assumption) | exact Rd.sl (k := 0) rfl (by assumption) | exact Rd.sl (k := 1) rfl (by assumption) | exact Rd.sl (k := 2) rfl (by assumption) | exact Rd.sl (k := 3) rfl (by assumption)) (by first | exact Rd.obj (k := 0) rfl rfl | exact Rd.obj (k := 1) rfl rfl | exact Rd.obj (k := 2) rfl rfl | exact Rd.obj (k := 3) rfl rfl | exact Rd.obj (k := 4) rfl rfl | exact Rd.imm (by assumption) | exact Rd.sl (k := 0) rfl (by assumption) | exact Rd.sl (k := 1) rfl (by assumption) | exact Rd.sl (k := 2) rfl (by assumption) | exact Rd.sl (k := 3) rfl (by assumption)) (by first | exact Rd.obj (k := 0) rfl rfl | exact Rd.obj (k := 1) rfl rfl | exact Rd.obj (k := 2) rfl rfl | exact Rd.obj (k := 3) rfl rfl | exact Rd.obj (k := 4) rfl rfl | exact Rd.imm (by assumption) | exact Rd.sl (k := 0) rfl (by assumption) | exact Rd.sl (k := 1) rfl (by assumption) | exact Rd.sl (k := 2) rfl (by assumption) | exact Rd.sl (k := 3) rfl (by assumption)) (by first | exact Rd.obj (k := 0) rfl rfl | exact Rd.obj (k := 1) rfl rfl | exact Rd.obj (k := 2) rfl rfl | exact Rd.obj (k := 3) rfl rfl | exact Rd.obj (k := 4) rfl rfl | exact Rd.imm (by assumption) | exact Rd.sl (k := 0) rfl (by assumption) | exact Rd.sl (k := 1) rfl (by assumption) | exact Rd.sl (k := 2) rfl (by assumption) | exact Rd.sl (k := 3) rfl (by assumption))) hS.rd ?_
                  refine LW.hv rfl rfl rfl rfl (Hv.buildSl hS Try.underlying33 ti82 rfl rfl rfl rfl rfl rfl) fun v w124 ⟨b124, hv, hb124, hS⟩ => ?_
                  subst hv
                  refine LW.hv rfl rfl rfl rfl (Hv.append (k := 2) rfl Try.underlying33 ti82 rfl hS rfl rfl rfl rfl (Rd.objAll (k := 0) rfl hS.rd) (by simp [Value.oneCell']) (by unfold maxLen; omega) (by omega)) fun v w125 ⟨ad125, c125, hv, hS⟩ => ?_
                  subst hv
                  dsimp only [List.set] at hS
                  have hS := hS.drop 0 rfl
                  dsimp only [List.eraseIdx] at hS
                  rw [flatTap] at hS
                  refine LW.ex rfl rfl rfl rfl (Ex.assign rfl) hS.rd ?_
                  refine LW.nil fun aa ha => hK21 _ _ _ ?_ aa ha
                  refine CW.region [0, 1, 2] rfl ?_
                  refine LW.ex rfl rfl rfl rfl (Ex.move rfl) hS.rd ?_
                  refine LW.ex rfl rfl rfl rfl (Ex.add rfl rfl (by first | exact inc64 (by omega) | exact addN (by omega) | exact w64 (by omega) (by omega))) hS.rd ?_
                  refine LW.ex rfl rfl rfl rfl (Ex.assign rfl) hS.rd ?_
                  refine LW.nil fun aa ha => ?_
                  refine ⟨_, _, ?m17, ⟨i + 1, n + 1, d, xs ++ [taps[i]], _, _, (by first | omega | (simp; done) | (simp; omega)), (by first | omega | (simp; done) | (simp; omega)), (by first | omega | (simp; done) | (simp; omega)), rfl, rfl, hS, ?_⟩, ha.sub ⟨rfl, rfl, rfl, rfl, rfl, rfl, trivial⟩⟩
                  case m17 => omega
                  rw [hst]; unfold putStep; rw [if_neg (by first | (intro hc; omega) | (intro hc; rw [h19_9] at hc; simp at hc)), if_neg (fun e => h22_7 (by rw [e]))]
                · have h22_7 := of_decide_eq_false h22_7
                  refine PW.nil ?_
                  refine LW.nil fun aa ha => hK24 _ _ _ ?_ aa ha
                  refine CW.no rfl ?_
                  refine CW.skip fun aa ha => hK21 _ _ _ ?_ aa ha
                  refine CW.region [0, 1, 2] rfl ?_
                  refine LW.ex rfl rfl rfl rfl (Ex.move rfl) hS.rd ?_
                  refine LW.ex rfl rfl rfl rfl (Ex.add rfl rfl (by first | exact inc64 (by omega) | exact addN (by omega) | exact w64 (by omega) (by omega))) hS.rd ?_
                  refine LW.ex rfl rfl rfl rfl (Ex.assign rfl) hS.rd ?_
                  refine LW.nil fun aa ha => ?_
                  refine ⟨_, _, ?m17, ⟨i + 1, n, d, xs, _, _, (by first | omega | (simp; done) | (simp; omega)), (by first | omega | (simp; done) | (simp; omega)), (by first | omega | (simp; done) | (simp; omega)), rfl, rfl, hS, ?_⟩, ha.sub ⟨rfl, rfl, rfl, rfl, rfl, rfl, trivial⟩⟩
                  case m17 => omega
                  rw [hst]; unfold putStep; rw [if_neg (by first | (intro hc; omega) | (intro hc; rw [h19_9] at hc; simp at hc)), if_pos (u8_inj (by omega))]
              · skip
                refine PW.ex rfl rfl rfl rfl (Ex.not rfl rfl) ?_
                refine PW.ex rfl rfl rfl rfl (by first | exact Ex.pick_yes rfl rfl | exact Ex.pick_no rfl rfl) ?_
                refine PW.nil ?_
                refine LW.nil fun aa ha => hK23 _ _ _ ?_ aa ha
                refine CW.yes rfl ?_
                refine CW.seq fun K25 hK25 => ?_
                refine CW.region [0, 1, 2, 3, 4] rfl ?_
                refine LW.ex rfl rfl rfl rfl (Ex.move rfl) hS.rd ?_
                refine LW.ex rfl rfl rfl rfl (Ex.load4c ti82 rfl rfl (by first | exact Rd.obj (k := 0) rfl rfl | exact Rd.obj (k := 1) rfl rfl | exact Rd.obj (k := 2) rfl rfl | exact Rd.obj (k := 3) rfl rfl | exact Rd.obj (k := 4) rfl rfl | exact Rd.imm (by assumption) | exact Rd.sl (k := 0) rfl (by assumption) | exact Rd.sl (k := 1) rfl (by assumption) | exact Rd.sl (k := 2) rfl (by assumption) | exact Rd.sl (k := 3) rfl (by assumption)) (by first | exact Rd.obj (k := 0) rfl rfl | exact Rd.obj (k := 1) rfl rfl | exact Rd.obj (k := 2) rfl rfl | exact Rd.obj (k := 3) rfl rfl | exact Rd.obj (k := 4) rfl rfl | exact Rd.imm (by assumption) | exact Rd.sl (k := 0) rfl (by assumption) | exact Rd.sl (k := 1) rfl (by assumption) | exact Rd.sl (k := 2) rfl (by assumption) | exact Rd.sl (k := 3) rfl (by assumption)) (by first | exact Rd.obj (k := 0) rfl rfl | exact Rd.obj (k := 1) rfl rfl | exact Rd.obj (k := 2) rfl rfl | exact Rd.obj (k := 3) rfl rfl | exact Rd.obj (k := 4) rfl rfl | exact Rd.imm (by assumption) | exact Rd.sl (k := 0) rfl (by assumption) | exact Rd.sl (k := 1) rfl (by assumption) | exact Rd.sl (k := 2) rfl (by assumption) | exact Rd.sl (k := 3) rfl (by assumption)) (by first | exact Rd.obj (k := 0) rfl rfl | exact Rd.obj (k := 1) rfl rfl | exact Rd.obj (k := 2) rfl rfl | exact Rd.obj (k := 3) rfl rfl | exact Rd.obj (k := 4) rfl rfl | exact Rd.imm (by assumption) | exact Rd.sl (k := 0) rfl (by assumption) | exact Rd.sl (k := 1) rfl (by assumption) | exact Rd.sl (k := 2) rfl (by assumption) | exact Rd.sl (k := 3) rfl (by assumption))) hS.rd ?_
                refine LW.hv rfl rfl rfl rfl (Hv.buildSl hS Try.underlying33 ti82 rfl rfl rfl rfl rfl rfl) fun v w109 ⟨b109, hv, hb109, hS⟩ => ?_
                subst hv
                refine LW.hv rfl rfl rfl rfl (Hv.append (k := 2) rfl Try.underlying33 ti82 rfl hS rfl rfl rfl rfl (Rd.objAll (k := 0) rfl hS.rd) (by simp [Value.oneCell']) (by unfold maxLen; omega) (by omega)) fun v w110 ⟨ad110, c110, hv, hS⟩ => ?_
                subst hv
                dsimp only [List.set] at hS
                have hS := hS.drop 0 rfl
                dsimp only [List.eraseIdx] at hS
                rw [flatTap] at hS
                refine LW.ex rfl rfl rfl rfl (Ex.assign rfl) hS.rd ?_
                refine LW.nil fun aa ha => hK25 _ _ _ ?_ aa ha
                refine CW.region [0] rfl ?_
                refine LW.ex rfl rfl rfl rfl (Ex.assign rfl) hS.rd ?_
                refine LW.nil fun aa ha => hK22 _ _ _ ?_ aa ha
                refine CW.seq fun K26 hK26 => ?_
                skip
                have hS := hS.drew
                refine CW.draw 8 (.ex 0 <| .ex 1 <| .ex 2 <| .ex 3 <| .ex 4 <| .ex 5 <| .ex 6 <| .ex 7 <| .done) [] (Rd _ _) mixed (by kernel_rfl) rfl rfl hS.rd ?_
                refine PW.ex rfl rfl rfl rfl (Ex.move rfl) ?_
                refine PW.ex rfl rfl rfl rfl (Ex.move rfl) ?_
                refine PW.ex rfl rfl rfl rfl (Ex.indexSl Try.underlying33 ti82 rfl rfl rfl (by omega)) ?_
                refine PW.ex rfl rfl rfl rfl (Ex.fieldO 0 Try.underlying82 rfl rfl ti5 rfl) ?_
                refine PW.ex rfl rfl rfl rfl (Ex.load1 ti5 rfl rfl (by first | exact Rd.obj (k := 0) rfl rfl | exact Rd.obj (k := 1) rfl rfl | exact Rd.obj (k := 2) rfl rfl | exact Rd.obj (k := 3) rfl rfl | exact Rd.obj (k := 4) rfl rfl | exact Rd.imm (by assumption) | exact Rd.sl (k := 0) rfl (by assumption) | exact Rd.sl (k := 1) rfl (by assumption) | exact Rd.sl (k := 2) rfl (by assumption) | exact Rd.sl (k := 3) rfl (by assumption))) ?_
                refine PW.ex rfl rfl rfl rfl (Ex.fieldO 0 Try.underlying47 rfl rfl ti5 rfl) ?_
                refine PW.ex rfl rfl rfl rfl (Ex.load1 ti5 rfl rfl (by first | exact Rd.obj (k := 0) rfl rfl | exact Rd.obj (k := 1) rfl rfl | exact Rd.obj (k := 2) rfl rfl | exact Rd.obj (k := 3) rfl rfl | exact Rd.obj (k := 4) rfl rfl | exact Rd.imm (by assumption) | exact Rd.sl (k := 0) rfl (by assumption) | exact Rd.sl (k := 1) rfl (by assumption) | exact Rd.sl (k := 2) rfl (by assumption) | exact Rd.sl (k := 3) rfl (by assumption))) ?_
                refine PW.ex rfl rfl rfl rfl (Ex.neq rfl rfl rfl) ?_
                refine PW.splitB (fun h22_7 => ?_) (fun h22_7 => ?_)
                · have h22_7 := of_decide_eq_true h22_7
                  refine PW.nil ?_
                  refine LW.nil fun aa ha => hK26 _ _ _ ?_ aa ha
                  refine CW.yes rfl ?_
                  refine CW.region [0, 1, 2, 3, 4, 5, 6, 7] rfl ?_
                  refine LW.ex rfl rfl rfl rfl (Ex.move rfl) hS.rd ?_
                  refine LW.ex rfl rfl rfl rfl (Ex.move rfl) hS.rd ?_
                  refine LW.ex rfl rfl rfl rfl (Ex.move rfl) hS.rd ?_
                  refine LW.ex rfl rfl rfl rfl (Ex.indexSl Try.underlying33 ti82 rfl rfl rfl (by omega)) hS.rd ?_
                  refine LW.ex rfl rfl rfl rfl (Ex.load4c ti82 rfl rfl (by first | exact Rd.obj (k := 0) rfl rfl | exact Rd.obj (k := 1) rfl rfl | exact Rd.obj (k := 2) rfl rfl | exact Rd.obj (k := 3) rfl rfl | exact Rd.obj (k := 4) rfl rfl | exact Rd.imm (by assumption) | exact Rd.sl (k := 0) rfl (by assumption) | exact Rd.sl (k := 1) rfl (by assumption) | exact Rd.sl (k := 2) rfl (by assumption) | exact Rd.sl (k := 3) rfl (by assumption)) (by first | exact Rd.obj (k := 0) rfl rfl | exact Rd.obj (k := 1) rfl rfl | exact Rd.obj (k := 2) rfl rfl | exact Rd.obj (k := 3) rfl rfl | exact Rd.obj (k := 4) rfl rfl | exact Rd.imm (by assumption) | exact Rd.sl (k := 0) rfl (by assumption) | exact Rd.sl (k := 1) rfl (by assumption) | exact Rd.sl (k := 2) rfl (by assumption) | exact Rd.sl (k := 3) rfl (by assumption)) (by first | exact Rd.obj (k := 0) rfl rfl | exact Rd.obj (k := 1) rfl rfl | exact Rd.obj (k := 2) rfl rfl | exact Rd.obj (k := 3) rfl rfl | exact Rd.obj (k := 4) rfl rfl | exact Rd.imm (by assumption) | exact Rd.sl (k := 0) rfl (by assumption) | exact Rd.sl (k := 1) rfl (by assumption) | exact Rd.sl (k := 2) rfl (by assumption) | exact Rd.sl (k := 3) rfl (by assumption)) (by first | exact Rd.obj (k := 0) rfl rfl | exact Rd.obj (k := 1) rfl rfl | exact Rd.obj (k := 2) rfl rfl | exact Rd.obj (k := 3) rfl rfl | exact Rd.obj (k := 4) rfl rfl | exact Rd.imm (by assumption) | exact Rd.sl (k := 0) rfl (by assumption) | exact Rd.sl (k := 1) rfl (by assumption) | exact Rd.sl (k := 2) rfl (by assumption) | exact Rd.sl (k := 3) rfl (by assumption))) hS.rd ?_
                  refine LW.hv rfl rfl rfl rfl (Hv.buildSl hS Try.underlying33 ti82 rfl rfl rfl rfl rfl rfl) fun v w124 ⟨b124, hv, hb124, hS⟩ => ?_
                  subst hv
                  refine LW.hv rfl rfl rfl rfl (Hv.append (k := 2) rfl Try.underlying33 ti82 rfl hS rfl rfl rfl rfl (Rd.objAll (k := 0) rfl hS.rd) (by simp [Value.oneCell']) (by unfold maxLen; omega) (by omega)) fun v w125 ⟨ad125, c125, hv, hS⟩ => ?_
                  subst hv
                  dsimp only [List.set] at hS
                  have hS := hS.drop 0 rfl
                  dsimp only [List.eraseIdx] at hS
                  rw [flatTap] at hS
                  refine LW.ex rfl rfl rfl rfl (Ex.assign rfl) hS.rd ?_
                  refine LW.nil fun aa ha => hK21 _ _ _ ?_ aa ha
                  refine CW.region [0, 1, 2] rfl ?_
                  refine LW.ex rfl rfl rfl rfl (Ex.move rfl) hS.rd ?_
                  refine LW.ex rfl rfl rfl rfl (Ex.add rfl rfl (by first | exact inc64 (by omega) | exact addN (by omega) | exact w64 (by omega) (by omega))) hS.rd ?_
                  refine LW.ex rfl rfl rfl rfl (Ex.assign rfl) hS.rd ?_
                  refine LW.nil fun aa ha => ?_
                  refine ⟨_, _, ?m17, ⟨i + 1, n + 1 + 1, true, xs ++ [t2] ++ [taps[i]], _, _, (by first | omega | (simp; done) | (simp; omega)), (by first | omega | (simp; done) | (simp; omega)), (by first | omega | (simp; done) | (simp; omega)), rfl, rfl, hS, ?_⟩, ha.sub ⟨rfl, rfl, rfl, rfl, rfl, rfl, trivial⟩⟩
                  case m17 => omega
                  rw [hst]; unfold putStep; rw [if_pos ⟨by omega, h19_9⟩, if_neg (fun e => h22_7 (by rw [e]))]
                · have h22_7 := of_decide_eq_false h22_7
                  refine PW.nil ?_
                  refine LW.nil fun aa ha => hK26 _ _ _ ?_ aa ha
                  refine CW.no rfl ?_
                  refine CW.skip fun aa ha => hK21 _ _ _ ?_ aa ha
                  refine CW.region [0, 1, 2] rfl ?_
                  refine LW.ex rfl rfl rfl rfl (Ex.move rfl) hS.rd ?_
                  refine LW.ex rfl rfl rfl rfl (Ex.add rfl rfl (by first | exact inc64 (by omega) | exact addN (by omega) | exact w64 (by omega) (by omega))) hS.rd ?_
                  refine LW.ex rfl rfl rfl rfl (Ex.assign rfl) hS.rd ?_
                  refine LW.nil fun aa ha => ?_
                  refine ⟨_, _, ?m17, ⟨i + 1, n + 1, true, xs ++ [t2], _, _, (by first | omega | (simp; done) | (simp; omega)), (by first | omega | (simp; done) | (simp; omega)), (by first | omega | (simp; done) | (simp; omega)), rfl, rfl, hS, ?_⟩, ha.sub ⟨rfl, rfl, rfl, rfl, rfl, rfl, trivial⟩⟩
                  case m17 => omega
                  rw [hst]; unfold putStep; rw [if_pos ⟨by omega, h19_9⟩, if_pos (u8_inj (by omega))]
            · have h19_7 := of_decide_eq_false h19_7
              refine PW.ex rfl rfl rfl rfl (Ex.move rfl) ?_
              refine PW.skip rfl rfl rfl rfl ?_
              refine PW.skip rfl rfl rfl rfl ?_
              refine PW.ex rfl rfl rfl rfl (by first | exact Ex.pick_yes rfl rfl | exact Ex.pick_no rfl rfl) ?_
              refine PW.nil ?_
              refine LW.nil fun aa ha => hK23 _ _ _ ?_ aa ha
              refine CW.no rfl ?_
              refine CW.skip fun aa ha => hK22 _ _ _ ?_ aa ha
              refine CW.seq fun K27 hK27 => ?_
              skip
              have hS := hS.drew
              refine CW.draw 8 (.ex 0 <| .ex 1 <| .ex 2 <| .ex 3 <| .ex 4 <| .ex 5 <| .ex 6 <| .ex 7 <| .done) [] (Rd _ _) mixed (by kernel_rfl) rfl rfl hS.rd ?_
              refine PW.ex rfl rfl rfl rfl (Ex.move rfl) ?_
              refine PW.ex rfl rfl rfl rfl (Ex.move rfl) ?_
              refine PW.ex rfl rfl rfl rfl (Ex.indexSl Try.underlying33 ti82 rfl rfl rfl (by omega)) ?_
              refine PW.ex rfl rfl rfl rfl (Ex.fieldO 0 Try.underlying82 rfl rfl ti5 rfl) ?_
              refine PW.ex rfl rfl rfl rfl (Ex.load1 ti5 rfl rfl (by first | exact Rd.obj (k := 0) rfl rfl | exact Rd.obj (k := 1) rfl rfl | exact Rd.obj (k := 2) rfl rfl | exact Rd.obj (k := 3) rfl rfl | exact Rd.obj (k := 4) rfl rfl | exact Rd.imm (by assumption) | exact Rd.sl (k := 0) rfl (by assumption) | exact Rd.sl (k := 1) rfl (by assumption) | exact Rd.sl (k := 2) rfl (by assumption) | exact Rd.sl (k := 3) rfl (by assumption))) ?_
              refine PW.ex rfl rfl rfl rfl (Ex.fieldO 0 Try.underlying47 rfl rfl ti5 rfl) ?_
              refine PW.ex rfl rfl rfl rfl (Ex.load1 ti5 rfl rfl (by first | exact Rd.obj (k := 0) rfl rfl | exact Rd.obj (k := 1) rfl rfl | exact Rd.obj (k := 2) rfl rfl | exact Rd.obj (k := 3) rfl rfl | exact Rd.obj (k := 4) rfl rfl | exact Rd.imm (by assumption) | exact Rd.sl (k := 0) rfl (by assumption) | exact Rd.sl (k := 1) rfl (by assumption) | exact Rd.sl (k := 2) rfl (by assumption) | exact Rd.sl (k := 3) rfl (by assumption))) ?_
              refine PW.ex rfl rfl rfl rfl (Ex.neq rfl rfl rfl) ?_
              refine PW.splitB (fun h22_7 => ?_) (fun h22_7 => ?_)
              · have h22_7 := of_decide_eq_true h22_7
                refine PW.nil ?_
                refine LW.nil fun aa ha => hK27 _ _ _ ?_ aa ha
                refine CW.yes rfl ?_
                refine CW.region [0, 1, 2, 3, 4, 5, 6, 7] rfl ?_
                refine LW.ex rfl rfl rfl rfl (Ex.move rfl) hS.rd ?_
                refine LW.ex rfl rfl rfl rfl (Ex.move rfl) hS.rd ?_
                refine LW.ex rfl rfl rfl rfl (Ex.move rfl) hS.rd ?_
                refine LW.ex rfl rfl rfl rfl (Ex.indexSl Try.underlying33 ti82 rfl rfl rfl (by omega)) hS.rd ?_
                refine LW.ex rfl rfl rfl rfl (Ex.load4c ti82 rfl rfl (by first | exact Rd.obj (k := 0) rfl rfl | exact Rd.obj (k := 1) rfl rfl | exact Rd.obj (k := 2) rfl rfl | exact Rd.obj (k := 3) rfl rfl | exact Rd.obj (k := 4) rfl rfl | exact Rd.imm (by assumption) | exact Rd.sl (k := 0) rfl (by assumption) | exact Rd.sl (k := 1) rfl (by assumption) | exact Rd.sl (k := 2) rfl (by assumption) | exact Rd.sl (k := 3) rfl (by assumption)) (by first | exact Rd.obj (k := 0) rfl rfl | exact Rd.obj (k := 1) rfl rfl | exact Rd.obj (k := 2) rfl rfl | exact Rd.obj (k := 3) rfl rfl | exact Rd.obj (k := 4) rfl rfl | exact Rd.imm (by assumption) | exact Rd.sl (k := 0) rfl (by assumption) | exact Rd.sl (k := 1) rfl (by assumption) | exact Rd.sl (k := 2) rfl (by assumption) | exact Rd.sl (k := 3) rfl (by assumption)) (by first | exact Rd.obj (k := 0) rfl rfl | exact Rd.obj (k := 1) rfl rfl | exact Rd.obj (k := 2) rfl rfl | exact Rd.obj (k := 3) rfl rfl | exact Rd.obj (k := 4) rfl rfl | exact Rd.imm (by assumption) | exact Rd.sl (k := 0) rfl (by assumption) | exact Rd.sl (k := 1) rfl (by assumption) | exact Rd.sl (k := 2) rfl (by assumption) | exact Rd.sl (k := 3) rfl (by assumption)) (by first | exact Rd.obj (k := 0) rfl rfl | exact Rd.obj (k := 1) rfl rfl | exact Rd.obj (k := 2) rfl rfl | exact Rd.obj (k := 3) rfl rfl | exact Rd.obj (k := 4) rfl rfl | exact Rd.imm (by assumption) | exact Rd.sl (k := 0) rfl (by assumption) | exact Rd.sl (k := 1) rfl (by assumption) | exact Rd.sl (k := 2) rfl (by assumption) | exact Rd.sl (k := 3) rfl (by assumption))) hS.rd ?_
                refine LW.hv rfl rfl rfl rfl (Hv.buildSl hS Try.underlying33 ti82 rfl rfl rfl rfl rfl rfl) fun v w124 ⟨b124, hv, hb124, hS⟩ => ?_
                subst hv
                refine LW.hv rfl rfl rfl rfl (Hv.append (k := 2) rfl Try.underlying33 ti82 rfl hS rfl rfl rfl rfl (Rd.objAll (k := 0) rfl hS.rd) (by simp [Value.oneCell']) (by unfold maxLen; omega) (by omega)) fun v w125 ⟨ad125, c125, hv, hS⟩ => ?_
                subst hv
                dsimp only [List.set] at hS
                have hS := hS.drop 0 rfl
                dsimp only [List.eraseIdx] at hS
                rw [flatTap] at hS
                refine LW.ex rfl rfl rfl rfl (Ex.assign rfl) hS.rd ?_
                refine LW.nil fun aa ha => hK21 _ _ _ ?_ aa ha
                refine CW.region [0, 1, 2] rfl ?_
                refine LW.ex rfl rfl rfl rfl (Ex.move rfl) hS.rd ?_
                refine LW.ex rfl rfl rfl rfl (Ex.add rfl rfl (by first | exact inc64 (by omega) | exact addN (by omega) | exact w64 (by omega) (by omega))) hS.rd ?_
                refine LW.ex rfl rfl rfl rfl (Ex.assign rfl) hS.rd ?_
                refine LW.nil fun aa ha => ?_
                refine ⟨_, _, ?m17, ⟨i + 1, n + 1, d, xs ++ [taps[i]], _, _, (by first | omega | (simp; done) | (simp; omega)), (by first | omega | (simp; done) | (simp; omega)), (by first | omega | (simp; done) | (simp; omega)), rfl, rfl, hS, ?_⟩, ha.sub ⟨rfl, rfl, rfl, rfl, rfl, rfl, trivial⟩⟩
                case m17 => omega
                rw [hst]; unfold putStep; rw [if_neg (by first | (intro hc; omega) | (intro hc; rw [h19_9] at hc; simp at hc)), if_neg (fun e => h22_7 (by rw [e]))]
              · have h22_7 := of_decide_eq_false h22_7
                refine PW.nil ?_
                refine LW.nil fun aa ha => hK27 _ _ _ ?_ aa ha
                refine CW.no rfl ?_
                refine CW.skip fun aa ha => hK21 _ _ _ ?_ aa ha
                refine CW.region [0, 1, 2] rfl ?_
                refine LW.ex rfl rfl rfl rfl (Ex.move rfl) hS.rd ?_
                refine LW.ex rfl rfl rfl rfl (Ex.add rfl rfl (by first | exact inc64 (by omega) | exact addN (by omega) | exact w64 (by omega) (by omega))) hS.rd ?_
                refine LW.ex rfl rfl rfl rfl (Ex.assign rfl) hS.rd ?_
                refine LW.nil fun aa ha => ?_
                refine ⟨_, _, ?m17, ⟨i + 1, n, d, xs, _, _, (by first | omega | (simp; done) | (simp; omega)), (by first | omega | (simp; done) | (simp; omega)), (by first | omega | (simp; done) | (simp; omega)), rfl, rfl, hS, ?_⟩, ha.sub ⟨rfl, rfl, rfl, rfl, rfl, rfl, trivial⟩⟩
                case m17 => omega
                rw [hst]; unfold putStep; rw [if_neg (by first | (intro hc; omega) | (intro hc; rw [h19_9] at hc; simp at hc)), if_pos (u8_inj (by omega))]
          · have h17_3 := of_decide_eq_false h17_3
            refine LW.nil fun aa ha => hK20 _ _ _ ?_ aa ha
            refine CW.no rfl ?_
            refine CW.exit fun aa ha => hK17 _ _ _ ?_ aa ha
            refine CW.seq fun K28 hK28 => ?_
            refine CW.seq fun K29 hK29 => ?_
            have hff : putFold key t2 taps = (d, xs) := by rw [← hf, List.take_of_length_le (by omega)]
            have hfin : adaptR l taps key p = (putTap key t2 taps, 0) := by
              unfold adaptR
              rw [if_neg (by rw [h1_2]; simp), hao]
              simp only
              rw [ht2, hte, hcx, hcy]
            refine CW.region [0, 1] rfl ?_
            refine LW.ex rfl rfl rfl rfl (Ex.move rfl) hS.rd ?_
            refine LW.splitB (fun h24_0 => ?_) (fun h24_0 => ?_)
            · skip
              refine LW.ex rfl rfl rfl rfl (Ex.not rfl rfl) hS.rd ?_
              refine LW.nil fun aa ha => hK29 _ _ _ ?_ aa ha
              refine CW.no rfl ?_
              refine CW.skip fun aa ha => hK28 _ _ _ ?_ aa ha
              refine CW.seq fun K30 hK30 => ?_
              refine CW.region [0, 1, 2] rfl ?_
              refine LW.ex rfl rfl rfl rfl (Ex.move rfl) hS.rd ?_
              refine LW.ex rfl rfl rfl rfl (Ex.assign rfl) hS.rd ?_
              refine LW.ex rfl rfl rfl rfl (Ex.assign rfl) hS.rd ?_
              refine LW.nil fun aa ha => hK30 _ _ _ ?_ aa ha
              refine CW.ret fun aa ha => ?_
              obtain ⟨bs, μ', hmm, hS, hφ⟩ := hS.shut 1 rfl
              refine ret_two ha Try.results18 rfl rfl ?_
              have hpt : putTap key t2 taps = xs := by unfold putTap; rw [hff, h24_0]; rfl
              refine ⟨_, μ', rfl, hS.below, hmm, hS.imm, ?_⟩
              rw [hfin, hpt]
              exact ⟨_, _, by rw [← hn], Sl.of_own hφ (tapReps _ _) hn⟩
            · skip
              refine LW.ex rfl rfl rfl rfl (Ex.not rfl rfl) hS.rd ?_
              refine LW.nil fun aa ha => hK29 _ _ _ ?_ aa ha
              refine CW.yes rfl ?_
              refine CW.region [0, 1, 2, 3, 4] rfl ?_
              refine LW.ex rfl rfl rfl rfl (Ex.move rfl) hS.rd ?_
              refine LW.ex rfl rfl rfl rfl (Ex.load4c ti82 rfl rfl (by first | exact Rd.obj (k := 0) rfl rfl | exact Rd.obj (k := 1) rfl rfl | exact Rd.obj (k := 2) rfl rfl | exact Rd.obj (k := 3) rfl rfl | exact Rd.obj (k := 4) rfl rfl | exact Rd.imm (by assumption) | exact Rd.sl (k := 0) rfl (by assumption) | exact Rd.sl (k := 1) rfl (by assumption) | exact Rd.sl (k := 2) rfl (by assumption) | exact Rd.sl (k := 3) rfl (by assumption)) (by first | exact Rd.obj (k := 0) rfl rfl | exact Rd.obj (k := 1) rfl rfl | exact Rd.obj (k := 2) rfl rfl | exact Rd.obj (k := 3) rfl rfl | exact Rd.obj (k := 4) rfl rfl | exact Rd.imm (by assumption) | exact Rd.sl (k := 0) rfl (by assumption) | exact Rd.sl (k := 1) rfl (by assumption) | exact Rd.sl (k := 2) rfl (by assumption) | exact Rd.sl (k := 3) rfl (by assumption)) (by first | exact Rd.obj (k := 0) rfl rfl | exact Rd.obj (k := 1) rfl rfl | exact Rd.obj (k := 2) rfl rfl | exact Rd.obj (k := 3) rfl rfl | exact Rd.obj (k := 4) rfl rfl | exact Rd.imm (by assumption) | exact Rd.sl (k := 0) rfl (by assumption) | exact Rd.sl (k := 1) rfl (by assumption) | exact Rd.sl (k := 2) rfl (by assumption) | exact Rd.sl (k := 3) rfl (by assumption)) (by first | exact Rd.obj (k := 0) rfl rfl | exact Rd.obj (k := 1) rfl rfl | exact Rd.obj (k := 2) rfl rfl | exact Rd.obj (k := 3) rfl rfl | exact Rd.obj (k := 4) rfl rfl | exact Rd.imm (by assumption) | exact Rd.sl (k := 0) rfl (by assumption) | exact Rd.sl (k := 1) rfl (by assumption) | exact Rd.sl (k := 2) rfl (by assumption) | exact Rd.sl (k := 3) rfl (by assumption))) hS.rd ?_
              refine LW.hv rfl rfl rfl rfl (Hv.buildSl hS Try.underlying33 ti82 rfl rfl rfl rfl rfl rfl) fun v w130 ⟨b130, hv, hb130, hS⟩ => ?_
              subst hv
              refine LW.hv rfl rfl rfl rfl (Hv.append (k := 2) rfl Try.underlying33 ti82 rfl hS rfl rfl rfl rfl (Rd.objAll (k := 0) rfl hS.rd) (by simp [Value.oneCell']) (by unfold maxLen; omega) (by omega)) fun v w131 ⟨ad131, c131, hv, hS⟩ => ?_
              subst hv
              dsimp only [List.set] at hS
              have hS := hS.drop 0 rfl
              dsimp only [List.eraseIdx] at hS
              rw [flatTap] at hS
              refine LW.ex rfl rfl rfl rfl (Ex.assign rfl) hS.rd ?_
              refine LW.nil fun aa ha => hK28 _ _ _ ?_ aa ha
              refine CW.seq fun K31 hK31 => ?_
              refine CW.region [0, 1, 2] rfl ?_
              refine LW.ex rfl rfl rfl rfl (Ex.move rfl) hS.rd ?_
              refine LW.ex rfl rfl rfl rfl (Ex.assign rfl) hS.rd ?_
              refine LW.ex rfl rfl rfl rfl (Ex.assign rfl) hS.rd ?_
              refine LW.nil fun aa ha => hK31 _ _ _ ?_ aa ha
              refine CW.ret fun aa ha => ?_
              obtain ⟨bs, μ', hmm, hS, hφ⟩ := hS.shut 1 rfl
              refine ret_two ha Try.results18 rfl rfl ?_
              have hpt : putTap key t2 taps = xs ++ [t2] := by unfold putTap; rw [hff, h24_0]; rfl
              refine ⟨_, μ', rfl, hS.below, hmm, hS.imm, ?_⟩
              rw [hfin, hpt]
              exact ⟨_, _, by rw [List.length_append, ← hn]; rfl, Sl.of_own hφ (tapReps _ _) (by rw [List.length_append, ← hn]; rfl)⟩
        refine CW.seq fun K32 hK32 => ?_
        refine CW.region [0, 1, 2] rfl ?_
        refine LW.ex rfl rfl rfl rfl (Ex.fieldO 3 Try.underlying82 rfl rfl ti3 rfl) hS.rd ?_
        refine LW.ex rfl rfl rfl rfl (Ex.load1 ti3 rfl rfl (by first | exact Rd.obj (k := 0) rfl rfl | exact Rd.obj (k := 1) rfl rfl | exact Rd.obj (k := 2) rfl rfl | exact Rd.obj (k := 3) rfl rfl | exact Rd.obj (k := 4) rfl rfl | exact Rd.imm (by assumption) | exact Rd.sl (k := 0) rfl (by assumption) | exact Rd.sl (k := 1) rfl (by assumption) | exact Rd.sl (k := 2) rfl (by assumption) | exact Rd.sl (k := 3) rfl (by assumption))) hS.rd ?_
        refine LW.ex rfl rfl rfl rfl (Ex.eql rfl rfl rfl) hS.rd ?_
        refine LW.splitB (fun h14_2 => ?_) (fun h14_2 => ?_)
        · have h14_2 := of_decide_eq_true h14_2
          refine LW.nil fun aa ha => hK32 _ _ _ ?_ aa ha
          refine CW.yes rfl ?_
          refine CW.region [0, 1, 2, 3, 4, 5, 6, 7, 8, 9, 10, 11] rfl ?_
          refine LW.ex rfl rfl rfl rfl (Ex.fieldO 1 Try.underlying82 rfl rfl ti3 rfl) hS.rd ?_
          refine LW.ex rfl rfl rfl rfl (Ex.load1 ti3 rfl rfl (by first | exact Rd.obj (k := 0) rfl rfl | exact Rd.obj (k := 1) rfl rfl | exact Rd.obj (k := 2) rfl rfl | exact Rd.obj (k := 3) rfl rfl | exact Rd.obj (k := 4) rfl rfl | exact Rd.imm (by assumption) | exact Rd.sl (k := 0) rfl (by assumption) | exact Rd.sl (k := 1) rfl (by assumption) | exact Rd.sl (k := 2) rfl (by assumption) | exact Rd.sl (k := 3) rfl (by assumption))) hS.rd ?_
          refine LW.ex rfl rfl rfl rfl (Ex.quo rfl rfl (by omega) (quo_in ⟨by omega, by omega⟩)) hS.rd ?_
          refine LW.ex rfl rfl rfl rfl (Ex.fieldO 2 Try.underlying82 rfl rfl ti3 rfl) hS.rd ?_
          refine LW.ex rfl rfl rfl rfl (Ex.load1 ti3 rfl rfl (by first | exact Rd.obj (k := 0) rfl rfl | exact Rd.obj (k := 1) rfl rfl | exact Rd.obj (k := 2) rfl rfl | exact Rd.obj (k := 3) rfl rfl | exact Rd.obj (k := 4) rfl rfl | exact Rd.imm (by assumption) | exact Rd.sl (k := 0) rfl (by assumption) | exact Rd.sl (k := 1) rfl (by assumption) | exact Rd.sl (k := 2) rfl (by assumption) | exact Rd.sl (k := 3) rfl (by assumption))) hS.rd ?_
          refine LW.ex rfl rfl rfl rfl (Ex.quo rfl rfl (by omega) (quo_in ⟨by omega, by omega⟩)) hS.rd ?_
          refine LW.ex rfl rfl rfl rfl (Ex.fieldO 1 Try.underlying82 rfl rfl ti3 rfl) hS.rd ?_
          refine LW.hu rfl rfl rfl (Hv.storeObj (k := 0) ti3 hS rfl rfl rfl rfl (by first | (simp; done) | omega)) fun _ w_7 hS => ?_
          dsimp only [List.set] at hS
          refine LW.ex rfl rfl rfl rfl (Ex.fieldO 2 Try.underlying82 rfl rfl ti3 rfl) hS.rd ?_
          refine LW.hu rfl rfl rfl (Hv.storeObj (k := 0) ti3 hS rfl rfl rfl rfl (by first | (simp; done) | omega)) fun _ w_9 hS => ?_
          dsimp only [List.set] at hS
          refine LW.ex rfl rfl rfl rfl (Ex.fieldO 3 Try.underlying82 rfl rfl ti3 rfl) hS.rd ?_
          refine LW.hu rfl rfl rfl (Hv.storeObj (k := 0) ti3 hS rfl rfl rfl rfl (by first | (simp; done) | omega)) fun _ w_11 hS => ?_
          dsimp only [List.set] at hS
          refine LW.nil fun aa ha => ?_
          refine hJ14 _ (⟨t.Key, (t.DX + p.X - cx).tdiv 2, (t.DY + p.Y - cy).tdiv 2, 32⟩) hS ?_ aa (ha.sub ⟨rfl, rfl, rfl, rfl, rfl, trivial⟩)
          unfold tapNextR; rw [if_pos (by omega), show t.DX + (p.X - cx) = t.DX + p.X - cx by omega, show t.DY + (p.Y - cy) = t.DY + p.Y - cy by omega]
        · have h14_2 := of_decide_eq_false h14_2
          refine LW.nil fun aa ha => hK32 _ _ _ ?_ aa ha
          refine CW.no rfl ?_
          refine CW.skip fun aa ha => ?_
          refine hJ14 _ (⟨t.Key, t.DX + p.X - cx, t.DY + p.Y - cy, t.N + 1⟩) hS ?_ aa (ha.sub ⟨rfl, rfl, rfl, rfl, rfl, trivial⟩)
          unfold tapNextR; rw [if_neg (by omega), show t.DX + (p.X - cx) = t.DX + p.X - cx by omega, show t.DY + (p.Y - cy) = t.DY + p.Y - cy by omega]
    · skip
      refine LW.ex rfl rfl rfl rfl (Ex.not rfl rfl) hS.rd ?_
      refine LW.nil fun aa ha => hK6 _ _ _ ?_ aa ha
      refine CW.yes rfl ?_
      refine CW.seq fun K33 hK33 => ?_
      refine CW.region [0, 1] rfl ?_
      refine LW.ex rfl rfl rfl rfl (Ex.assign rfl) hS.rd ?_
      refine LW.ex rfl rfl rfl rfl (Ex.assign rfl) hS.rd ?_
      refine LW.nil fun aa ha => hK33 _ _ _ ?_ aa ha
      refine CW.ret fun aa ha => ?_
      refine ret_two ha Try.results18 rfl rfl ?_
      have hn : areaOf l key = none := by rw [← Option.not_isSome_iff_eq_none, h4_0]; simp
      refine ⟨_, μ, rfl, hS.below, Mem.ext.refl _ _, hS.imm, ?_⟩
      rw [adaptR, if_neg (by rw [h1_2]; simp), hn]; exact ⟨none, 0, rfl, Sl.nil _ _ _ (by simp [maxLen])⟩
  · skip
    refine LW.ex rfl rfl rfl rfl (Ex.not rfl rfl) hS.rd ?_
    refine LW.nil fun aa ha => hK3 _ _ _ ?_ aa ha
    refine CW.yes rfl ?_
    refine CW.seq fun K34 hK34 => ?_
    refine CW.region [0, 1] rfl ?_
    refine LW.ex rfl rfl rfl rfl (Ex.assign rfl) hS.rd ?_
    refine LW.ex rfl rfl rfl rfl (Ex.assign rfl) hS.rd ?_
    refine LW.nil fun aa ha => hK34 _ _ _ ?_ aa ha
    refine CW.ret fun aa ha => ?_
    refine ret_two ha Try.results18 rfl rfl ?_
    refine ⟨_, μ, rfl, hS.below, Mem.ext.refl _ _, hS.imm, ?_⟩
    rw [adaptR, if_pos h1_2]; exact ⟨none, 0, rfl, Sl.nil _ _ _ (by simp [maxLen])⟩
end Go.Proofs.Ytphgjongflkolaa

