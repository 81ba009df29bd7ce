/-
  Strokes: the walks of Same and Board.
-/
import Derived.Test.YthbglfjajifkoaaStF
namespace Go.Proofs.Ythbglfjajifkoaa
open Go.RowKit Sy

theorem chEq (a c : UInt8) (b d : Int) (w : World) : (Op.equal 55 (.agg #[.int .u8 a.toNat, .int .i64 b]) (.agg #[.int .u8 c.toNat, .int .i64 d])).run Try.prog w = .ok (decide ((a.toNat : Int) = c.toNat) && (decide (b = d) && true)) w :=
  eqStruct Try.underlying55 (by kernel_rfl) (eqF_int rfl ti5 rfl rfl (eqF_int rfl ti3 rfl rfl eqF_nil)) w
theorem ch_ne (a c : Ch) : (!(decide ((a.Key.toNat : Int) = c.Key.toNat) && (decide (a.Cost = c.Cost) && true))) = decide (a ≠ c) := by
  obtain ⟨a1, a2⟩ := a
  obtain ⟨c1, c2⟩ := c
  by_cases h1 : a1 = c1
  · subst h1; simp
  · have : ¬ (a1.toNat : Int) = c1.toNat := fun e => h1 (u8_inj e)
    simp [h1, this]

theorem same_c (a b : List Ch) (ada adb : Option Addr) (ca cb : Nat) (μ : Mem) (w : World) (hμ : Imm μ w) (hla : Sl μ ada ca a) (hlb : Sl μ adb cb b) :
    Calls Try.prog 17 #[.slice ada a.length ca, .slice adb b.length cb] w (RetS w (.bool (decide (a = b)))) := by
  have hS := St.start w μ hμ
  have hlc : a.length ≤ 9223372036854775807 := by have := hla.1; have := hla.2.1; simp only [maxLen] at this; omega
  refine calls_start 26 [.slice ada a.length ca, .slice adb b.length cb] Try.func17 rfl Try.ntmps17 rfl rfl ?_
  refine CW.seq fun K0 hK0 => ?_
  refine CW.region [0] rfl ?_
  refine LW.ex rfl rfl rfl rfl (Ex.assign rfl) hS.rd ?_
  refine LW.nil fun aa ha => hK0 _ _ _ ?_ aa ha
  by_cases hab : a.length = b.length
  · skip
    refine CW.seq fun K1o hK1o => ?_
    refine CW.seq fun K1 hK1 => ?_
    refine CW.region [0, 1, 2, 3, 4] rfl ?_
    refine LW.ex rfl rfl rfl rfl (Ex.move rfl) hS.rd ?_
    refine LW.ex rfl rfl rfl rfl (Ex.lenSl rfl Try.underlying35 rfl) hS.rd ?_
    refine LW.ex rfl rfl rfl rfl (Ex.move rfl) hS.rd ?_
    refine LW.ex rfl rfl rfl rfl (Ex.lenSl rfl Try.underlying35 rfl) hS.rd ?_
    refine LW.ex rfl rfl rfl rfl (Ex.neq rfl rfl (by first | exact decide_eq_true (by omega) | exact decide_eq_false (by omega) | rfl)) hS.rd ?_
    refine LW.nil fun aa ha => hK1 _ _ _ ?_ aa ha
    refine CW.no rfl (CW.skip fun aa ha => hK1o _ _ _ ?_ aa ha)
    refine CW.seq fun K3o hK3o => ?_
    refine CW.seq fun K3 hK3 => ?_
    refine CW.region [0] rfl ?_
    refine LW.ex rfl rfl rfl rfl (Ex.assign rfl) hS.rd ?_
    refine LW.nil fun aa ha => hK3 _ _ _ ?_ aa ha
    refine CW.block ?_
    refine CW.loop (fun q m w1 => ∃ (i : Nat), i ≤ a.length ∧ q = a.length - i ∧ m = [(0, .slice ada a.length ca), (1, .slice adb b.length cb), (5, .int .i64 i)] ∧ St w w1 μ [] ∧ ∀ j (h : j < a.length) (h' : j < b.length), j < i → a[j] = b[j]) a.length
      ⟨0, by omega, by omega, rfl, hS, fun j _ _ hj => by omega⟩ ⟨rfl, rfl, rfl, trivial⟩ ?_
    clear hS
    rintro q m w1 ⟨i, hi, hq, rfl, hS, hin⟩
    by_cases h1 : i < a.length
    · skip
      refine CW.seq fun K4o hK4o => ?_
      refine CW.seq fun K4 hK4 => ?_
      refine CW.region [0, 1, 2, 3] rfl ?_
      refine LW.ex rfl rfl rfl rfl (Ex.move rfl) hS.rd ?_
      refine LW.ex rfl rfl rfl rfl (Ex.move rfl) hS.rd ?_
      refine LW.ex rfl rfl rfl rfl (Ex.lenSl rfl Try.underlying35 rfl) hS.rd ?_
      refine LW.ex rfl rfl rfl rfl (Ex.lss rfl rfl (by first | exact decide_eq_true (by omega) | exact decide_eq_false (by omega) | rfl)) hS.rd ?_
      refine LW.nil fun aa ha => hK4 _ _ _ ?_ aa ha
      refine CW.yes rfl ?_
      refine CW.skip fun aa ha => hK4o _ _ _ ?_ aa ha
      have h2 : i < b.length := by omega
      obtain ⟨bl, ol, rfl, hax, hay⟩ := hla.at h1
      obtain ⟨bl2, ol2, rfl, hbx, hby⟩ := hlb.at h2
      refine CW.seq fun Kb hKb => ?_
      refine CW.block ?_
      refine CW.seq fun K6 hK6 => ?_
      have hS := hS.drew
      refine CW.draw 9 (.ex 0 <| .ex 1 <| .ex 2 <| .ex 3 <| .ex 4 <| .ex 5 <| .ex 6 <| .ex 7 <| .ex 8 <| .done) [] (Rd _ _) mixed (by kernel_rfl) rfl rfl hS.rd ?_
      refine PW.ex rfl rfl rfl rfl (Ex.move rfl) ?_
      refine PW.ex rfl rfl rfl rfl (Ex.move rfl) ?_
      refine PW.ex rfl rfl rfl rfl (Ex.indexSl Try.underlying35 ti55 rfl rfl rfl (by omega)) ?_
      refine PW.ex rfl rfl rfl rfl (Ex.load2c ti55 rfl rfl (by first | exact Rd.obj (k := 0) rfl rfl | exact Rd.obj (k := 1) rfl rfl | exact Rd.obj (k := 2) rfl rfl | exact Rd.obj (k := 3) rfl rfl | exact Rd.obj (k := 4) rfl rfl | exact Rd.imm (by assumption) | exact Rd.sl (k := 0) rfl (by assumption) | exact Rd.sl (k := 1) rfl (by assumption) | exact Rd.sl (k := 2) rfl (by assumption) | exact Rd.sl (k := 3) rfl (by assumption)) (by first | exact Rd.obj (k := 0) rfl rfl | exact Rd.obj (k := 1) rfl rfl | exact Rd.obj (k := 2) rfl rfl | exact Rd.obj (k := 3) rfl rfl | exact Rd.obj (k := 4) rfl rfl | exact Rd.imm (by assumption) | exact Rd.sl (k := 0) rfl (by assumption) | exact Rd.sl (k := 1) rfl (by assumption) | exact Rd.sl (k := 2) rfl (by assumption) | exact Rd.sl (k := 3) rfl (by assumption))) ?_
      refine PW.ex rfl rfl rfl rfl (Ex.move rfl) ?_
      refine PW.ex rfl rfl rfl rfl (Ex.move rfl) ?_
      refine PW.ex rfl rfl rfl rfl (Ex.indexSl Try.underlying35 ti55 rfl rfl rfl (by omega)) ?_
      refine PW.ex rfl rfl rfl rfl (Ex.load2c ti55 rfl rfl (by first | exact Rd.obj (k := 0) rfl rfl | exact Rd.obj (k := 1) rfl rfl | exact Rd.obj (k := 2) rfl rfl | exact Rd.obj (k := 3) rfl rfl | exact Rd.obj (k := 4) rfl rfl | exact Rd.imm (by assumption) | exact Rd.sl (k := 0) rfl (by assumption) | exact Rd.sl (k := 1) rfl (by assumption) | exact Rd.sl (k := 2) rfl (by assumption) | exact Rd.sl (k := 3) rfl (by assumption)) (by first | exact Rd.obj (k := 0) rfl rfl | exact Rd.obj (k := 1) rfl rfl | exact Rd.obj (k := 2) rfl rfl | exact Rd.obj (k := 3) rfl rfl | exact Rd.obj (k := 4) rfl rfl | exact Rd.imm (by assumption) | exact Rd.sl (k := 0) rfl (by assumption) | exact Rd.sl (k := 1) rfl (by assumption) | exact Rd.sl (k := 2) rfl (by assumption) | exact Rd.sl (k := 3) rfl (by assumption))) ?_
      refine PW.ex rfl rfl rfl rfl (Ex.neqSt (by kernel_rfl) rfl rfl (chEq a[i].Key b[i].Key a[i].Cost b[i].Cost)) ?_
      rw [ch_ne]
      refine PW.nil ?_
      refine LW.nil fun aa ha => hK6 _ _ _ ?_ aa ha
      by_cases hb : a[i] = b[i]
      · refine CW.no (by rw [decide_eq_false (fun h => h hb)]; rfl) (CW.skip fun aa ha => hKb _ _ _ ?_ aa ha)
        refine CW.region [0, 1, 2] rfl ?_
        refine LW.ex rfl rfl rfl rfl (Ex.move rfl) hS.rd ?_
        refine LW.ex rfl rfl rfl rfl (Ex.add rfl rfl (by first | exact inc64 (by omega) | exact addN (by omega) | exact w64 (by omega) (by omega))) hS.rd ?_
        refine LW.ex rfl rfl rfl rfl (Ex.assign rfl) hS.rd ?_
        refine LW.nil fun aa ha => ?_
        refine ⟨a.length - (i + 1), _, by omega, ⟨i + 1, by omega, rfl, rfl, hS, fun j hj hj' hji => ?_⟩, ha.sub ⟨rfl, rfl, rfl, trivial⟩⟩
        by_cases hji : j = i
        · subst hji; exact hb
        · exact hin j hj hj' (by omega)
      · refine CW.yes (by rw [decide_eq_true hb]; rfl) ?_
        refine CW.seq fun K7 hK7 => ?_
        refine CW.region [0] rfl ?_
        refine LW.ex rfl rfl rfl rfl (Ex.assign rfl) hS.rd ?_
        refine LW.nil fun aa ha => hK7 _ _ _ ?_ aa ha
        refine CW.ret fun aa ha => ?_
        refine ret_one ha Try.results17 rfl ?_
        have : decide (a = b) = false := decide_eq_false fun e => hb (by subst e; rfl)
        rw [this]; exact hS.retS
    · skip
      refine CW.seq fun K4o hK4o => ?_
      refine CW.seq fun K4 hK4 => ?_
      refine CW.region [0, 1, 2, 3] rfl ?_
      refine LW.ex rfl rfl rfl rfl (Ex.move rfl) hS.rd ?_
      refine LW.ex rfl rfl rfl rfl (Ex.move rfl) hS.rd ?_
      refine LW.ex rfl rfl rfl rfl (Ex.lenSl rfl Try.underlying35 rfl) hS.rd ?_
      refine LW.ex rfl rfl rfl rfl (Ex.lss rfl rfl (by first | exact decide_eq_true (by omega) | exact decide_eq_false (by omega) | rfl)) hS.rd ?_
      refine LW.nil fun aa ha => hK4 _ _ _ ?_ aa ha
      refine CW.no rfl ?_
      refine CW.exit fun aa ha => hK3o _ _ _ ?_ aa ha
      refine CW.seq fun K8 hK8 => ?_
      refine CW.region [0] rfl ?_
      refine LW.ex rfl rfl rfl rfl (Ex.assign rfl) hS.rd ?_
      refine LW.nil fun aa ha => hK8 _ _ _ ?_ aa ha
      refine CW.ret fun aa ha => ?_
      refine ret_one ha Try.results17 rfl ?_
      have : decide (a = b) = true := decide_eq_true (List.ext_getElem hab fun j hj hj' => hin j hj hj' (by omega))
      rw [this]; exact hS.retS
  · skip
    refine CW.seq fun K1o hK1o => ?_
    refine CW.seq fun K1 hK1 => ?_
    refine CW.region [0, 1, 2, 3, 4] rfl ?_
    refine LW.ex rfl rfl rfl rfl (Ex.move rfl) hS.rd ?_
    refine LW.ex rfl rfl rfl rfl (Ex.lenSl rfl Try.underlying35 rfl) hS.rd ?_
    refine LW.ex rfl rfl rfl rfl (Ex.move rfl) hS.rd ?_
    refine LW.ex rfl rfl rfl rfl (Ex.lenSl rfl Try.underlying35 rfl) hS.rd ?_
    refine LW.ex rfl rfl rfl rfl (Ex.neq rfl rfl (by first | exact decide_eq_true (by omega) | exact decide_eq_false (by omega) | rfl)) hS.rd ?_
    refine LW.nil fun aa ha => hK1 _ _ _ ?_ aa ha
    refine CW.yes rfl ?_
    refine CW.seq fun K2 hK2 => ?_
    refine CW.region [0] rfl ?_
    refine LW.ex rfl rfl rfl rfl (Ex.assign rfl) hS.rd ?_
    refine LW.nil fun aa ha => hK2 _ _ _ ?_ aa ha
    refine CW.ret fun aa ha => ?_
    refine ret_one ha Try.results17 rfl ?_
    have : decide (a = b) = false := decide_eq_false fun e => hab (by rw [e])
    rw [this]; exact hS.retS

/-- syllabaryref22.Raw -/
structure Raw where
  Key : UInt8
  P : List B2
instance : El Raw := ⟨2, fun μ f t => f 0 = some (.int .u8 t.Key.toNat) ∧ ∃ ad c, f 1 = some (.slice ad t.P.length c) ∧ Sl μ ad c t.P,
  fun hm hf h => ⟨hf _ _ h.1, let ⟨ad, c, h1, h2⟩ := h.2; ⟨ad, c, hf _ _ h1, h2.mono hm⟩⟩⟩
def keyOf (k : Nat) (x : UInt8) : UInt8 := UInt8.ofNat (97 + x.toNat % k)
theorem keyOf_nat {k : Nat} (x : UInt8) (h0 : 0 < k) (h : k ≤ 26) : (keyOf k x).toNat = 97 + x.toNat % k := by
  have := Nat.mod_lt x.toNat h0
  unfold keyOf
  rw [UInt8.toNat_ofNat']
  omega
def tplOf (k : Nat) (r : Raw) : Tpl := ⟨keyOf k r.Key, points r.P 6 4⟩
/-- syllabaryref22.Board -/
def board (l : List Raw) (n k : Nat) : List Tpl := (l.take n).map (tplOf k)
def IsBoard (b : List Tpl) (μ : Mem) (v : Value) : Prop := ∃ ad c, v = boardV ad b.length c ∧ Sl μ ad c b

set_option maxRecDepth 100000 in
theorem board_c (l : List Raw) (ad : Option Addr) (c n k : Nat) (μ : Mem) (w : World) (hμ : Imm μ w) (hl : Sl μ ad c l) (hn : n ≤ 1000) (hk0 : 0 < k) (hk1 : k ≤ 26) :
    Calls Try.prog 12 #[.slice ad l.length c, .int .i64 n, .int .i64 k] w (RetV w μ (IsBoard (board l n k))) := by
  have hS := St.start w μ hμ
  have hlc : l.length ≤ 9223372036854775807 := by have := hl.1; have := hl.2.1; simp only [maxLen] at this; omega
  refine calls_start 44 [.slice ad l.length c, .int .i64 n, .int .i64 k] Try.func12 rfl Try.ntmps12 rfl rfl ?_
  refine CW.seq fun K0 hK0 => ?_
  refine CW.region [0] rfl ?_
  refine LW.hv rfl rfl rfl rfl (Hv.alloc ti32 hS) fun v w6 ⟨b6, hv, hb6, hS⟩ => ?_
  subst hv
  refine LW.nil fun aa ha => hK0 _ _ _ ?_ aa ha
  refine CW.seq fun K1 hK1 => ?_
  refine CW.region [0, 1, 2] rfl ?_
  refine LW.ex rfl rfl rfl rfl (Ex.buildS st32 rfl rfl rfl) hS.rd ?_
  refine LW.hv rfl rfl rfl rfl (Hv.alloc ti32 hS) fun v w7 ⟨b7, hv, hb7, hS⟩ => ?_
  subst hv
  refine LW.hu rfl rfl rfl (Hv.storeN (k := 0) ti32 hS rfl rfl rfl rfl (by simp [Value.oneCell'])) fun _ w_2 hS => ?_
  dsimp only [List.set] at hS
  refine LW.nil fun aa ha => hK1 _ _ _ ?_ aa ha
  refine CW.seq fun K2o hK2o => ?_
  refine CW.seq fun K2 hK2 => ?_
  refine CW.region [0] rfl ?_
  refine LW.ex rfl rfl rfl rfl (Ex.assign rfl) hS.rd ?_
  refine LW.nil fun aa ha => hK2 _ _ _ ?_ aa ha
  have hS := nil_sl 61 2 hS
  have hrest : ∀ (xs : List Tpl) (ado : Option Addr) (co : Nat) (us : List Value) (μ1 : Mem) (w1 : World), xs = board l n k → St w w1 μ1 [Own.sl ado xs.length co 61 2 us, Own.obj b7 [.slice none 0 0, .slice ado xs.length co, .slice none 0 0] 32, Own.obj b6 [.slice none 0 0, .slice none 0 0, .slice none 0 0] 32] →
      Mem.ext w.heap.size μ μ1 → RepL μ1 us xs → KW K2o 44 [(6, .pointer (some ⟨b6, 0, none⟩)), (7, .pointer (some ⟨b7, 0, none⟩))] w1 := by
    intro xs ado co us μ1 w1 hxs hS hm hus
    refine hK2o _ _ _ ?_
    refine CW.seq fun K6 hK6 => ?_
    refine CW.region [0, 1] rfl ?_
    refine LW.ex rfl rfl rfl rfl (Ex.load3c ti32 rfl rfl (by first | exact Rd.obj (k := 0) rfl rfl | exact Rd.obj (k := 1) rfl rfl | exact Rd.obj (k := 2) rfl rfl | exact Rd.obj (k := 3) rfl rfl | exact Rd.obj (k := 4) rfl rfl | exact Rd.imm (by assumption) | exact Rd.sl (k := 0) rfl (by assumption) | exact Rd.sl (k := 1) rfl (by assumption) | exact Rd.sl (k := 2) rfl (by assumption) | exact Rd.sl (k := 3) rfl (by assumption)) (by first | exact Rd.obj (k := 0) rfl rfl | exact Rd.obj (k := 1) rfl rfl | exact Rd.obj (k := 2) rfl rfl | exact Rd.obj (k := 3) rfl rfl | exact Rd.obj (k := 4) rfl rfl | exact Rd.imm (by assumption) | exact Rd.sl (k := 0) rfl (by assumption) | exact Rd.sl (k := 1) rfl (by assumption) | exact Rd.sl (k := 2) rfl (by assumption) | exact Rd.sl (k := 3) rfl (by assumption)) (by first | exact Rd.obj (k := 0) rfl rfl | exact Rd.obj (k := 1) rfl rfl | exact Rd.obj (k := 2) rfl rfl | exact Rd.obj (k := 3) rfl rfl | exact Rd.obj (k := 4) rfl rfl | exact Rd.imm (by assumption) | exact Rd.sl (k := 0) rfl (by assumption) | exact Rd.sl (k := 1) rfl (by assumption) | exact Rd.sl (k := 2) rfl (by assumption) | exact Rd.sl (k := 3) rfl (by assumption))) hS.rd ?_
    refine LW.hu rfl rfl rfl (Hv.storeN (k := 2) ti32 hS rfl rfl rfl rfl (by simp [Value.oneCell'])) fun _ w_1 hS => ?_
    dsimp only [List.set] at hS
    refine LW.nil fun aa ha => hK6 _ _ _ ?_ aa ha
    refine CW.ret fun aa ha => ?_
    obtain ⟨bs, μ', hm', hS, hφ⟩ := hS.shut 0 rfl
    refine ret_cell ha Try.results12 rfl ti32 rfl (fun j v hv => Rd.objAll (k := 1) rfl hS.rd j v hv) ⟨_, μ', rfl, hS.below, hm.trans hm', hS.imm, ado, co, ?_, ?_⟩
    · rw [← hxs]
    · rw [← hxs]; exact Sl.of_own hφ (hus.mono hm') rfl
  refine CW.block ?_
  refine CW.loop (fun q m w1 => ∃ (i : Nat) (xs : List Tpl) (ado : Option Addr) (co : Nat) (us : List Value) (μ1 : Mem), i ≤ l.length ∧ i ≤ n ∧ i = xs.length ∧ q = l.length - i ∧
      m = [(0, .slice ad l.length c), (1, .int .i64 n), (2, .int .i64 k), (6, .pointer (some ⟨b6, 0, none⟩)), (7, .pointer (some ⟨b7, 0, none⟩)), (8, .int .i64 i)] ∧
      St w w1 μ1 [Own.sl ado i co 61 2 us, Own.obj b7 [.slice none 0 0, .slice ado i co, .slice none 0 0] 32, Own.obj b6 [.slice none 0 0, .slice none 0 0, .slice none 0 0] 32] ∧
      Mem.ext w.heap.size μ μ1 ∧ RepL μ1 us xs ∧ xs = (l.take i).map (tplOf k))
      l.length ⟨0, [], none, 0, [], μ, by omega, by omega, rfl, by omega, rfl, hS, Mem.ext.refl _ _, RepL.nil μ, by simp⟩ ⟨rfl, rfl, rfl, rfl, rfl, rfl, trivial⟩ ?_
  clear hS
  rintro q m w1 ⟨i, xs, ado, co, us, μ1, hil, hin, hix, hq, rfl, hS, hm1, hus, hxs⟩
  by_cases h1 : i < l.length
  · by_cases h2 : i < n
    · skip
      refine CW.seq fun K3o hK3o => ?_
      refine CW.seq fun K3 hK3 => ?_
      refine CW.region [0, 1, 2, 3, 4, 5, 6, 7, 8] rfl ?_
      refine LW.ex rfl rfl rfl rfl (Ex.move rfl) hS.rd ?_
      refine LW.ex rfl rfl rfl rfl (Ex.move rfl) hS.rd ?_
      refine LW.ex rfl rfl rfl rfl (Ex.lenSl rfl Try.underlying22 rfl) hS.rd ?_
      refine LW.ex rfl rfl rfl rfl (Ex.lss rfl rfl (by first | exact decide_eq_true (by omega) | exact decide_eq_false (by omega) | rfl)) hS.rd ?_
      refine LW.ex rfl rfl rfl rfl (Ex.move rfl) hS.rd ?_
      refine LW.ex rfl rfl rfl rfl (Ex.move rfl) hS.rd ?_
      refine LW.ex rfl rfl rfl rfl (Ex.move rfl) hS.rd ?_
      refine LW.ex rfl rfl rfl rfl (Ex.lss rfl rfl (by first | exact decide_eq_true (by omega) | exact decide_eq_false (by omega) | rfl)) hS.rd ?_
      refine LW.ex rfl rfl rfl rfl (by first | exact Ex.pick_yes rfl rfl | exact Ex.pick_no rfl rfl) hS.rd ?_
      refine LW.nil fun aa ha => hK3 _ _ _ ?_ aa ha
      refine CW.yes rfl ?_
      refine CW.skip fun aa ha => hK3o _ _ _ ?_ aa ha
      have hl := hl.mono hm1
      obtain ⟨bl, ol, rfl, hkc, adp, cp, hpc, hsl⟩ := hl.at h1
      have hmod : ((l[i].Key.toNat : Int).tmod (k : Int)) = ((l[i].Key.toNat % k : Nat) : Int) := by rw [Int.tmod_eq_emod_of_nonneg (by omega)]; rfl
      have hml := Nat.mod_lt l[i].Key.toNat hk0
      have hkey := keyOf_nat l[i].Key hk0 hk1
      have hadd : IntKind.i64.wrap (97 + ((l[i].Key.toNat % k : Nat) : Int)) = ((keyOf k l[i].Key).toNat : Int) := by rw [w64 (by omega) (by omega), hkey]; omega
      have hkl := (keyOf k l[i].Key).toNat_lt
      have hcap := hS.sl_cap 0 rfl
      have hkb := l[i].Key.toNat_lt
      refine CW.seq fun Kb hKb => ?_
      refine CW.block ?_
      have hS := hS.drew
      refine CW.draw 20 (.ex 0 <| .ex 1 <| .ex 2 <| .ex 3 <| .ex 4 <| .ex 5 <| .ex 6 <| .ex 7 <| .ex 8 <| .ex 9 <| .ex 10 <| .ex 11 <| .ex 12 <| .ex 13 <| .ex 14 <| .ex 15 <| .ex 16 <| .one 17 <| .ex 18 <| .one 19 <| .done) [20, 21, 22] (Rd _ _) mixed (by kernel_rfl) rfl rfl hS.rd ?_
      refine PW.ex rfl rfl rfl rfl (Ex.fieldA Try.underlying32 rfl ti29 rfl) ?_
      refine PW.ex rfl rfl rfl rfl (Ex.load1 ti29 rfl rfl (by first | exact Rd.obj (k := 0) rfl rfl | exact Rd.obj (k := 1) rfl rfl | exact Rd.obj (k := 2) rfl rfl | exact Rd.obj (k := 3) rfl rfl | exact Rd.obj (k := 4) rfl rfl | exact Rd.imm (by assumption) | exact Rd.sl (k := 0) rfl (by assumption) | exact Rd.sl (k := 1) rfl (by assumption) | exact Rd.sl (k := 2) rfl (by assumption) | exact Rd.sl (k := 3) rfl (by assumption))) ?_
      refine PW.ex rfl rfl rfl rfl (Ex.move rfl) ?_
      refine PW.ex rfl rfl rfl rfl (Ex.move rfl) ?_
      refine PW.ex rfl rfl rfl rfl (Ex.indexSl Try.underlying22 ti59 rfl rfl rfl (by omega)) ?_
      refine PW.ex rfl rfl rfl rfl (Ex.fieldA Try.underlying59 rfl ti5 rfl) ?_
      refine PW.ex rfl rfl rfl rfl (Ex.load1 ti5 rfl rfl (by first | exact Rd.obj (k := 0) rfl rfl | exact Rd.obj (k := 1) rfl rfl | exact Rd.obj (k := 2) rfl rfl | exact Rd.obj (k := 3) rfl rfl | exact Rd.obj (k := 4) rfl rfl | exact Rd.imm (by assumption) | exact Rd.sl (k := 0) rfl (by assumption) | exact Rd.sl (k := 1) rfl (by assumption) | exact Rd.sl (k := 2) rfl (by assumption) | exact Rd.sl (k := 3) rfl (by assumption))) ?_
      refine PW.ex rfl rfl rfl rfl (Ex.conv Try.underlying5 Try.underlying3 rfl (by first | exact w64 (by omega) (by omega) | exact wu8 (by omega) (by omega))) ?_
      refine PW.ex rfl rfl rfl rfl (Ex.move rfl) ?_
      refine PW.ex rfl rfl rfl rfl (Ex.rem rfl rfl (by omega) hmod) ?_
      refine PW.ex rfl rfl rfl rfl (Ex.add rfl rfl hadd) ?_
      refine PW.ex rfl rfl rfl rfl (Ex.conv Try.underlying3 Try.underlying5 rfl (by first | exact w64 (by omega) (by omega) | exact wu8 (by omega) (by omega))) ?_
      refine PW.ex rfl rfl rfl rfl (Ex.move rfl) ?_
      refine PW.ex rfl rfl rfl rfl (Ex.move rfl) ?_
      refine PW.ex rfl rfl rfl rfl (Ex.indexSl Try.underlying22 ti59 rfl rfl rfl (by omega)) ?_
      refine PW.ex rfl rfl rfl rfl (Ex.fieldA Try.underlying59 rfl ti23 rfl) ?_
      refine PW.ex rfl rfl rfl rfl (Ex.load1 ti23 rfl rfl (by first | exact Rd.obj (k := 0) rfl rfl | exact Rd.obj (k := 1) rfl rfl | exact Rd.obj (k := 2) rfl rfl | exact Rd.obj (k := 3) rfl rfl | exact Rd.obj (k := 4) rfl rfl | exact Rd.imm (by assumption) | exact Rd.sl (k := 0) rfl (by assumption) | exact Rd.sl (k := 1) rfl (by assumption) | exact Rd.sl (k := 2) rfl (by assumption) | exact Rd.sl (k := 3) rfl (by assumption))) ?_
      have hbs := hS.below.size
      refine PW.hv rfl rfl rfl rfl (Hv.callV hS rfl rfl rfl cb11 (points_c l[i].P _ _ 6 4 _ _ hS.imm hsl (by omega) (by omega) (by omega))) (fun _ _ ⟨_, _, hm, h⟩ => Rd.le hm h.rd) fun v w38 ⟨μ38, hv38, hm38, hS⟩ => ?_
      obtain ⟨ad38, c38, rfl, hsl38⟩ := hv38
      refine PW.ex rfl rfl rfl rfl (Ex.buildS st61 rfl rfl rfl) ?_
      refine PW.hv rfl rfl rfl rfl (Hv.buildSl hS Try.underlying29 ti61 rfl rfl rfl rfl rfl rfl) (fun _ _ ⟨_, _, _, h⟩ => Rd.le hm38 (h.rd.tail)) fun v w40 ⟨b40, hv, hb40, hS⟩ => ?_
      subst hv
      refine PW.nil ?_
      refine LW.hv rfl rfl rfl rfl (Hv.append (k := 1) rfl Try.underlying29 ti61 rfl hS rfl rfl rfl rfl (Rd.objAll (k := 0) rfl hS.rd) (by simp [Value.oneCell']) (by unfold maxLen; omega) (by omega)) fun v w41 ⟨ad41, c41, hv, hS⟩ => ?_
      subst hv
      dsimp only [List.set] at hS
      have hS := hS.drop 0 rfl
      dsimp only [List.eraseIdx] at hS
      refine LW.ex rfl rfl rfl rfl (Ex.fieldA Try.underlying32 rfl ti29 rfl) hS.rd ?_
      refine LW.hu rfl rfl rfl (Hv.storeObj (k := 1) ti29 hS rfl rfl rfl rfl (by first | (simp; done) | omega)) fun _ w_22 hS => ?_
      dsimp only [List.set] at hS
      refine LW.nil fun aa ha => hKb _ _ _ ?_ aa ha
      refine CW.region [0, 1, 2] rfl ?_
      refine LW.ex rfl rfl rfl rfl (Ex.move rfl) hS.rd ?_
      refine LW.ex rfl rfl rfl rfl (Ex.add rfl rfl (by first | exact inc64 (by omega) | exact addN (by omega) | exact w64 (by omega) (by omega))) hS.rd ?_
      refine LW.ex rfl rfl rfl rfl (Ex.assign rfl) hS.rd ?_
      refine LW.nil fun aa ha => ?_
      refine ⟨l.length - (i + 1), _, by omega, ⟨i + 1, xs ++ [tplOf k l[i]], ad41, c41, _, μ38, by omega, by omega, by simp [hix], rfl, rfl, hS, hm1.trans (hm38.mono hbs), (hus.mono hm38).snoc rfl ⟨rfl, ad38, c38, rfl, hsl38⟩, ?_⟩, ha.sub ⟨rfl, rfl, rfl, rfl, rfl, rfl, trivial⟩⟩
      rw [List.take_succ_eq_append_getElem h1, List.map_append, hxs]; rfl
    · skip
      refine CW.seq fun K3o hK3o => ?_
      refine CW.seq fun K3 hK3 => ?_
      refine CW.region [0, 1, 2, 3, 4, 5, 6, 7, 8] rfl ?_
      refine LW.ex rfl rfl rfl rfl (Ex.move rfl) hS.rd ?_
      refine LW.ex rfl rfl rfl rfl (Ex.move rfl) hS.rd ?_
      refine LW.ex rfl rfl rfl rfl (Ex.lenSl rfl Try.underlying22 rfl) hS.rd ?_
      refine LW.ex rfl rfl rfl rfl (Ex.lss rfl rfl (by first | exact decide_eq_true (by omega) | exact decide_eq_false (by omega) | rfl)) hS.rd ?_
      refine LW.ex rfl rfl rfl rfl (Ex.move rfl) hS.rd ?_
      refine LW.ex rfl rfl rfl rfl (Ex.move rfl) hS.rd ?_
      refine LW.ex rfl rfl rfl rfl (Ex.move rfl) hS.rd ?_
      refine LW.ex rfl rfl rfl rfl (Ex.lss rfl rfl (by first | exact decide_eq_true (by omega) | exact decide_eq_false (by omega) | rfl)) hS.rd ?_
      refine LW.ex rfl rfl rfl rfl (by first | exact Ex.pick_yes rfl rfl | exact Ex.pick_no rfl rfl) hS.rd ?_
      refine LW.nil fun aa ha => hK3 _ _ _ ?_ aa ha
      refine CW.no rfl ?_
      refine CW.exit fun aa ha => ?_
      have hin' : i = n := by omega
      subst hix
      refine (hrest xs ado co us μ1 _ (by rw [hxs, board, hin']) hS hm1 hus) aa (ha.sub ⟨rfl, rfl, trivial⟩)
  · skip
    refine CW.seq fun K3o hK3o => ?_
    refine CW.seq fun K3 hK3 => ?_
    refine CW.region [0, 1, 2, 3, 4, 5, 6, 7, 8] rfl ?_
    refine LW.ex rfl rfl rfl rfl (Ex.move rfl) hS.rd ?_
    refine LW.ex rfl rfl rfl rfl (Ex.move rfl) hS.rd ?_
    refine LW.ex rfl rfl rfl rfl (Ex.lenSl rfl Try.underlying22 rfl) hS.rd ?_
    refine LW.ex rfl rfl rfl rfl (Ex.lss rfl rfl (by first | exact decide_eq_true (by omega) | exact decide_eq_false (by omega) | rfl)) hS.rd ?_
    refine LW.ex rfl rfl rfl rfl (Ex.move rfl) hS.rd ?_
    refine LW.skip rfl rfl rfl rfl ?_
    refine LW.skip rfl rfl rfl rfl ?_
    refine LW.skip rfl rfl rfl rfl ?_
    refine LW.ex rfl rfl rfl rfl (by first | exact Ex.pick_yes rfl rfl | exact Ex.pick_no rfl rfl) hS.rd ?_
    refine LW.nil fun aa ha => hK3 _ _ _ ?_ aa ha
    refine CW.no rfl ?_
    refine CW.exit fun aa ha => ?_
    have hin' : l.take i = l.take n := by rw [List.take_of_length_le (by omega), List.take_of_length_le (by omega)]
    subst hix
    refine (hrest xs ado co us μ1 _ (by rw [hxs, board, hin']) hS hm1 hus) aa (ha.sub ⟨rfl, rfl, trivial⟩)
end Go.Proofs.Ythbglfjajifkoaa
