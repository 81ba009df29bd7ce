import Derived.Test.YtgbdfgifgngijaaL9
import Derived.DeepKeys4
import Derived.ChangeKeysEq

/-
  Arrays of two numbers: as keys of maps, and their equality.
-/
namespace Go.Proofs.Ytgbdfgifgngijaa.Sy
open Go.RowKit Go.Maps

/-- Two numbers of 64 bits. -/
def KPair : Type := { p : Int × Int // (-9223372036854775808 ≤ p.1 ∧ p.1 ≤ 9223372036854775807) ∧ (-9223372036854775808 ≤ p.2 ∧ p.2 ≤ 9223372036854775807) }
instance : DecidableEq KPair := fun a b => decidable_of_iff (a.1 = b.1) Subtype.ext_iff.symm
def KPair.val (k : KPair) : Value := .agg #[.int .i64 k.1.1, .int .i64 k.1.2]
end Go.Proofs.Ytgbdfgifgngijaa.Sy

/-
  Output: the keys of the maps of states.
-/
namespace Go.Proofs.Ytgbdfgifgngijaa
open Go.RowKit Sy Go.Maps

theorem wfI {x : Int} (h : -9223372036854775808 ≤ x ∧ x ≤ 9223372036854775807) : (Lit.int .i64 x).wf = true := by
  have e1 : IntKind.i64.min = -9223372036854775808 := rfl
  have e2 : IntKind.i64.max = 9223372036854775807 := rfl
  simp only [Lit.wf, e1, e2, Bool.and_eq_true, decide_eq_true_eq]; exact h
/-- Two fields of a cell each as a key. -/
theorem encS {P : Program} {t : TypeId} {f0 f1 : Field} {α : Type} (ek : α → Value) (v0 v1 : α → Value) (l0 l1 : α → Lit) (hl : laidOutB P = true) (hrow : t < P.types.size) (hkt : P.keyTypeAt 2 t = true) (hkt2 : P.keyType t = true)
    (hu : P.underlying t = some (.struct #[f0, f1])) (ho0 : f0.offset = 0) (ho1 : f1.offset = 1) (hn : (#[f0, f1].all (·.name != "_")) = true) (hc0 : P.cellsOf f0.type = 1) (hc1 : P.cellsOf f1.type = 1) (hc : P.cellsOf t = 2)
    (hv : ∀ a, ek a = .agg #[v0 a, v1 a]) (hv0 : ∀ a, (ek a).cells.toList = [v0 a, v1 a]) (hf : ∀ a, (ek a).formed P t = true) (h0 : ∀ a n, P.keyLits (n + 1) f0.type [v0 a] = some [l0 a]) (h1 : ∀ a n, P.keyLits (n + 1) f1.type [v1 a] = some [l1 a])
    (hinj : ∀ a b, v0 a = v0 b → v1 a = v1 b → a = b) (hsz : ∃ n, P.types.size = n + 1) : EncK P t ek where
  keyed := Keyed.of_law (deep_law_laid hl (m := 2) (by omega) hrow hkt (by rw [hu]))
  key := fun a => by
    obtain ⟨n, hsz⟩ := hsz
    refine ⟨.string (keyBytes [l0 a, l1 a]), ?_⟩
    have k2 : P.keyLits (P.types.size + 1) t (ek a).cells.toList = some [l0 a, l1 a] := by
      rw [hv0, hsz]
      unfold Program.keyLits
      simp only [hu]
      rw [if_pos ⟨by rw [hc]; rfl, hn⟩]
      simp [ho0, ho1, hc0, hc1, h0 a n, h1 a n]
    unfold keyOf
    rw [hu]
    simp only
    rw [hkt2, hf a, k2]
    rfl
  inj := fun a b h => by
    rw [hv, hv] at h
    simp only [Value.agg.injEq] at h
    have h' := congrArg Array.toList h
    simp at h'
    exact hinj a b h'.1 h'.2
theorem laidK : laidOutB Try.prog = true := by kernel_rfl
/-- A mode and an output. -/
def KO : Type := { p : Fin 8 × ByteArray // p.2.size ≤ 9223372036854775807 }
instance : DecidableEq KO := fun a b => decidable_of_iff (a.1 = b.1) Subtype.ext_iff.symm
def koV (k : KO) : Value := .agg #[.int .i64 (k.1.1.val : Nat), .string k.1.2]
/-- A mode and a place of an output. -/
def KP : Type := { p : Fin 8 × Nat // p.2 ≤ 9223372036854775807 }
instance : DecidableEq KP := fun a b => decidable_of_iff (a.1 = b.1) Subtype.ext_iff.symm
def kpV (k : KP) : Value := .agg #[.int .i64 (k.1.1.val : Nat), .int .i64 (k.1.2 : Nat)]
def kmV (k : Fin 8) : Value := .int .i64 (k.val : Nat)
theorem litI {n : Nat} {x : Int} (h : -9223372036854775808 ≤ x ∧ x ≤ 9223372036854775807) : (Try.prog).keyLits (n + 1) 3 [.int .i64 x] = some [.int .i64 x] := by
  simp only [Program.keyLits, Try.underlying3, wfI h, and_self, if_true]
theorem litS {n : Nat} {s : ByteArray} (h : s.size ≤ 9223372036854775807) : (Try.prog).keyLits (n + 1) 9 [.string s] = some [.string s.data.toList] := by
  have h' : s.size ≤ maxLen := by simp only [maxLen]; omega
  simp only [Program.keyLits, Try.underlying9, h', if_true]
theorem encKO : EncK Try.prog 84 koV := encS koV (fun k => .int .i64 (k.1.1.val : Nat)) (fun k => .string k.1.2) (fun k => .int .i64 (k.1.1.val : Nat)) (fun k => .string k.1.2.data.toList) laidK (of_decide_eq_true (by kernel_rfl)) (by kernel_rfl) (by kernel_rfl)
  Try.underlying84 rfl rfl (by simp) (by kernel_rfl) (by kernel_rfl) (by kernel_rfl) (fun _ => rfl) (fun _ => rfl) (fun a => by simp [koV, Value.formed, Try.underlying84, show (Try.prog).cellsOf 84 = 2 by kernel_rfl])
  (fun k n => litI (by have := k.1.1.isLt; omega)) (fun k n => litS k.2) (fun a b h1 h2 => by
    simp only [Value.int.injEq, true_and] at h1
    simp only [Value.string.injEq] at h2
    exact Subtype.ext (Prod.ext (Fin.ext (by omega)) h2)) ⟨(Try.prog).types.size - 1, by kernel_rfl⟩
theorem encKP : EncK Try.prog 74 kpV := encS kpV (fun k => .int .i64 (k.1.1.val : Nat)) (fun k => .int .i64 (k.1.2 : Nat)) (fun k => .int .i64 (k.1.1.val : Nat)) (fun k => .int .i64 (k.1.2 : Nat)) laidK (of_decide_eq_true (by kernel_rfl)) (by kernel_rfl) (by kernel_rfl)
  Try.underlying74 rfl rfl (by simp) (by kernel_rfl) (by kernel_rfl) (by kernel_rfl) (fun _ => rfl) (fun _ => rfl) (fun a => by simp [kpV, Value.formed, Try.underlying74, show (Try.prog).cellsOf 74 = 2 by kernel_rfl])
  (fun k n => litI (by have := k.1.1.isLt; omega)) (fun k n => litI (by have := k.2; omega)) (fun a b h1 h2 => by
    simp only [Value.int.injEq, true_and] at h1 h2
    exact Subtype.ext (Prod.ext (Fin.ext (by omega)) (by omega))) ⟨(Try.prog).types.size - 1, by kernel_rfl⟩
theorem encKM : EncK Try.prog 3 kmV := ⟨Maps.int_keyed Try.underlying3, fun a => ⟨_, Maps.keyOf_int_mk Try.underlying3 (wfI (by have := a.isLt; omega))⟩, fun a b h => by
  simp only [kmV, Value.int.injEq, true_and] at h
  exact Fin.ext (by omega)⟩
end Go.Proofs.Ytgbdfgifgngijaa

/-
  Output: the walks of strings.HasPrefix and of output.put.
-/
namespace Go.Proofs.Ytgbdfgifgngijaa
open Go.RowKit Sy Go.Maps

theorem pre_take {s p : ByteArray} (h : p.size ≤ s.size) : ((s.extract 0 p.size) == p) = preB s p := by
  rw [bl_eq]
  unfold preB
  rw [Bool.eq_iff_iff, decide_eq_true_eq, List.isPrefixOf_iff_prefix, List.prefix_iff_eq_take]
  have e : bl (s.extract 0 p.size) = (bl s).take p.size := by
    unfold bl
    rw [ByteArray.data_extract]; simp
  rw [e, bl_len]
  exact eq_comm
theorem pre_short {s p : ByteArray} (h : s.size < p.size) : false = preB s p := by
  unfold preB
  cases e : (bl p).isPrefixOf (bl s) with
  | false => rfl
  | true =>
    have := (List.isPrefixOf_iff_prefix.1 e).length_le
    rw [bl_len, bl_len] at this; omega
theorem hasp0_c (s p : ByteArray) (hs : s.size ≤ 9223372036854775807) (hp : p.size ≤ 9223372036854775807) (w : World) : Calls Try.prog 56 #[.string s, .string p] w (RetS w (.bool (preB s p))) := by
  have hS := St.start w (fun _ => none) (fun _ _ h => by cases h)
  refine calls_start 18 [.string s, .string p] Try.func56 rfl Try.ntmps56 rfl rfl ?_
  refine CW.seq fun K1 hK1 => ?_
  refine CW.region [0] rfl ?_
  refine LW.ex rfl rfl rfl rfl (Ex.assign rfl) hS.rd ?_
  refine LW.nil fun aa ha => hK1 _ _ _ ?_ aa ha
  refine CW.seq fun K2 hK2 => ?_
  refine CW.region [0, 1, 2, 3, 4, 5, 6, 7, 8, 9, 10, 11, 12, 13] rfl ?_
  refine LW.ex rfl rfl rfl rfl (Ex.move rfl) hS.rd ?_
  refine LW.ex rfl rfl rfl rfl (Ex.lenS rfl Try.underlying9 rfl) hS.rd ?_
  refine LW.ex rfl rfl rfl rfl (Ex.move rfl) hS.rd ?_
  refine LW.ex rfl rfl rfl rfl (Ex.lenS rfl Try.underlying9 rfl) hS.rd ?_
  refine LW.ex rfl rfl rfl rfl (Ex.geq rfl rfl rfl) hS.rd ?_
  refine LW.splitB (fun h1_4 => ?_) (fun h1_4 => ?_)
  · have h1_4 := of_decide_eq_true h1_4
    refine LW.ex rfl rfl rfl rfl (Ex.move rfl) hS.rd ?_
    refine LW.ex rfl rfl rfl rfl (Ex.move rfl) hS.rd ?_
    refine LW.ex rfl rfl rfl rfl (Ex.move rfl) hS.rd ?_
    refine LW.ex rfl rfl rfl rfl (Ex.lenS rfl Try.underlying9 rfl) hS.rd ?_
    refine LW.ex rfl rfl rfl rfl (sliceStrT Try.underlying9 rfl rfl rfl (by omega)) hS.rd ?_
    refine LW.ex rfl rfl rfl rfl (Ex.move rfl) hS.rd ?_
    refine LW.ex rfl rfl rfl rfl (Ex.eqlS rfl rfl (pre_take (by omega))) hS.rd ?_
    refine LW.ex rfl rfl rfl rfl (by first | exact Ex.pick_yes rfl rfl | exact Ex.pick_no rfl rfl) hS.rd ?_
    refine LW.ex rfl rfl rfl rfl (Ex.assign rfl) hS.rd ?_
    refine LW.nil fun aa ha => hK2 _ _ _ ?_ aa ha
    refine CW.ret fun aa ha => ?_
    refine ret_one ha Try.results56 rfl ?_
    exact hS.retS
  · have h1_4 := of_decide_eq_false h1_4
    refine LW.ex rfl rfl rfl rfl (Ex.move rfl) hS.rd ?_
    refine LW.skip rfl rfl rfl rfl ?_
    refine LW.skip rfl rfl rfl rfl ?_
    refine LW.skip rfl rfl rfl rfl ?_
    refine LW.skip rfl rfl rfl rfl ?_
    refine LW.skip rfl rfl rfl rfl ?_
    refine LW.skip rfl rfl rfl rfl ?_
    refine LW.ex rfl rfl rfl rfl (by first | exact Ex.pick_yes rfl rfl | exact Ex.pick_no rfl rfl) hS.rd ?_
    refine LW.ex rfl rfl rfl rfl (Ex.assign rfl) hS.rd ?_
    refine LW.nil fun aa ha => hK2 _ _ _ ?_ aa ha
    refine CW.ret fun aa ha => ?_
    refine ret_one ha Try.results56 rfl ?_
    exact hS.retB (pre_short (by omega))
theorem hasp_c (s p : ByteArray) (hs : s.size ≤ 9223372036854775807) (hp : p.size ≤ 9223372036854775807) (w : World) : Calls Try.prog 30 #[.string s, .string p] w (RetS w (.bool (preB s p))) := by
  have hS := St.start w (fun _ => none) (fun _ _ h => by cases h)
  refine calls_start 8 [.string s, .string p] Try.func30 rfl Try.ntmps30 rfl rfl ?_
  refine CW.seq fun K3 hK3 => ?_
  refine CW.region [0] rfl ?_
  refine LW.ex rfl rfl rfl rfl (Ex.assign rfl) hS.rd ?_
  refine LW.nil fun aa ha => hK3 _ _ _ ?_ aa ha
  refine CW.seq fun K4 hK4 => ?_
  refine CW.region [0, 1, 2, 3] rfl ?_
  refine LW.ex rfl rfl rfl rfl (Ex.move rfl) hS.rd ?_
  refine LW.ex rfl rfl rfl rfl (Ex.move rfl) hS.rd ?_
  refine LW.hv rfl rfl rfl rfl (Hv.callS hS rfl rfl rfl cb56 (hasp0_c s p hs hp _)) fun v w7 ⟨hv, hS⟩ => ?_
  subst hv
  refine LW.ex rfl rfl rfl rfl (Ex.assign rfl) hS.rd ?_
  refine LW.nil fun aa ha => hK4 _ _ _ ?_ aa ha
  refine CW.ret fun aa ha => ?_
  refine ret_one ha Try.results30 rfl ?_
  exact hS.retS
def iV (x : Int) : Value := .int .i64 x
set_option maxRecDepth 100000 in
theorem putO_m {w0 w : World} {μ : Mem} {L : List Own} {g n b a c : Nat} {cells : List Value} (kv : List (KO × Int)) (k : KO) (i : Nat) (cost : Int) (hS : St w0 w μ L) (hs : L[a]? = some (Own.sl (some ⟨g, 0, none⟩) n n 87 1 cells)) (hc : cells[i]? = some (.map (some b))) (hi : i < n) (hn : n ≤ 1000000) (hm : L[c]? = some (Own.mp koV iV b kv)) :
    Calls Try.prog 57 #[.slice (some ⟨g, 0, none⟩) n n, .int .i64 i, .agg #[.int .i64 (k.1.1.val : Nat), .string k.1.2], .int .i64 cost] w (RetM fun v w' => v = .bool (putB kv k cost) ∧ St w0 w' μ (L.set c (Own.mp koV iV b (putM kv k cost)))) := by
  cases hg : aget kv k with
  | none =>
    refine calls_start 32 [.slice (some ⟨g, 0, none⟩) n n, .int .i64 i, .agg #[.int .i64 (k.1.1.val : Nat), .string k.1.2], .int .i64 cost] Try.func57 rfl Try.ntmps57 rfl rfl ?_
    refine CW.seq fun K5 hK5 => ?_
    refine CW.region [0, 1] rfl ?_
    refine LW.hv rfl rfl rfl rfl (Hv.boxS hS rfl rfl) fun v w6 ⟨b6, hv, hb6, hS⟩ => ?_
    subst hv
    refine LW.ex rfl rfl rfl rfl (Ex.assign rfl) hS.rd ?_
    refine LW.nil fun aa ha => hK5 _ _ _ ?_ aa ha
    refine CW.seq fun K6 hK6 => ?_
    have hS := hS.drew
    refine CW.draw 11 (.ex 0 <| .ex 1 <| .ex 2 <| .ex 3 <| .ex 4 <| .ex 5 <| .ex 6 <| .ex 7 <| .ex 8 <| .ex 9 <| .ex 10 <| .done) [] (Rd _ _) mixed (by kernel_rfl) rfl rfl hS.rd ?_
    refine PW.ex rfl rfl rfl rfl (Ex.move rfl) ?_
    refine PW.ex rfl rfl rfl rfl (Ex.move rfl) ?_
    refine PW.ex rfl rfl rfl rfl (Ex.indexSl Try.underlying80 ti87 rfl rfl rfl (by omega)) ?_
    refine PW.ex rfl rfl rfl rfl (Ex.load1 ti87 rfl rfl (Rd.sl (k := a + 1) hs (by rw [Nat.zero_add, Nat.mul_one]; exact hc))) ?_
    refine PW.ex rfl rfl rfl rfl (Ex.load2c ti84 rfl rfl (by first | exact obT rfl | exact Rd.imm ‹_› | exact slT ‹_›) (by first | exact obT rfl | exact Rd.imm ‹_› | exact slT ‹_›)) ?_
    refine PW.ex rfl rfl rfl rfl (Ex.lookup_none (a := k) Try.underlying87 ti3 encKO (c + 1) hm rfl rfl hg) ?_
    refine PW.ex rfl rfl rfl rfl (Ex.move rfl) ?_
    refine PW.ex rfl rfl rfl rfl (Ex.extract rfl rfl) ?_
    refine PW.ex rfl rfl rfl rfl (Ex.extract rfl rfl) ?_
    refine PW.ex rfl rfl rfl rfl (Ex.assign rfl) ?_
    refine PW.ex rfl rfl rfl rfl (Ex.assign rfl) ?_
    refine PW.nil ?_
    refine LW.nil fun aa ha => hK6 _ _ _ ?_ aa ha
    refine CW.seq fun K7 hK7 => ?_
    refine CW.seq fun K8 hK8 => ?_
    refine CW.region [0, 1, 2, 3, 4, 5] rfl ?_
    refine LW.ex rfl rfl rfl rfl (Ex.move rfl) hS.rd ?_
    refine LW.ex rfl rfl rfl rfl (Ex.move rfl) hS.rd ?_
    refine LW.skip rfl rfl rfl rfl ?_
    refine LW.skip rfl rfl rfl rfl ?_
    refine LW.skip rfl rfl rfl rfl ?_
    refine LW.ex rfl rfl rfl rfl (by first | exact Ex.pick_yes rfl rfl | exact Ex.pick_no rfl rfl) hS.rd ?_
    refine LW.nil fun aa ha => hK8 _ _ _ ?_ aa ha
    refine CW.no rfl ?_
    refine CW.skip fun aa ha => hK7 _ _ _ ?_ aa ha
    refine CW.seq fun K9 hK9 => ?_
    have hS := hS.drew
    refine CW.draw 6 (.ex 0 <| .ex 1 <| .ex 2 <| .ex 3 <| .ex 4 <| .ex 5 <| .done) [6] (Rd _ _) mixed (by kernel_rfl) rfl rfl hS.rd ?_
    refine PW.ex rfl rfl rfl rfl (Ex.move rfl) ?_
    refine PW.ex rfl rfl rfl rfl (Ex.move rfl) ?_
    refine PW.ex rfl rfl rfl rfl (Ex.indexSl Try.underlying80 ti87 rfl rfl rfl (by omega)) ?_
    refine PW.ex rfl rfl rfl rfl (Ex.load1 ti87 rfl rfl (Rd.sl (k := a + 1) hs (by rw [Nat.zero_add, Nat.mul_one]; exact hc))) ?_
    refine PW.ex rfl rfl rfl rfl (Ex.load2c ti84 rfl rfl (by first | exact obT rfl | exact Rd.imm ‹_› | exact slT ‹_›) (by first | exact obT rfl | exact Rd.imm ‹_› | exact slT ‹_›)) ?_
    refine PW.ex rfl rfl rfl rfl (Ex.move rfl) ?_
    refine PW.nil ?_
    refine LW.hu rfl rfl rfl (Hv.mapUpdate (a := k) (c := cost) Try.underlying87 encKO (c + 1) hS hm rfl rfl rfl) fun _ w_6 hS => ?_
    simp only [List.set_cons_succ] at hS
    refine LW.nil fun aa ha => hK9 _ _ _ ?_ aa ha
    refine CW.seq fun K10 hK10 => ?_
    refine CW.region [0] rfl ?_
    refine LW.ex rfl rfl rfl rfl (Ex.assign rfl) hS.rd ?_
    refine LW.nil fun aa ha => hK10 _ _ _ ?_ aa ha
    refine CW.ret fun aa ha => ?_
    refine ret_one ha Try.results57 rfl ?_
    exact ⟨_, rfl, by unfold putB; rw [hg], by unfold putM; rw [hg]; exact hS.drop 0 rfl⟩
  | some old =>
    refine calls_start 32 [.slice (some ⟨g, 0, none⟩) n n, .int .i64 i, .agg #[.int .i64 (k.1.1.val : Nat), .string k.1.2], .int .i64 cost] Try.func57 rfl Try.ntmps57 rfl rfl ?_
    refine CW.seq fun K11 hK11 => ?_
    refine CW.region [0, 1] rfl ?_
    refine LW.hv rfl rfl rfl rfl (Hv.boxS hS rfl rfl) fun v w6 ⟨b6, hv, hb6, hS⟩ => ?_
    subst hv
    refine LW.ex rfl rfl rfl rfl (Ex.assign rfl) hS.rd ?_
    refine LW.nil fun aa ha => hK11 _ _ _ ?_ aa ha
    refine CW.seq fun K12 hK12 => ?_
    have hS := hS.drew
    refine CW.draw 11 (.ex 0 <| .ex 1 <| .ex 2 <| .ex 3 <| .ex 4 <| .ex 5 <| .ex 6 <| .ex 7 <| .ex 8 <| .ex 9 <| .ex 10 <| .done) [] (Rd _ _) mixed (by kernel_rfl) rfl rfl hS.rd ?_
    refine PW.ex rfl rfl rfl rfl (Ex.move rfl) ?_
    refine PW.ex rfl rfl rfl rfl (Ex.move rfl) ?_
    refine PW.ex rfl rfl rfl rfl (Ex.indexSl Try.underlying80 ti87 rfl rfl rfl (by omega)) ?_
    refine PW.ex rfl rfl rfl rfl (Ex.load1 ti87 rfl rfl (Rd.sl (k := a + 1) hs (by rw [Nat.zero_add, Nat.mul_one]; exact hc))) ?_
    refine PW.ex rfl rfl rfl rfl (Ex.load2c ti84 rfl rfl (by first | exact obT rfl | exact Rd.imm ‹_› | exact slT ‹_›) (by first | exact obT rfl | exact Rd.imm ‹_› | exact slT ‹_›)) ?_
    refine PW.ex rfl rfl rfl rfl (Ex.lookup_some (a := k) Try.underlying87 ti3 encKO (c + 1) hm rfl rfl hg) ?_
    refine PW.ex rfl rfl rfl rfl (Ex.move rfl) ?_
    refine PW.ex rfl rfl rfl rfl (Ex.extract rfl rfl) ?_
    refine PW.ex rfl rfl rfl rfl (Ex.extract rfl rfl) ?_
    refine PW.ex rfl rfl rfl rfl (Ex.assign rfl) ?_
    refine PW.ex rfl rfl rfl rfl (Ex.assign rfl) ?_
    refine PW.nil ?_
    refine LW.nil fun aa ha => hK12 _ _ _ ?_ aa ha
    refine CW.seq fun K13 hK13 => ?_
    refine CW.seq fun K14 hK14 => ?_
    refine CW.region [0, 1, 2, 3, 4, 5] rfl ?_
    refine LW.ex rfl rfl rfl rfl (Ex.move rfl) hS.rd ?_
    refine LW.ex rfl rfl rfl rfl (Ex.move rfl) hS.rd ?_
    refine LW.ex rfl rfl rfl rfl (Ex.move rfl) hS.rd ?_
    refine LW.ex rfl rfl rfl rfl (Ex.move rfl) hS.rd ?_
    refine LW.ex rfl rfl rfl rfl (Ex.leq rfl rfl rfl) hS.rd ?_
    refine LW.splitB (fun h2_4 => ?_) (fun h2_4 => ?_)
    · have h2_4 := of_decide_eq_true h2_4
      refine LW.ex rfl rfl rfl rfl (by first | exact Ex.pick_yes rfl rfl | exact Ex.pick_no rfl rfl) hS.rd ?_
      refine LW.nil fun aa ha => hK14 _ _ _ ?_ aa ha
      refine CW.yes rfl ?_
      refine CW.seq fun K15 hK15 => ?_
      refine CW.region [0] rfl ?_
      refine LW.ex rfl rfl rfl rfl (Ex.assign rfl) hS.rd ?_
      refine LW.nil fun aa ha => hK15 _ _ _ ?_ aa ha
      refine CW.ret fun aa ha => ?_
      refine ret_one ha Try.results57 rfl ?_
      exact ⟨_, rfl, by unfold putB; rw [hg]; simp only; rw [decide_eq_true h2_4]; rfl, by unfold putM; rw [hg]; simp only; rw [if_pos h2_4, set_same hm]; exact hS.drop 0 rfl⟩
    · have h2_4 := of_decide_eq_false h2_4
      refine LW.ex rfl rfl rfl rfl (by first | exact Ex.pick_yes rfl rfl | exact Ex.pick_no rfl rfl) hS.rd ?_
      refine LW.nil fun aa ha => hK14 _ _ _ ?_ aa ha
      refine CW.no rfl ?_
      refine CW.skip fun aa ha => hK13 _ _ _ ?_ aa ha
      refine CW.seq fun K16 hK16 => ?_
      have hS := hS.drew
      refine CW.draw 6 (.ex 0 <| .ex 1 <| .ex 2 <| .ex 3 <| .ex 4 <| .ex 5 <| .done) [6] (Rd _ _) mixed (by kernel_rfl) rfl rfl hS.rd ?_
      refine PW.ex rfl rfl rfl rfl (Ex.move rfl) ?_
      refine PW.ex rfl rfl rfl rfl (Ex.move rfl) ?_
      refine PW.ex rfl rfl rfl rfl (Ex.indexSl Try.underlying80 ti87 rfl rfl rfl (by omega)) ?_
      refine PW.ex rfl rfl rfl rfl (Ex.load1 ti87 rfl rfl (Rd.sl (k := a + 1) hs (by rw [Nat.zero_add, Nat.mul_one]; exact hc))) ?_
      refine PW.ex rfl rfl rfl rfl (Ex.load2c ti84 rfl rfl (by first | exact obT rfl | exact Rd.imm ‹_› | exact slT ‹_›) (by first | exact obT rfl | exact Rd.imm ‹_› | exact slT ‹_›)) ?_
      refine PW.ex rfl rfl rfl rfl (Ex.move rfl) ?_
      refine PW.nil ?_
      refine LW.hu rfl rfl rfl (Hv.mapUpdate (a := k) (c := cost) Try.underlying87 encKO (c + 1) hS hm rfl rfl rfl) fun _ w_6 hS => ?_
      simp only [List.set_cons_succ] at hS
      refine LW.nil fun aa ha => hK16 _ _ _ ?_ aa ha
      refine CW.seq fun K17 hK17 => ?_
      refine CW.region [0] rfl ?_
      refine LW.ex rfl rfl rfl rfl (Ex.assign rfl) hS.rd ?_
      refine LW.nil fun aa ha => hK17 _ _ _ ?_ aa ha
      refine CW.ret fun aa ha => ?_
      refine ret_one ha Try.results57 rfl ?_
      exact ⟨_, rfl, by unfold putB; rw [hg]; simp only; rw [decide_eq_false h2_4]; rfl, by unfold putM; rw [hg]; simp only; rw [if_neg h2_4]; exact hS.drop 0 rfl⟩
set_option maxRecDepth 100000 in
theorem putP_m {w0 w : World} {μ : Mem} {L : List Own} {g n b a c : Nat} {cells : List Value} (kv : List (KP × Int)) (k : KP) (i : Nat) (cost : Int) (hS : St w0 w μ L) (hs : L[a]? = some (Own.sl (some ⟨g, 0, none⟩) n n 78 1 cells)) (hc : cells[i]? = some (.map (some b))) (hi : i < n) (hn : n ≤ 1000000) (hm : L[c]? = some (Own.mp kpV iV b kv)) :
    Calls Try.prog 55 #[.slice (some ⟨g, 0, none⟩) n n, .int .i64 i, .agg #[.int .i64 (k.1.1.val : Nat), .int .i64 (k.1.2 : Nat)], .int .i64 cost] w (RetM fun v w' => v = .bool (putB kv k cost) ∧ St w0 w' μ (L.set c (Own.mp kpV iV b (putM kv k cost)))) := by
  cases hg : aget kv k with
  | none =>
    refine calls_start 32 [.slice (some ⟨g, 0, none⟩) n n, .int .i64 i, .agg #[.int .i64 (k.1.1.val : Nat), .int .i64 (k.1.2 : Nat)], .int .i64 cost] Try.func55 rfl Try.ntmps55 rfl rfl ?_
    refine CW.seq fun K18 hK18 => ?_
    refine CW.region [0, 1] rfl ?_
    refine LW.hv rfl rfl rfl rfl (Hv.boxS hS rfl rfl) fun v w6 ⟨b6, hv, hb6, hS⟩ => ?_
    subst hv
    refine LW.ex rfl rfl rfl rfl (Ex.assign rfl) hS.rd ?_
    refine LW.nil fun aa ha => hK18 _ _ _ ?_ aa ha
    refine CW.seq fun K19 hK19 => ?_
    have hS := hS.drew
    refine CW.draw 11 (.ex 0 <| .ex 1 <| .ex 2 <| .ex 3 <| .ex 4 <| .ex 5 <| .ex 6 <| .ex 7 <| .ex 8 <| .ex 9 <| .ex 10 <| .done) [] (Rd _ _) mixed (by kernel_rfl) rfl rfl hS.rd ?_
    refine PW.ex rfl rfl rfl rfl (Ex.move rfl) ?_
    refine PW.ex rfl rfl rfl rfl (Ex.move rfl) ?_
    refine PW.ex rfl rfl rfl rfl (Ex.indexSl Try.underlying70 ti78 rfl rfl rfl (by omega)) ?_
    refine PW.ex rfl rfl rfl rfl (Ex.load1 ti78 rfl rfl (Rd.sl (k := a + 1) hs (by rw [Nat.zero_add, Nat.mul_one]; exact hc))) ?_
    refine PW.ex rfl rfl rfl rfl (Ex.load2c ti74 rfl rfl (by first | exact obT rfl | exact Rd.imm ‹_› | exact slT ‹_›) (by first | exact obT rfl | exact Rd.imm ‹_› | exact slT ‹_›)) ?_
    refine PW.ex rfl rfl rfl rfl (Ex.lookup_none (a := k) Try.underlying78 ti3 encKP (c + 1) hm rfl rfl hg) ?_
    refine PW.ex rfl rfl rfl rfl (Ex.move rfl) ?_
    refine PW.ex rfl rfl rfl rfl (Ex.extract rfl rfl) ?_
    refine PW.ex rfl rfl rfl rfl (Ex.extract rfl rfl) ?_
    refine PW.ex rfl rfl rfl rfl (Ex.assign rfl) ?_
    refine PW.ex rfl rfl rfl rfl (Ex.assign rfl) ?_
    refine PW.nil ?_
    refine LW.nil fun aa ha => hK19 _ _ _ ?_ aa ha
    refine CW.seq fun K20 hK20 => ?_
    refine CW.seq fun K21 hK21 => ?_
    refine CW.region [0, 1, 2, 3, 4, 5] rfl ?_
    refine LW.ex rfl rfl rfl rfl (Ex.move rfl) hS.rd ?_
    refine LW.ex rfl rfl rfl rfl (Ex.move rfl) hS.rd ?_
    refine LW.skip rfl rfl rfl rfl ?_
    refine LW.skip rfl rfl rfl rfl ?_
    refine LW.skip rfl rfl rfl rfl ?_
    refine LW.ex rfl rfl rfl rfl (by first | exact Ex.pick_yes rfl rfl | exact Ex.pick_no rfl rfl) hS.rd ?_
    refine LW.nil fun aa ha => hK21 _ _ _ ?_ aa ha
    refine CW.no rfl ?_
    refine CW.skip fun aa ha => hK20 _ _ _ ?_ aa ha
    refine CW.seq fun K22 hK22 => ?_
    have hS := hS.drew
    refine CW.draw 6 (.ex 0 <| .ex 1 <| .ex 2 <| .ex 3 <| .ex 4 <| .ex 5 <| .done) [6] (Rd _ _) mixed (by kernel_rfl) rfl rfl hS.rd ?_
    refine PW.ex rfl rfl rfl rfl (Ex.move rfl) ?_
    refine PW.ex rfl rfl rfl rfl (Ex.move rfl) ?_
    refine PW.ex rfl rfl rfl rfl (Ex.indexSl Try.underlying70 ti78 rfl rfl rfl (by omega)) ?_
    refine PW.ex rfl rfl rfl rfl (Ex.load1 ti78 rfl rfl (Rd.sl (k := a + 1) hs (by rw [Nat.zero_add, Nat.mul_one]; exact hc))) ?_
    refine PW.ex rfl rfl rfl rfl (Ex.load2c ti74 rfl rfl (by first | exact obT rfl | exact Rd.imm ‹_› | exact slT ‹_›) (by first | exact obT rfl | exact Rd.imm ‹_› | exact slT ‹_›)) ?_
    refine PW.ex rfl rfl rfl rfl (Ex.move rfl) ?_
    refine PW.nil ?_
    refine LW.hu rfl rfl rfl (Hv.mapUpdate (a := k) (c := cost) Try.underlying78 encKP (c + 1) hS hm rfl rfl rfl) fun _ w_6 hS => ?_
    simp only [List.set_cons_succ] at hS
    refine LW.nil fun aa ha => hK22 _ _ _ ?_ aa ha
    refine CW.seq fun K23 hK23 => ?_
    refine CW.region [0] rfl ?_
    refine LW.ex rfl rfl rfl rfl (Ex.assign rfl) hS.rd ?_
    refine LW.nil fun aa ha => hK23 _ _ _ ?_ aa ha
    refine CW.ret fun aa ha => ?_
    refine ret_one ha Try.results55 rfl ?_
    exact ⟨_, rfl, by unfold putB; rw [hg], by unfold putM; rw [hg]; exact hS.drop 0 rfl⟩
  | some old =>
    refine calls_start 32 [.slice (some ⟨g, 0, none⟩) n n, .int .i64 i, .agg #[.int .i64 (k.1.1.val : Nat), .int .i64 (k.1.2 : Nat)], .int .i64 cost] Try.func55 rfl Try.ntmps55 rfl rfl ?_
    refine CW.seq fun K24 hK24 => ?_
    refine CW.region [0, 1] rfl ?_
    refine LW.hv rfl rfl rfl rfl (Hv.boxS hS rfl rfl) fun v w6 ⟨b6, hv, hb6, hS⟩ => ?_
    subst hv
    refine LW.ex rfl rfl rfl rfl (Ex.assign rfl) hS.rd ?_
    refine LW.nil fun aa ha => hK24 _ _ _ ?_ aa ha
    refine CW.seq fun K25 hK25 => ?_
    have hS := hS.drew
    refine CW.draw 11 (.ex 0 <| .ex 1 <| .ex 2 <| .ex 3 <| .ex 4 <| .ex 5 <| .ex 6 <| .ex 7 <| .ex 8 <| .ex 9 <| .ex 10 <| .done) [] (Rd _ _) mixed (by kernel_rfl) rfl rfl hS.rd ?_
    refine PW.ex rfl rfl rfl rfl (Ex.move rfl) ?_
    refine PW.ex rfl rfl rfl rfl (Ex.move rfl) ?_
    refine PW.ex rfl rfl rfl rfl (Ex.indexSl Try.underlying70 ti78 rfl rfl rfl (by omega)) ?_
    refine PW.ex rfl rfl rfl rfl (Ex.load1 ti78 rfl rfl (Rd.sl (k := a + 1) hs (by rw [Nat.zero_add, Nat.mul_one]; exact hc))) ?_
    refine PW.ex rfl rfl rfl rfl (Ex.load2c ti74 rfl rfl (by first | exact obT rfl | exact Rd.imm ‹_› | exact slT ‹_›) (by first | exact obT rfl | exact Rd.imm ‹_› | exact slT ‹_›)) ?_
    refine PW.ex rfl rfl rfl rfl (Ex.lookup_some (a := k) Try.underlying78 ti3 encKP (c + 1) hm rfl rfl hg) ?_
    refine PW.ex rfl rfl rfl rfl (Ex.move rfl) ?_
    refine PW.ex rfl rfl rfl rfl (Ex.extract rfl rfl) ?_
    refine PW.ex rfl rfl rfl rfl (Ex.extract rfl rfl) ?_
    refine PW.ex rfl rfl rfl rfl (Ex.assign rfl) ?_
    refine PW.ex rfl rfl rfl rfl (Ex.assign rfl) ?_
    refine PW.nil ?_
    refine LW.nil fun aa ha => hK25 _ _ _ ?_ aa ha
    refine CW.seq fun K26 hK26 => ?_
    refine CW.seq fun K27 hK27 => ?_
    refine CW.region [0, 1, 2, 3, 4, 5] rfl ?_
    refine LW.ex rfl rfl rfl rfl (Ex.move rfl) hS.rd ?_
    refine LW.ex rfl rfl rfl rfl (Ex.move rfl) hS.rd ?_
    refine LW.ex rfl rfl rfl rfl (Ex.move rfl) hS.rd ?_
    refine LW.ex rfl rfl rfl rfl (Ex.move rfl) hS.rd ?_
    refine LW.ex rfl rfl rfl rfl (Ex.leq rfl rfl rfl) hS.rd ?_
    refine LW.splitB (fun h2_4 => ?_) (fun h2_4 => ?_)
    · have h2_4 := of_decide_eq_true h2_4
      refine LW.ex rfl rfl rfl rfl (by first | exact Ex.pick_yes rfl rfl | exact Ex.pick_no rfl rfl) hS.rd ?_
      refine LW.nil fun aa ha => hK27 _ _ _ ?_ aa ha
      refine CW.yes rfl ?_
      refine CW.seq fun K28 hK28 => ?_
      refine CW.region [0] rfl ?_
      refine LW.ex rfl rfl rfl rfl (Ex.assign rfl) hS.rd ?_
      refine LW.nil fun aa ha => hK28 _ _ _ ?_ aa ha
      refine CW.ret fun aa ha => ?_
      refine ret_one ha Try.results55 rfl ?_
      exact ⟨_, rfl, by unfold putB; rw [hg]; simp only; rw [decide_eq_true h2_4]; rfl, by unfold putM; rw [hg]; simp only; rw [if_pos h2_4, set_same hm]; exact hS.drop 0 rfl⟩
    · have h2_4 := of_decide_eq_false h2_4
      refine LW.ex rfl rfl rfl rfl (by first | exact Ex.pick_yes rfl rfl | exact Ex.pick_no rfl rfl) hS.rd ?_
      refine LW.nil fun aa ha => hK27 _ _ _ ?_ aa ha
      refine CW.no rfl ?_
      refine CW.skip fun aa ha => hK26 _ _ _ ?_ aa ha
      refine CW.seq fun K29 hK29 => ?_
      have hS := hS.drew
      refine CW.draw 6 (.ex 0 <| .ex 1 <| .ex 2 <| .ex 3 <| .ex 4 <| .ex 5 <| .done) [6] (Rd _ _) mixed (by kernel_rfl) rfl rfl hS.rd ?_
      refine PW.ex rfl rfl rfl rfl (Ex.move rfl) ?_
      refine PW.ex rfl rfl rfl rfl (Ex.move rfl) ?_
      refine PW.ex rfl rfl rfl rfl (Ex.indexSl Try.underlying70 ti78 rfl rfl rfl (by omega)) ?_
      refine PW.ex rfl rfl rfl rfl (Ex.load1 ti78 rfl rfl (Rd.sl (k := a + 1) hs (by rw [Nat.zero_add, Nat.mul_one]; exact hc))) ?_
      refine PW.ex rfl rfl rfl rfl (Ex.load2c ti74 rfl rfl (by first | exact obT rfl | exact Rd.imm ‹_› | exact slT ‹_›) (by first | exact obT rfl | exact Rd.imm ‹_› | exact slT ‹_›)) ?_
      refine PW.ex rfl rfl rfl rfl (Ex.move rfl) ?_
      refine PW.nil ?_
      refine LW.hu rfl rfl rfl (Hv.mapUpdate (a := k) (c := cost) Try.underlying78 encKP (c + 1) hS hm rfl rfl rfl) fun _ w_6 hS => ?_
      simp only [List.set_cons_succ] at hS
      refine LW.nil fun aa ha => hK29 _ _ _ ?_ aa ha
      refine CW.seq fun K30 hK30 => ?_
      refine CW.region [0] rfl ?_
      refine LW.ex rfl rfl rfl rfl (Ex.assign rfl) hS.rd ?_
      refine LW.nil fun aa ha => hK30 _ _ _ ?_ aa ha
      refine CW.ret fun aa ha => ?_
      refine ret_one ha Try.results55 rfl ?_
      exact ⟨_, rfl, by unfold putB; rw [hg]; simp only; rw [decide_eq_false h2_4]; rfl, by unfold putM; rw [hg]; simp only; rw [if_neg h2_4]; exact hS.drop 0 rfl⟩
set_option maxRecDepth 100000 in
theorem putI_m {w0 w : World} {μ : Mem} {L : List Own} {g n b a c : Nat} {cells : List Value} (kv : List (Fin 8 × Int)) (k : Fin 8) (i : Nat) (cost : Int) (hS : St w0 w μ L) (hs : L[a]? = some (Own.sl (some ⟨g, 0, none⟩) n n 103 1 cells)) (hc : cells[i]? = some (.map (some b))) (hi : i < n) (hn : n ≤ 1000000) (hm : L[c]? = some (Own.mp kmV iV b kv)) :
    Calls Try.prog 62 #[.slice (some ⟨g, 0, none⟩) n n, .int .i64 i, .int .i64 (k.val : Nat), .int .i64 cost] w (RetM fun v w' => v = .bool (putB kv k cost) ∧ St w0 w' μ (L.set c (Own.mp kmV iV b (putM kv k cost)))) := by
  cases hg : aget kv k with
  | none =>
    refine calls_start 32 [.slice (some ⟨g, 0, none⟩) n n, .int .i64 i, .int .i64 (k.val : Nat), .int .i64 cost] Try.func62 rfl Try.ntmps62 rfl rfl ?_
    refine CW.seq fun K31 hK31 => ?_
    refine CW.region [0] rfl ?_
    refine LW.ex rfl rfl rfl rfl (Ex.assign rfl) hS.rd ?_
    refine LW.nil fun aa ha => hK31 _ _ _ ?_ aa ha
    refine CW.seq fun K32 hK32 => ?_
    refine CW.region [0, 1, 2, 3, 4, 5, 6, 7, 8, 9, 10] rfl ?_
    refine LW.ex rfl rfl rfl rfl (Ex.move rfl) hS.rd ?_
    refine LW.ex rfl rfl rfl rfl (Ex.move rfl) hS.rd ?_
    refine LW.ex rfl rfl rfl rfl (Ex.indexSl Try.underlying99 ti103 rfl rfl rfl (by omega)) hS.rd ?_
    refine LW.ex rfl rfl rfl rfl (Ex.load1 ti103 rfl rfl (Rd.sl (k := a + 0) hs (by rw [Nat.zero_add, Nat.mul_one]; exact hc))) hS.rd ?_
    refine LW.ex rfl rfl rfl rfl (Ex.move rfl) hS.rd ?_
    refine LW.ex rfl rfl rfl rfl (Ex.lookup_none (a := k) Try.underlying103 ti3 encKM (c + 0) hm rfl rfl hg) hS.rd ?_
    refine LW.ex rfl rfl rfl rfl (Ex.move rfl) hS.rd ?_
    refine LW.ex rfl rfl rfl rfl (Ex.extract rfl rfl) hS.rd ?_
    refine LW.ex rfl rfl rfl rfl (Ex.extract rfl rfl) hS.rd ?_
    refine LW.ex rfl rfl rfl rfl (Ex.assign rfl) hS.rd ?_
    refine LW.ex rfl rfl rfl rfl (Ex.assign rfl) hS.rd ?_
    refine LW.nil fun aa ha => hK32 _ _ _ ?_ aa ha
    refine CW.seq fun K33 hK33 => ?_
    refine CW.seq fun K34 hK34 => ?_
    refine CW.region [0, 1, 2, 3, 4, 5] rfl ?_
    refine LW.ex rfl rfl rfl rfl (Ex.move rfl) hS.rd ?_
    refine LW.ex rfl rfl rfl rfl (Ex.move rfl) hS.rd ?_
    refine LW.skip rfl rfl rfl rfl ?_
    refine LW.skip rfl rfl rfl rfl ?_
    refine LW.skip rfl rfl rfl rfl ?_
    refine LW.ex rfl rfl rfl rfl (by first | exact Ex.pick_yes rfl rfl | exact Ex.pick_no rfl rfl) hS.rd ?_
    refine LW.nil fun aa ha => hK34 _ _ _ ?_ aa ha
    refine CW.no rfl ?_
    refine CW.skip fun aa ha => hK33 _ _ _ ?_ aa ha
    refine CW.seq fun K35 hK35 => ?_
    refine CW.region [0, 1, 2, 3, 4, 5, 6] rfl ?_
    refine LW.ex rfl rfl rfl rfl (Ex.move rfl) hS.rd ?_
    refine LW.ex rfl rfl rfl rfl (Ex.move rfl) hS.rd ?_
    refine LW.ex rfl rfl rfl rfl (Ex.indexSl Try.underlying99 ti103 rfl rfl rfl (by omega)) hS.rd ?_
    refine LW.ex rfl rfl rfl rfl (Ex.load1 ti103 rfl rfl (Rd.sl (k := a + 0) hs (by rw [Nat.zero_add, Nat.mul_one]; exact hc))) hS.rd ?_
    refine LW.ex rfl rfl rfl rfl (Ex.move rfl) hS.rd ?_
    refine LW.ex rfl rfl rfl rfl (Ex.move rfl) hS.rd ?_
    refine LW.hu rfl rfl rfl (Hv.mapUpdate (a := k) (c := cost) Try.underlying103 encKM (c + 0) hS hm rfl rfl rfl) fun _ w_6 hS => ?_
    refine LW.nil fun aa ha => hK35 _ _ _ ?_ aa ha
    refine CW.seq fun K36 hK36 => ?_
    refine CW.region [0] rfl ?_
    refine LW.ex rfl rfl rfl rfl (Ex.assign rfl) hS.rd ?_
    refine LW.nil fun aa ha => hK36 _ _ _ ?_ aa ha
    refine CW.ret fun aa ha => ?_
    refine ret_one ha Try.results62 rfl ?_
    exact ⟨_, rfl, by unfold putB; rw [hg], by unfold putM; rw [hg]; exact hS⟩
  | some old =>
    refine calls_start 32 [.slice (some ⟨g, 0, none⟩) n n, .int .i64 i, .int .i64 (k.val : Nat), .int .i64 cost] Try.func62 rfl Try.ntmps62 rfl rfl ?_
    refine CW.seq fun K37 hK37 => ?_
    refine CW.region [0] rfl ?_
    refine LW.ex rfl rfl rfl rfl (Ex.assign rfl) hS.rd ?_
    refine LW.nil fun aa ha => hK37 _ _ _ ?_ aa ha
    refine CW.seq fun K38 hK38 => ?_
    refine CW.region [0, 1, 2, 3, 4, 5, 6, 7, 8, 9, 10] rfl ?_
    refine LW.ex rfl rfl rfl rfl (Ex.move rfl) hS.rd ?_
    refine LW.ex rfl rfl rfl rfl (Ex.move rfl) hS.rd ?_
    refine LW.ex rfl rfl rfl rfl (Ex.indexSl Try.underlying99 ti103 rfl rfl rfl (by omega)) hS.rd ?_
    refine LW.ex rfl rfl rfl rfl (Ex.load1 ti103 rfl rfl (Rd.sl (k := a + 0) hs (by rw [Nat.zero_add, Nat.mul_one]; exact hc))) hS.rd ?_
    refine LW.ex rfl rfl rfl rfl (Ex.move rfl) hS.rd ?_
    refine LW.ex rfl rfl rfl rfl (Ex.lookup_some (a := k) Try.underlying103 ti3 encKM (c + 0) hm rfl rfl hg) hS.rd ?_
    refine LW.ex rfl rfl rfl rfl (Ex.move rfl) hS.rd ?_
    refine LW.ex rfl rfl rfl rfl (Ex.extract rfl rfl) hS.rd ?_
    refine LW.ex rfl rfl rfl rfl (Ex.extract rfl rfl) hS.rd ?_
    refine LW.ex rfl rfl rfl rfl (Ex.assign rfl) hS.rd ?_
    refine LW.ex rfl rfl rfl rfl (Ex.assign rfl) hS.rd ?_
    refine LW.nil fun aa ha => hK38 _ _ _ ?_ aa ha
    refine CW.seq fun K39 hK39 => ?_
    refine CW.seq fun K40 hK40 => ?_
    refine CW.region [0, 1, 2, 3, 4, 5] rfl ?_
    refine LW.ex rfl rfl rfl rfl (Ex.move rfl) hS.rd ?_
    refine LW.ex rfl rfl rfl rfl (Ex.move rfl) hS.rd ?_
    refine LW.ex rfl rfl rfl rfl (Ex.move rfl) hS.rd ?_
    refine LW.ex rfl rfl rfl rfl (Ex.move rfl) hS.rd ?_
    refine LW.ex rfl rfl rfl rfl (Ex.leq rfl rfl rfl) hS.rd ?_
    refine LW.splitB (fun h2_4 => ?_) (fun h2_4 => ?_)
    · have h2_4 := of_decide_eq_true h2_4
      refine LW.ex rfl rfl rfl rfl (by first | exact Ex.pick_yes rfl rfl | exact Ex.pick_no rfl rfl) hS.rd ?_
      refine LW.nil fun aa ha => hK40 _ _ _ ?_ aa ha
      refine CW.yes rfl ?_
      refine CW.seq fun K41 hK41 => ?_
      refine CW.region [0] rfl ?_
      refine LW.ex rfl rfl rfl rfl (Ex.assign rfl) hS.rd ?_
      refine LW.nil fun aa ha => hK41 _ _ _ ?_ aa ha
      refine CW.ret fun aa ha => ?_
      refine ret_one ha Try.results62 rfl ?_
      exact ⟨_, rfl, by unfold putB; rw [hg]; simp only; rw [decide_eq_true h2_4]; rfl, by unfold putM; rw [hg]; simp only; rw [if_pos h2_4, set_same hm]; exact hS⟩
    · have h2_4 := of_decide_eq_false h2_4
      refine LW.ex rfl rfl rfl rfl (by first | exact Ex.pick_yes rfl rfl | exact Ex.pick_no rfl rfl) hS.rd ?_
      refine LW.nil fun aa ha => hK40 _ _ _ ?_ aa ha
      refine CW.no rfl ?_
      refine CW.skip fun aa ha => hK39 _ _ _ ?_ aa ha
      refine CW.seq fun K42 hK42 => ?_
      refine CW.region [0, 1, 2, 3, 4, 5, 6] rfl ?_
      refine LW.ex rfl rfl rfl rfl (Ex.move rfl) hS.rd ?_
      refine LW.ex rfl rfl rfl rfl (Ex.move rfl) hS.rd ?_
      refine LW.ex rfl rfl rfl rfl (Ex.indexSl Try.underlying99 ti103 rfl rfl rfl (by omega)) hS.rd ?_
      refine LW.ex rfl rfl rfl rfl (Ex.load1 ti103 rfl rfl (Rd.sl (k := a + 0) hs (by rw [Nat.zero_add, Nat.mul_one]; exact hc))) hS.rd ?_
      refine LW.ex rfl rfl rfl rfl (Ex.move rfl) hS.rd ?_
      refine LW.ex rfl rfl rfl rfl (Ex.move rfl) hS.rd ?_
      refine LW.hu rfl rfl rfl (Hv.mapUpdate (a := k) (c := cost) Try.underlying103 encKM (c + 0) hS hm rfl rfl rfl) fun _ w_6 hS => ?_
      refine LW.nil fun aa ha => hK42 _ _ _ ?_ aa ha
      refine CW.seq fun K43 hK43 => ?_
      refine CW.region [0] rfl ?_
      refine LW.ex rfl rfl rfl rfl (Ex.assign rfl) hS.rd ?_
      refine LW.nil fun aa ha => hK43 _ _ _ ?_ aa ha
      refine CW.ret fun aa ha => ?_
      refine ret_one ha Try.results62 rfl ?_
      exact ⟨_, rfl, by unfold putB; rw [hg]; simp only; rw [decide_eq_false h2_4]; rfl, by unfold putM; rw [hg]; simp only; rw [if_neg h2_4]; exact hS⟩
end Go.Proofs.Ytgbdfgifgngijaa

/-
  Output: the walk of output.walk, for three kinds of states.
-/
namespace Go.Proofs.Ytgbdfgifgngijaa
open Go.RowKit Sy Go.Maps

def cellsF (bs : Nat → Nat) (j N : Nat) : List Value := (List.range N).map fun q => if q < j then .map (some (bs q)) else .map none
theorem cellsF_len (bs : Nat → Nat) (j N : Nat) : (cellsF bs j N).length = N := by unfold cellsF; simp
theorem cellsF_set (bs : Nat → Nat) (j N b : Nat) : (cellsF bs j N).set j (.map (some b)) = cellsF (updF bs j b) (j + 1) N := by
  unfold cellsF
  refine List.ext_getElem (by simp) fun i h1 h2 => ?_
  simp only [List.getElem_set, List.getElem_map, List.getElem_range, updF]
  by_cases h : j = i
  · subst h; simp
  · have h3 : ¬ i = j := fun e => h e.symm
    rw [if_neg h, if_neg h3]
    by_cases h4 : i < j
    · rw [if_pos h4, if_pos (by omega)]
    · rw [if_neg h4, if_neg (by omega)]
theorem cellsF_get {bs : Nat → Nat} {j N q : Nat} (h1 : q < j) (h2 : q < N) : (cellsF bs j N)[q]? = some (.map (some (bs q))) := by
  unfold cellsF; rw [List.getElem?_map, List.getElem?_range h2, Option.map_some, if_pos h1]
theorem cellsF_zero (bs : Nat → Nat) (N : Nat) : List.replicate N (Value.map none) = cellsF bs 0 N := by
  unfold cellsF
  symm
  rw [List.eq_replicate_iff]
  exact ⟨by simp, fun b hb => by obtain ⟨q, _, rfl⟩ := List.mem_map.1 hb; simp⟩
theorem pre_at {inp : ByteArray} {i : Nat} (r : Rule) (hi : i ≤ inp.size) : preB (inp.extract i inp.size) r.In = preAt inp i r := by
  unfold preB preAt
  congr 1
  unfold bl
  rw [ByteArray.data_extract]
  simp only [Array.toList_extract, List.extract]
  rw [List.take_of_length_le (by simp [show inp.data.toList.length = inp.size from rfl])]
section
variable {α : Type} [DecidableEq α]
theorem aget_mem {β : Type} : ∀ {kv : List (α × β)} {k : α} {c : β}, aget kv k = some c → (k, c) ∈ kv
  | [], _, _, h => by cases h
  | (k', v) :: r, k, c, h => by
    simp only [aget] at h
    split at h
    · rename_i e
      subst e
      obtain rfl := Option.some.inj h
      exact List.mem_cons_self ..
    · exact List.mem_cons_of_mem _ (aget_mem h)
theorem aget_of {β : Type} {kv : List (α × β)} (hn : (kv.map Prod.fst).Nodup) {p : α × β} (hp : p ∈ kv) : aget kv p.1 = some p.2 := by
  obtain ⟨j, hj, e⟩ := List.getElem_of_mem hp
  exact aget_at (j := j) hn (by rw [List.getElem?_eq_getElem hj, e])
theorem aset_mem {β : Type} : ∀ {kv : List (α × β)} {k : α} {c : β} {q : α × β}, q ∈ aset kv k c → q = (k, c) ∨ q ∈ kv
  | [], k, c, q, h => .inl (by simpa [aset] using h)
  | (k', v) :: r, k, c, q, h => by
    simp only [aset] at h
    split at h
    · rcases List.mem_cons.1 h with h | h
      · exact .inl h
      · exact .inr (List.mem_cons_of_mem _ h)
    · rcases List.mem_cons.1 h with h | h
      · exact .inr (by rw [h]; exact List.mem_cons_self ..)
      · exact (aset_mem h).imp id (List.mem_cons_of_mem _)
theorem mem_erase_idx {γ : Type} {l : List γ} {j : Nat} {p x : γ} (hj : l[j]? = some p) (hx : x ∈ l) : x = p ∨ x ∈ l.eraseIdx j := by
  have := (erase_perm hj).mem_iff (a := x)
  rw [List.mem_cons] at this
  exact this.2 hx
/-- While a map is copied. -/
structure Cp (kv left kvw : List (α × Int)) : Prop where
  a : ∀ p ∈ kvw, p ∈ kv
  b : ∀ p ∈ kv, p ∈ left ∨ aget kvw p.1 = some p.2
  c : ∀ p ∈ left, p ∈ kv
theorem Cp.start (kv : List (α × Int)) : Cp kv kv [] := ⟨(fun p hp => by cases hp), fun p hp => .inl hp, fun p hp => hp⟩
theorem Cp.step {kv left kvw : List (α × Int)} (hn : (kv.map Prod.fst).Nodup) (h : Cp kv left kvw) {j : Nat} {p : α × Int} (hj : left[j]? = some p) : Cp kv (left.eraseIdx j) (aset kvw p.1 p.2) := by
  have hp := h.c p (List.mem_of_getElem? hj)
  refine ⟨fun q hq => ?_, fun q hq => ?_, fun q hq => h.c q ((List.eraseIdx_sublist _ _).subset hq)⟩
  · rcases aset_mem hq with rfl | hq
    · exact hp
    · exact h.a q hq
  · rw [aget_aset]
    rcases h.b q hq with h1 | h1
    · rcases mem_erase_idx hj h1 with rfl | h2
      · exact .inr (by rw [if_pos rfl])
      · exact .inl h2
    · by_cases e : p.1 = q.1
      · have h3 := aget_of hn hp
        have h4 := aget_of hn hq
        rw [← e, h3] at h4
        exact .inr (by rw [if_pos e]; exact h4)
      · exact .inr (by rw [if_neg e]; exact h1)
theorem Cp.keys {kv kvw : List (α × Int)} (h : Cp kv [] kvw) : ∀ k c, aget kv k = some c → k ∈ kvw.map Prod.fst := fun k c hk =>
  List.mem_map.2 ⟨(k, c), aget_mem ((h.b (k, c) (aget_mem hk)).resolve_left (by simp)), rfl⟩
theorem Cp.sub {kv left kvw : List (α × Int)} (hn : (kv.map Prod.fst).Nodup) (h : Cp kv left kvw) : ∀ p ∈ kvw, aget kv p.1 = some p.2 := fun p hp => aget_of hn (h.a p hp)
omit [DecidableEq α] in
theorem st_nodup {β : Type} {ek : α → Value} {ev : β → Value} {w0 w : World} {μ : Mem} {L : List Own} {i b : Nat} {kv : List (α × β)} (hS : St w0 w μ L) (hi : L[i]? = some (Own.mp ek ev b kv)) : (kv.map Prod.fst).Nodup := by
  obtain ⟨bs, _, es, clock, _, hM⟩ := hS.rd.get hi
  exact hM.nodup
omit [DecidableEq α] in
theorem not_mem_map {l : List (α × Int)} {j : Nat} {p : α × Int} (hj : l[j]? = some p) : ∀ x, x ∈ l.map Prod.fst → x = p.1 ∨ x ∈ (l.eraseIdx j).map Prod.fst := fun x hx => by
  obtain ⟨q, hq, rfl⟩ := List.mem_map.1 hx
  rcases mem_erase_idx hj hq with rfl | h
  · exact .inl rfl
  · exact .inr (List.mem_map.2 ⟨q, h, rfl⟩)
/-- What the walk answers. -/
def WRes (X : WX α) (ms : Nat → List (α × Int)) (lim : Int) (ok : Bool) : Prop :=
  if ok = true then WI X ms (X.inp.size + 1) ∧ ∀ j, j ≤ X.inp.size → ((ms j).length : Int) ≤ lim else ∃ i, i ≤ X.inp.size ∧ WI X ms i ∧ lim < ((ms i).length : Int)
end
theorem er_lt {γ : Type} {l : List γ} {j : Nat} {p : γ} (h : l[j]? = some p) : (l.eraseIdx j).length < l.length := by
  obtain ⟨hj, _⟩ := List.getElem?_eq_some_iff.1 h
  rw [List.length_eraseIdx]
  split <;> omega
theorem notEmpty {s : ByteArray} (h : 1 ≤ s.size) : (s == (⟨#[]⟩ : ByteArray)) = false := by
  rw [beqS, decide_eq_false_iff_not]
  intro e
  rw [e] at h
  exact absurd h (by decide)
theorem WI.init {α : Type} [DecidableEq α] (X : WX α) : WI X (updF (fun _ => []) 0 (putM [] X.first 0)) 0 := by
  have e : putM ([] : List (α × Int)) X.first 0 = [(X.first, 0)] := rfl
  rw [e]
  refine WI.start X _ (by unfold updF; rw [if_pos rfl]; simp [aget]) fun j k c h => ?_
  unfold updF at h
  split at h
  · rename_i hj
    simp only [aget] at h
    split at h
    · rename_i hk
      exact ⟨hj, hk.symm, (Option.some.inj h).symm⟩
    · cases h
  · cases h
theorem extract0 {P : Program} {S : World → Prop} {m : List (Nat × Value)} {x : Operand} {b : Bool} {rest : List Value} (hx : ev m x = some (.tuple (Value.bool b :: rest).toArray)) : Ex P S m (.extract x 0) (.bool b) := Ex.extract hx (by simp)
theorem ext_size {s : ByteArray} {i : Nat} : (s.extract i s.size).size ≤ s.size := by rw [ByteArray.size_extract]; omega
set_option maxRecDepth 100000 in
set_option maxHeartbeats 4000000 in
theorem walkO_m {w0 w : World} {μ : Mem} {L : List Own} (X : WX (KO)) (hX : Takes X) (lim : Int) (fn : Nat) (hC : Callable Try.prog fn) (hS : St w0 w μ L) (ar : Option Addr) (cr : Nat) (hr : Sl μ ar cr X.rules) (hrl : X.rules.length ≤ 64) (hin : X.inp.size ≤ 40) (hrs : ∀ r ∈ X.rules, RSmall r)
    (hnx : ∀ p k c, Rt X p k c → ∀ r ∈ X.rules, ∀ w', Imm μ w' → Calls Try.prog fn #[koV k, ruleV r] w' (RetS w' (.tuple #[koV (X.nv k r), .bool (X.ft k r)]))) :
    Calls Try.prog 32 #[.string X.inp, .slice ar X.rules.length cr, .int .i64 lim, .agg #[.int .i64 (X.first.1.1.val : Nat), .string X.first.1.2], .func (.func fn) #[] #[]] w (RetM fun v w' => ∃ g ok ms bs, v = .tuple #[.slice (some ⟨g, 0, none⟩) (X.inp.size + 1) (X.inp.size + 1), .bool ok] ∧ WRes X ms lim ok ∧
      St w0 w' μ (Own.sl (some ⟨g, 0, none⟩) (X.inp.size + 1) (X.inp.size + 1) 87 1 (cellsF bs (X.inp.size + 1) (X.inp.size + 1)) :: (mapsO koV iV bs ms (X.inp.size + 1) ++ L))) := by
  obtain ⟨N, hN⟩ : ∃ N, N = X.inp.size + 1 := ⟨_, rfl⟩
  have hN0 : 0 < N := by omega
  rw [← hN]
  refine calls_start 143 [.string X.inp, .slice ar X.rules.length cr, .int .i64 lim, .agg #[.int .i64 (X.first.1.1.val : Nat), .string X.first.1.2], .func (.func fn) #[] #[]] Try.func32 rfl Try.ntmps32 rfl rfl ?_
  refine CW.seq fun K1 hK1 => ?_
  refine CW.region [0, 1, 2] rfl ?_
  refine LW.hv rfl rfl rfl rfl (Hv.boxS hS rfl rfl) fun v w8 ⟨b8, hv, hb8, hS⟩ => ?_
  subst hv
  refine LW.ex rfl rfl rfl rfl (Ex.assign rfl) hS.rd ?_
  refine LW.ex rfl rfl rfl rfl (Ex.assign rfl) hS.rd ?_
  refine LW.nil fun aa ha => hK1 _ _ _ ?_ aa ha
  refine CW.seq fun K2 hK2 => ?_
  refine CW.region [0, 1, 2, 3, 4] rfl ?_
  refine LW.ex rfl rfl rfl rfl (Ex.move rfl) hS.rd ?_
  refine LW.ex rfl rfl rfl rfl (Ex.lenS rfl Try.underlying9 rfl) hS.rd ?_
  refine LW.ex rfl rfl rfl rfl (Ex.add (r := (N : Int)) rfl rfl (by rw [Sy.w64 (by omega) (by omega)]; omega)) hS.rd ?_
  refine LW.hv rfl rfl rfl rfl (Hv.makeSlice Try.underlying80 ti87 hS rfl rfl rfl rfl (by omega) (by unfold maxLen; omega)) fun v w27 ⟨b27, hv, hb27, hS⟩ => ?_
  subst hv
  rw [show (madeCells (Value.cells (.map none)) (N * 1)).toList = cellsF (fun _ => 0) 0 N by rw [Nat.mul_one, show Value.cells (.map none) = #[.map none] from rfl, toList_madeCells_one, cellsF_zero]] at hS
  refine LW.ex rfl rfl rfl rfl (Ex.assign rfl) hS.rd ?_
  refine LW.nil fun aa ha => hK2 _ _ _ ?_ aa ha
  refine CW.seq fun K3 hK3 => ?_
  refine CW.seq fun K4 hK4 => ?_
  refine CW.region [0, 1, 2] rfl ?_
  refine LW.ex rfl rfl rfl rfl (Ex.move rfl) hS.rd ?_
  refine LW.ex rfl rfl rfl rfl (Ex.lenSl rfl Try.underlying80 rfl) hS.rd ?_
  refine LW.ex rfl rfl rfl rfl (Ex.move rfl) hS.rd ?_
  refine LW.nil fun aa ha => hK4 _ _ _ ?_ aa ha
  refine CW.block ?_
  refine CW.loop (fun qq frm wl3 => ∃ (j : Nat) (bs : Nat → Nat), j ≤ N ∧ qq = N - j ∧ frm = [(0, .string X.inp), (1, .slice ar X.rules.length cr), (2, .int .i64 lim), (4, .func (.func fn) #[] #[]), (8, .pointer (some ⟨b8, 0, none⟩)), (12, .slice (some ⟨b27, 0, none⟩) N N), (29, .int .i64 N), (30, .int .i64 j)] ∧ St w0 wl3 μ (Own.sl (some ⟨b27, 0, none⟩) N N 87 1 (cellsF bs j N) :: Own.obj b8 [.int .i64 (( X.first).1.1.val : Nat), .string ( X.first).1.2] 84 :: (mapsO koV iV bs (fun _ => []) j ++ L))) _ ⟨0, fun _ => 0, (by first | omega | (simp; done) | (simp; omega)), rfl, rfl, hS⟩ ⟨rfl, rfl, rfl, rfl, rfl, rfl, rfl, rfl, trivial⟩ ?_
  clear hS
  rintro qq frm wl3 ⟨j, bs, hj, hq, rfl, hS⟩
  refine CW.seq fun K5 hK5 => ?_
  refine CW.region [0] rfl ?_
  refine LW.ex rfl rfl rfl rfl (Ex.lss rfl rfl rfl) hS.rd ?_
  refine LW.splitB (fun h3_0 => ?_) (fun h3_0 => ?_)
  · have h3_0 := of_decide_eq_true h3_0
    refine LW.nil fun aa ha => hK5 _ _ _ ?_ aa ha
    refine CW.seq fun K6 hK6 => ?_
    refine CW.yes rfl ?_
    refine CW.skip fun aa ha => hK6 _ _ _ ?_ aa ha
    refine CW.seq fun K7 hK7 => ?_
    refine CW.block ?_
    refine CW.seq fun K8 hK8 => ?_
    refine CW.region [0, 1] rfl ?_
    refine LW.ex rfl rfl rfl rfl (Ex.move rfl) hS.rd ?_
    refine LW.ex rfl rfl rfl rfl (Ex.assign rfl) hS.rd ?_
    refine LW.nil fun aa ha => hK8 _ _ _ ?_ aa ha
    have hov : 0 + j * 1 < (cellsF bs j N).length := by rw [cellsF_len]; omega
    refine CW.region [0, 1, 2, 3, 4] rfl ?_
    refine LW.ex rfl rfl rfl rfl (Ex.move rfl) hS.rd ?_
    refine LW.ex rfl rfl rfl rfl (Ex.move rfl) hS.rd ?_
    refine LW.hv rfl rfl rfl rfl (Hv.makeMap koV iV hS) fun v w35 ⟨b35, hv, hb35, hS⟩ => ?_
    subst hv
    refine LW.ex rfl rfl rfl rfl (Ex.indexSl Try.underlying80 ti87 rfl rfl rfl (by omega)) hS.rd ?_
    refine LW.hu rfl rfl rfl (Hv.storeSl (k := 1) ti87 hS rfl rfl rfl rfl (by first | assumption | (simp; done) | omega | exact Nat.zero_lt_succ _)) fun _ w_4 hS => ?_
    dsimp only [List.set] at hS
    rw [Nat.zero_add, Nat.mul_one, cellsF_set] at hS
    refine LW.nil fun aa ha => hK7 _ _ _ ?_ aa ha
    refine CW.region [0, 1] rfl ?_
    refine LW.ex rfl rfl rfl rfl (Ex.add rfl rfl (by first | exact inc64 (by omega) | exact addN (by omega) | exact w64 (by omega) (by omega))) hS.rd ?_
    refine LW.ex rfl rfl rfl rfl (Ex.move rfl) hS.rd ?_
    refine LW.nil fun aa ha => ?_
    have hS := st_perm' hS perm_in
    rw [mapsO_snoc, show updF (fun _ => ([] : List (KO × Int))) j [] = fun _ => [] by funext q; unfold updF; split <;> rfl] at hS
    refine ⟨_, _, ?m3, ⟨j + 1, updF bs j b35, (by first | omega | (simp; done) | (simp; omega)), rfl, rfl, hS⟩, ha.sub ⟨rfl, rfl, rfl, rfl, rfl, rfl, rfl, rfl, trivial⟩⟩
    case m3 => omega
  · have h3_0 := of_decide_eq_false h3_0
    refine LW.nil fun aa ha => hK5 _ _ _ ?_ aa ha
    refine CW.seq fun K9 hK9 => ?_
    refine CW.no rfl ?_
    refine CW.exit fun aa ha => hK3 _ _ _ ?_ aa ha
    refine CW.seq fun K10 hK10 => ?_
    have hjN : N = j := by omega
    subst hjN
    refine CW.region [0, 1, 2] rfl ?_
    refine LW.ex rfl rfl rfl rfl (Ex.move rfl) hS.rd ?_
    refine LW.ex rfl rfl rfl rfl (Ex.load2c ti84 rfl rfl (by first | exact obT rfl | exact Rd.imm ‹_› | exact slT ‹_›) (by first | exact obT rfl | exact Rd.imm ‹_› | exact slT ‹_›)) hS.rd ?_
    refine LW.hv rfl rfl rfl rfl (Hv.callM rfl rfl rfl cb57 (putO_m (a := 0) (c := 0 + 2) [] X.first 0 0 hS rfl (cellsF_get hN0 hN0) hN0 (by omega) (maps_get [_, _] hN0))) fun v w40 ⟨hv, hS⟩ => ?_
    subst hv
    have hS := st_maps [_, _] hN0 hS
    dsimp only [List.cons_append, List.nil_append] at hS
    refine LW.nil fun aa ha => hK10 _ _ _ ?_ aa ha
    refine CW.seq fun K11 hK11 => ?_
    refine CW.seq fun K12 hK12 => ?_
    refine CW.region [0, 1, 2] rfl ?_
    refine LW.ex rfl rfl rfl rfl (Ex.move rfl) hS.rd ?_
    refine LW.ex rfl rfl rfl rfl (Ex.lenSl rfl Try.underlying80 rfl) hS.rd ?_
    refine LW.ex rfl rfl rfl rfl (Ex.move rfl) hS.rd ?_
    refine LW.nil fun aa ha => hK12 _ _ _ ?_ aa ha
    refine CW.block ?_
    refine CW.loop (fun qq frm wl9 => ∃ (i : Nat) (ms : Nat → List (KO × Int)), i ≤ N ∧ qq = N - i ∧ frm = [(0, .string X.inp), (1, .slice ar X.rules.length cr), (2, .int .i64 lim), (4, .func (.func fn) #[] #[]), (12, .slice (some ⟨b27, 0, none⟩) N N), (42, .int .i64 N), (43, .int .i64 i)] ∧ St w0 wl9 μ (Own.sl (some ⟨b27, 0, none⟩) N N 87 1 (cellsF bs N N) :: Own.obj b8 [.int .i64 (( X.first).1.1.val : Nat), .string ( X.first).1.2] 84 :: (mapsO koV iV bs ms N ++ L)) ∧ (WI X ms i) ∧ (∀ j, j < i → ((ms j).length : Int) ≤ lim)) _ ⟨0, updF (fun _ => []) 0 (putM [] X.first 0), (by first | omega | (simp; done) | (simp; omega)), rfl, rfl, hS, WI.init X, fun j h => by omega⟩ ⟨rfl, rfl, rfl, rfl, rfl, rfl, rfl, trivial⟩ ?_
    clear hS
    rintro qq frm wl9 ⟨i, ms, hi, hq, rfl, hS, hW, hlen⟩
    refine CW.seq fun K13 hK13 => ?_
    refine CW.region [0] rfl ?_
    refine LW.ex rfl rfl rfl rfl (Ex.lss rfl rfl rfl) hS.rd ?_
    refine LW.splitB (fun h9_0 => ?_) (fun h9_0 => ?_)
    · have h9_0 := of_decide_eq_true h9_0
      refine LW.nil fun aa ha => hK13 _ _ _ ?_ aa ha
      refine CW.seq fun K14 hK14 => ?_
      refine CW.yes rfl ?_
      refine CW.skip fun aa ha => hK14 _ _ _ ?_ aa ha
      refine CW.seq fun K15 hK15 => ?_
      refine CW.block ?_
      refine CW.seq fun K16 hK16 => ?_
      have hi2 : i < N := by omega
      have hq9 := hq
      refine CW.region [0, 1] rfl ?_
      refine LW.ex rfl rfl rfl rfl (Ex.move rfl) hS.rd ?_
      refine LW.ex rfl rfl rfl rfl (Ex.assign rfl) hS.rd ?_
      refine LW.nil fun aa ha => hK16 _ _ _ ?_ aa ha
      refine CW.seq fun K17 hK17 => ?_
      refine CW.region [0, 1] rfl ?_
      refine LW.hv rfl rfl rfl rfl (Hv.makeMap koV iV hS) fun v w46 ⟨b46, hv, hb46, hS⟩ => ?_
      subst hv
      refine LW.ex rfl rfl rfl rfl (Ex.assign rfl) hS.rd ?_
      refine LW.nil fun aa ha => hK17 _ _ _ ?_ aa ha
      refine CW.seq fun K18 hK18 => ?_
      refine CW.seq fun K19 hK19 => ?_
      have hnd := st_nodup hS (maps_get [_, _, _] hi2)
      refine CW.region [0, 1, 2, 3, 4] rfl ?_
      refine LW.ex rfl rfl rfl rfl (Ex.move rfl) hS.rd ?_
      refine LW.ex rfl rfl rfl rfl (Ex.move rfl) hS.rd ?_
      refine LW.ex rfl rfl rfl rfl (Ex.indexSl Try.underlying80 ti87 rfl rfl rfl (by omega)) hS.rd ?_
      refine LW.ex rfl rfl rfl rfl (Ex.load1 ti87 rfl rfl (Rd.sl (k := 1) rfl (by rw [Nat.zero_add, Nat.mul_one]; exact cellsF_get hi2 hi2))) hS.rd ?_
      refine LW.hv rfl rfl rfl rfl (Hv.range Try.underlying87 (i + 3) hS (maps_get [_, _, _] hi2) rfl) fun v w51 ⟨r51, hv, hr51, hS⟩ => ?_
      subst hv
      have hS := st_rng0 [_, _, _] _ hi2 hS
      refine LW.nil fun aa ha => hK19 _ _ _ ?_ aa ha
      refine CW.block ?_
      refine CW.loop (fun qq frm wl13 => ∃ (left kvw : List (KO × Int)) (cur : Option (KO × Int)), qq = left.length ∧ frm = [(0, .string X.inp), (1, .slice ar X.rules.length cr), (2, .int .i64 lim), (4, .func (.func fn) #[] #[]), (12, .slice (some ⟨b27, 0, none⟩) N N), (14, .int .i64 i), (15, .map (some b46)), (42, .int .i64 N), (43, .int .i64 i), (51, .pointer (some ⟨r51, 0, none⟩))] ∧ St w0 wl13 μ (Own.mp koV iV b46 kvw :: Own.sl (some ⟨b27, 0, none⟩) N N 87 1 (cellsF bs N N) :: Own.obj b8 [.int .i64 (( X.first).1.1.val : Nat), .string ( X.first).1.2] 84 :: ((mapsO koV iV bs ms N).set i (Own.rng koV iV (bs i) r51 (ms i) left cur) ++ L)) ∧ (Cp (ms i) left kvw)) _ ⟨ms i, [], none, rfl, rfl, hS, Cp.start _⟩ ⟨rfl, rfl, rfl, rfl, rfl, rfl, rfl, rfl, rfl, rfl, trivial⟩ ?_
      clear hS
      rintro qq frm wl13 ⟨left, kvw, cur, hq, rfl, hS, hcp⟩
      refine CW.seq fun K20 hK20 => ?_
      refine CW.region [0, 1] rfl ?_
      refine LW.hv rfl rfl rfl rfl (Hv.nextAny (i + 3) hS (rng_get [_, _, _] _ hi2) rfl) fun v w52 ⟨bo, rest, left', cur', hv, hF, hT, hS⟩ => ?_
      subst hv
      have hS := st_rng1 [_, _, _] _ _ hi2 hS
      refine LW.ex rfl rfl rfl rfl (extract0 rfl) hS.rd ?_
      refine LW.splitB (fun h13_1 => ?_) (fun h13_1 => ?_)
      · obtain ⟨jj, p, hj, hl2, hc2⟩ := hT h13_1
        subst hl2 hc2
        refine LW.nil fun aa ha => hK20 _ _ _ ?_ aa ha
        refine CW.seq fun K21 hK21 => ?_
        refine CW.yes rfl ?_
        refine CW.skip fun aa ha => hK21 _ _ _ ?_ aa ha
        refine CW.block ?_
        refine CW.seq fun K22 hK22 => ?_
        refine CW.region [0, 1, 2, 3, 4, 5] rfl ?_
        refine LW.ex rfl rfl rfl rfl (Ex.entry (i + 3) (rng_get [_, _, _] _ hi2) rfl) hS.rd ?_
        refine LW.ex rfl rfl rfl rfl (Ex.extract rfl rfl) hS.rd ?_
        refine LW.ex rfl rfl rfl rfl (Ex.extract rfl rfl) hS.rd ?_
        refine LW.hv rfl rfl rfl rfl (Hv.alloc ti84 hS) fun v w16 ⟨b16, hv, hb16, hS⟩ => ?_
        subst hv
        refine LW.hu rfl rfl rfl (Hv.storeN (k := 0) ti84 hS rfl rfl rfl rfl (by simp [Value.oneCell'])) fun _ w_4 hS => ?_
        dsimp only [List.set] at hS
        refine LW.ex rfl rfl rfl rfl (Ex.assign rfl) hS.rd ?_
        refine LW.nil fun aa ha => hK22 _ _ _ ?_ aa ha
        refine CW.region [0, 1, 2, 3] rfl ?_
        refine LW.ex rfl rfl rfl rfl (Ex.move rfl) hS.rd ?_
        refine LW.ex rfl rfl rfl rfl (Ex.load2c ti84 rfl rfl (by first | exact obT rfl | exact Rd.imm ‹_› | exact slT ‹_›) (by first | exact obT rfl | exact Rd.imm ‹_› | exact slT ‹_›)) hS.rd ?_
        refine LW.ex rfl rfl rfl rfl (Ex.move rfl) hS.rd ?_
        refine LW.hu rfl rfl rfl (Hv.mapUpdate (a := p.1) (c := p.2) Try.underlying87 encKO 1 hS rfl rfl rfl rfl) fun _ w_3 hS => ?_
        dsimp only [List.set] at hS
        refine LW.nil fun aa ha => ?_
        have hS := hS.drop 0 rfl
        dsimp only [List.eraseIdx] at hS
        refine ⟨_, _, ?m13, ⟨left.eraseIdx jj, aset kvw p.1 p.2, some p, rfl, rfl, hS, hcp.step hnd hj⟩, ha.sub ⟨rfl, rfl, rfl, rfl, rfl, rfl, rfl, rfl, rfl, rfl, trivial⟩⟩
        case m13 => (rw [hq]; exact er_lt hj)
      · have hSl := hS
        obtain ⟨hl1, hl2⟩ := hF h13_1
        subst hl1 hl2
        have hS := hSl
        refine LW.nil fun aa ha => hK20 _ _ _ ?_ aa ha
        refine CW.seq fun K23 hK23 => ?_
        refine CW.no rfl ?_
        refine CW.exit fun aa ha => hK18 _ _ _ ?_ aa ha
        refine CW.seq fun K24 hK24 => ?_
        refine CW.block ?_
        have hS := st_unrngM [_, _, _] hi2 hS
        have hkk := hcp.keys
        have hss := hcp.sub hnd
        refine CW.loop (fun qq frm wl16 => ∃ (kvw2 : List (KO × Int)) (ms4 : Nat → List (KO × Int)), qq = kvw2.length ∧ frm = [(0, .string X.inp), (1, .slice ar X.rules.length cr), (2, .int .i64 lim), (4, .func (.func fn) #[] #[]), (12, .slice (some ⟨b27, 0, none⟩) N N), (14, .int .i64 i), (15, .map (some b46)), (42, .int .i64 N), (43, .int .i64 i)] ∧ St w0 wl16 μ (Own.mp koV iV b46 kvw2 :: Own.sl (some ⟨b27, 0, none⟩) N N 87 1 (cellsF bs N N) :: Own.obj b8 [.int .i64 (( X.first).1.1.val : Nat), .string ( X.first).1.2] 84 :: (mapsO koV iV bs ms4 N ++ L)) ∧ (WJ X ms4 i (kvw2.map Prod.fst)) ∧ (∀ p ∈ kvw2, aget (ms4 i) p.1 = some p.2) ∧ (∀ j, j ≤ i → ms4 j = ms j)) _ ⟨kvw, ms, rfl, rfl, hS, WJ.start hW hkk, hss, fun j _ => rfl⟩ ⟨rfl, rfl, rfl, rfl, rfl, rfl, rfl, rfl, rfl, trivial⟩ ?_
        clear hS
        rintro qq frm wl16 ⟨kvw2, ms4, hq, rfl, hS, hJ, hss2, hlow⟩
        refine CW.seq fun K25 hK25 => ?_
        refine CW.seq fun K26 hK26 => ?_
        refine CW.region [0, 1, 2] rfl ?_
        refine LW.ex rfl rfl rfl rfl (Ex.move rfl) hS.rd ?_
        refine LW.ex rfl rfl rfl rfl (Ex.lenMap rfl Try.underlying87 0 rfl rfl) hS.rd ?_
        refine LW.ex rfl rfl rfl rfl (Ex.gtr rfl rfl rfl) hS.rd ?_
        refine LW.splitB (fun h16_2 => ?_) (fun h16_2 => ?_)
        · have h16_2 := of_decide_eq_true h16_2
          refine LW.nil fun aa ha => hK26 _ _ _ ?_ aa ha
          refine CW.yes rfl ?_
          refine CW.skip fun aa ha => hK25 _ _ _ ?_ aa ha
          refine CW.block ?_
          refine CW.seq fun K27 hK27 => ?_
          refine CW.seq fun K28 hK28 => ?_
          have hq16 := hq
          refine CW.region [0, 1] rfl ?_
          refine LW.ex rfl rfl rfl rfl (Ex.move rfl) hS.rd ?_
          refine LW.hv rfl rfl rfl rfl (Hv.range Try.underlying87 0 hS rfl rfl) fun v w64 ⟨r64, hv, hr64, hS⟩ => ?_
          subst hv
          dsimp only [List.set] at hS
          refine LW.nil fun aa ha => hK28 _ _ _ ?_ aa ha
          refine CW.block ?_
          refine CW.loop (fun qq frm wl18 => ∃ (left2 kv2 : List (KO × Int)) (cur2 : Option (KO × Int)) (ms2 : Nat → List (KO × Int)), qq = left2.length ∧ frm = [(0, .string X.inp), (1, .slice ar X.rules.length cr), (2, .int .i64 lim), (4, .func (.func fn) #[] #[]), (12, .slice (some ⟨b27, 0, none⟩) N N), (14, .int .i64 i), (15, .map (some b46)), (42, .int .i64 N), (43, .int .i64 i), (64, .pointer (some ⟨r64, 0, none⟩))] ∧ St w0 wl18 μ (Own.rng koV iV b46 r64 kv2 left2 cur2 :: Own.sl (some ⟨b27, 0, none⟩) N N 87 1 (cellsF bs N N) :: Own.obj b8 [.int .i64 (( X.first).1.1.val : Nat), .string ( X.first).1.2] 84 :: (mapsO koV iV bs ms2 N ++ L)) ∧ (WJ X ms2 i (left2.map Prod.fst)) ∧ (∀ p ∈ left2, aget (ms2 i) p.1 = some p.2) ∧ (∀ p ∈ kv2, p ∈ left2) ∧ (∀ j, j ≤ i → ms2 j = ms j)) _ ⟨kvw2, kvw2, none, ms4, rfl, rfl, hS, hJ, hss2, fun p hp => hp, hlow⟩ ⟨rfl, rfl, rfl, rfl, rfl, rfl, rfl, rfl, rfl, rfl, trivial⟩ ?_
          clear hS
          rintro qq frm wl18 ⟨left2, kv2, cur2, ms2, hq, rfl, hS, hJ2, hks, hkl, hlow2⟩
          refine CW.seq fun K29 hK29 => ?_
          refine CW.region [0, 1] rfl ?_
          refine LW.hv rfl rfl rfl rfl (Hv.nextAny 0 hS rfl rfl) fun v w65 ⟨bo2, rest2, left3, cur3, hv, hF2, hT2, hS⟩ => ?_
          subst hv
          dsimp only [List.set] at hS
          refine LW.ex rfl rfl rfl rfl (extract0 rfl) hS.rd ?_
          refine LW.splitB (fun h18_1 => ?_) (fun h18_1 => ?_)
          · have hq18 := hq
            obtain ⟨j2, p, hj2, hl3, hc3⟩ := hT2 h18_1
            subst hl3 hc3
            have hpk := hks p (List.mem_of_getElem? hj2)
            refine LW.nil fun aa ha => hK29 _ _ _ ?_ aa ha
            refine CW.seq fun K30 hK30 => ?_
            refine CW.yes rfl ?_
            refine CW.skip fun aa ha => hK30 _ _ _ ?_ aa ha
            refine CW.block ?_
            refine CW.seq fun K31 hK31 => ?_
            refine CW.region [0, 1, 2, 3] rfl ?_
            refine LW.ex rfl rfl rfl rfl (Ex.entry 0 rfl rfl) hS.rd ?_
            refine LW.ex rfl rfl rfl rfl (Ex.extract rfl rfl) hS.rd ?_
            refine LW.hv rfl rfl rfl rfl (Hv.alloc ti84 hS) fun v w18 ⟨b18, hv, hb18, hS⟩ => ?_
            subst hv
            refine LW.hu rfl rfl rfl (Hv.storeN (k := 0) ti84 hS rfl rfl rfl rfl (by simp [Value.oneCell'])) fun _ w_3 hS => ?_
            dsimp only [List.set] at hS
            refine LW.nil fun aa ha => hK31 _ _ _ ?_ aa ha
            refine CW.seq fun K32 hK32 => ?_
            refine CW.region [0, 1, 2] rfl ?_
            refine LW.ex rfl rfl rfl rfl (Ex.move rfl) hS.rd ?_
            refine LW.ex rfl rfl rfl rfl (Ex.load2c ti84 rfl rfl (by first | exact obT rfl | exact Rd.imm ‹_› | exact slT ‹_›) (by first | exact obT rfl | exact Rd.imm ‹_› | exact slT ‹_›)) hS.rd ?_
            refine LW.hu rfl rfl rfl (Hv.deleteCur (a := p.1) (c := p.2) rfl Try.underlying87 encKO 1 hS rfl rfl rfl) fun _ w_2 ⟨kv3, hkv3, hS⟩ => ?_
            dsimp only [List.set] at hS
            refine LW.nil fun aa ha => hK32 _ _ _ ?_ aa ha
            refine CW.seq fun K33 hK33 => ?_
            have hS := hS.drew
            refine CW.draw 7 (.ex 0 <| .ex 1 <| .ex 2 <| .ex 3 <| .ex 4 <| .ex 5 <| .ex 6 <| .done) [] (Rd _ _) mixed (by kernel_rfl) rfl rfl hS.rd ?_
            refine PW.ex rfl rfl rfl rfl (Ex.move rfl) ?_
            refine PW.ex rfl rfl rfl rfl (Ex.move rfl) ?_
            refine PW.ex rfl rfl rfl rfl (Ex.indexSl Try.underlying80 ti87 rfl rfl rfl (by omega)) ?_
            refine PW.ex rfl rfl rfl rfl (Ex.load1 ti87 rfl rfl (Rd.sl (k := 2) rfl (by rw [Nat.zero_add, Nat.mul_one]; exact cellsF_get hi2 hi2))) ?_
            refine PW.ex rfl rfl rfl rfl (Ex.load2c ti84 rfl rfl (by first | exact obT rfl | exact Rd.imm ‹_› | exact slT ‹_›) (by first | exact obT rfl | exact Rd.imm ‹_› | exact slT ‹_›)) ?_
            refine PW.ex rfl rfl rfl rfl (Ex.lookup1_some (a := p.1) Try.underlying87 ti3 encKO (i + 4) (maps_get [_, _, _, _] hi2) rfl rfl hpk) ?_
            refine PW.ex rfl rfl rfl rfl (Ex.assign rfl) ?_
            refine PW.nil ?_
            refine LW.nil fun aa ha => hK33 _ _ _ ?_ aa ha
            refine CW.seq fun K34 hK34 => ?_
            refine CW.region [0, 1, 2] rfl ?_
            refine LW.ex rfl rfl rfl rfl (Ex.move rfl) hS.rd ?_
            refine LW.ex rfl rfl rfl rfl (Ex.lenSl rfl Try.underlying27 rfl) hS.rd ?_
            refine LW.ex rfl rfl rfl rfl (Ex.move rfl) hS.rd ?_
            refine LW.nil fun aa ha => hK34 _ _ _ ?_ aa ha
            refine CW.block ?_
            refine CW.loop (fun qq frm wl23 => ∃ (t : Nat) (ms3 : Nat → List (KO × Int)), t ≤ X.rules.length ∧ qq = X.rules.length - t ∧ frm = [(0, .string X.inp), (1, .slice ar X.rules.length cr), (2, .int .i64 lim), (4, .func (.func fn) #[] #[]), (12, .slice (some ⟨b27, 0, none⟩) N N), (14, .int .i64 i), (15, .map (some b46)), (18, .pointer (some ⟨b18, 0, none⟩)), (19, .int .i64 p.2), (42, .int .i64 N), (43, .int .i64 i), (64, .pointer (some ⟨r64, 0, none⟩)), (77, .slice ar X.rules.length cr), (78, .int .i64 X.rules.length), (79, .int .i64 t)] ∧ St w0 wl23 μ (Own.obj b18 [.int .i64 (( p.1).1.1.val : Nat), .string ( p.1).1.2] 84 :: Own.rng koV iV b46 r64 kv3 (left2.eraseIdx j2) none :: Own.sl (some ⟨b27, 0, none⟩) N N 87 1 (cellsF bs N N) :: Own.obj b8 [.int .i64 (( X.first).1.1.val : Nat), .string ( X.first).1.2] 84 :: (mapsO koV iV bs ms3 N ++ L)) ∧ (WK X ms3 i ((left2.eraseIdx j2).map Prod.fst) p.1 p.2 t) ∧ (∀ j, j ≤ i → ms3 j = ms j)) _ ⟨0, ms2, (by first | omega | (simp; done) | (simp; omega)), rfl, rfl, hS, WK.start hJ2 hpk (not_mem_map hj2), hlow2⟩ ⟨rfl, rfl, rfl, rfl, rfl, rfl, rfl, rfl, rfl, rfl, rfl, rfl, rfl, rfl, rfl, trivial⟩ ?_
            clear hS
            rintro qq frm wl23 ⟨t, ms3, ht, hq, rfl, hS, hK, hlow3⟩
            refine CW.seq fun K35 hK35 => ?_
            refine CW.region [0] rfl ?_
            refine LW.ex rfl rfl rfl rfl (Ex.lss rfl rfl rfl) hS.rd ?_
            refine LW.splitB (fun h23_0 => ?_) (fun h23_0 => ?_)
            · have h23_0 := of_decide_eq_true h23_0
              refine LW.nil fun aa ha => hK35 _ _ _ ?_ aa ha
              refine CW.seq fun K36 hK36 => ?_
              refine CW.yes rfl ?_
              refine CW.skip fun aa ha => hK36 _ _ _ ?_ aa ha
              refine CW.seq fun K37 hK37 => ?_
              refine CW.block ?_
              refine CW.seq fun K38 hK38 => ?_
              have ht2 : t < X.rules.length := by omega
              have hTk := hX _ (List.getElem_mem ht2)
              have hR := hK.wi.snd i p.1 p.2 hK.at_
              have hcost := hR.cost hX
              have hsm := hrs _ (List.getElem_mem ht2)
              have hSl := hS
              obtain ⟨bl', ol, rfl, k0, k1, k2, k3, k4⟩ := hr.at ht2
              have hS := hSl
              obtain ⟨r, hre⟩ : ∃ r, r = X.rules[t] := ⟨_, rfl⟩
              rw [← hre] at k0 k1 k2 k3 k4 hTk hsm
              refine CW.region [0, 1, 2, 3] rfl ?_
              refine LW.ex rfl rfl rfl rfl (Ex.indexSl Try.underlying27 ti58 rfl rfl rfl (by omega)) hS.rd ?_
              refine LW.ex rfl rfl rfl rfl (Ex.load5c ti58 rfl rfl (by first | exact obT rfl | exact Rd.imm ‹_› | exact slT ‹_›) (by first | exact obT rfl | exact Rd.imm ‹_› | exact slT ‹_›) (by first | exact obT rfl | exact Rd.imm ‹_› | exact slT ‹_›) (by first | exact obT rfl | exact Rd.imm ‹_› | exact slT ‹_›) (by first | exact obT rfl | exact Rd.imm ‹_› | exact slT ‹_›)) hS.rd ?_
              refine LW.hv rfl rfl rfl rfl (Hv.alloc ti58 hS) fun v w21 ⟨b21, hv, hb21, hS⟩ => ?_
              subst hv
              refine LW.hu rfl rfl rfl (Hv.storeN (k := 0) ti58 hS rfl rfl rfl rfl (by simp [Value.oneCell'])) fun _ w_3 hS => ?_
              dsimp only [List.set] at hS
              refine LW.nil fun aa ha => hK38 _ _ _ ?_ aa ha
              refine CW.seq fun K39 hK39 => ?_
              refine CW.region [0, 1, 2, 3, 4, 5, 6, 7, 8, 9] rfl ?_
              refine LW.ex rfl rfl rfl rfl (Ex.move rfl) hS.rd ?_
              refine LW.ex rfl rfl rfl rfl (Ex.load2c ti84 rfl rfl (by first | exact obT rfl | exact Rd.imm ‹_› | exact slT ‹_›) (by first | exact obT rfl | exact Rd.imm ‹_› | exact slT ‹_›)) hS.rd ?_
              refine LW.ex rfl rfl rfl rfl (Ex.load5c ti58 rfl rfl (by first | exact obT rfl | exact Rd.imm ‹_› | exact slT ‹_›) (by first | exact obT rfl | exact Rd.imm ‹_› | exact slT ‹_›) (by first | exact obT rfl | exact Rd.imm ‹_› | exact slT ‹_›) (by first | exact obT rfl | exact Rd.imm ‹_› | exact slT ‹_›) (by first | exact obT rfl | exact Rd.imm ‹_› | exact slT ‹_›)) hS.rd ?_
              refine LW.hv rfl rfl rfl rfl (Hv.callS hS rfl rfl rfl hC (hnx i p.1 p.2 hR r (by rw [hre]; exact List.getElem_mem ht2) _ hS.imm)) fun v w87 ⟨hv, hS⟩ => ?_
              subst hv
              refine LW.ex rfl rfl rfl rfl (Ex.move rfl) hS.rd ?_
              refine LW.ex rfl rfl rfl rfl (Ex.extract rfl rfl) hS.rd ?_
              refine LW.ex rfl rfl rfl rfl (Ex.extract rfl rfl) hS.rd ?_
              refine LW.splitB (fun h25_6 => ?_) (fun h25_6 => ?_)
              · skip
                refine LW.hv rfl rfl rfl rfl (Hv.alloc ti84 hS) fun v w22 ⟨b22, hv, hb22, hS⟩ => ?_
                subst hv
                refine LW.hu rfl rfl rfl (Hv.storeN (k := 0) ti84 hS rfl rfl rfl rfl (by simp [Value.oneCell'])) fun _ w_8 hS => ?_
                dsimp only [List.set] at hS
                refine LW.ex rfl rfl rfl rfl (Ex.assign rfl) hS.rd ?_
                refine LW.nil fun aa ha => hK39 _ _ _ ?_ aa ha
                refine CW.seq fun K40 hK40 => ?_
                refine CW.seq fun K41 hK41 => ?_
                have hS := hS.drew
                refine CW.draw 11 (.ex 0 <| .ex 1 <| .ex 2 <| .ex 3 <| .ex 4 <| .ex 5 <| .ex 6 <| .ex 7 <| .one 8 <| .ex 9 <| .ex 10 <| .done) [] (Rd _ _) mixed (by kernel_rfl) rfl rfl hS.rd ?_
                refine PW.ex rfl rfl rfl rfl (Ex.move rfl) ?_
                refine PW.ex rfl rfl rfl rfl (Ex.not rfl rfl) ?_
                refine PW.ex rfl rfl rfl rfl (Ex.move rfl) ?_
                refine PW.ex rfl rfl rfl rfl (Ex.move rfl) ?_
                refine PW.ex rfl rfl rfl rfl (Ex.move rfl) ?_
                refine PW.ex rfl rfl rfl rfl (sliceStrF Try.underlying9 rfl rfl rfl (by omega)) ?_
                refine PW.ex rfl rfl rfl rfl (Ex.fieldO 2 Try.underlying58 rfl rfl ti9 rfl) ?_
                refine PW.ex rfl rfl rfl rfl (Ex.load1 ti9 rfl rfl (by first | exact obT rfl | exact Rd.imm ‹_› | exact slT ‹_›)) ?_
                refine PW.hv rfl rfl rfl rfl (Hv.callS hS rfl rfl rfl cb30 (hasp_c (X.inp.extract i X.inp.size) r.In (Nat.le_trans ext_size (by omega)) hsm.1 _)) (fun _ _ h => h.2.rd) fun v w98 ⟨hv, hS⟩ => ?_
                subst hv
                refine PW.splitB (fun h26_8 => ?_) (fun h26_8 => ?_)
                · have hpa : preAt X.inp i r = true := by rw [← pre_at r (by omega)]; exact h26_8
                  have hpl := pre_len hpa hTk.1
                  have hj3 : i + r.In.size < N := by omega
                  refine PW.ex rfl rfl rfl rfl (Ex.not rfl rfl) ?_
                  refine PW.ex rfl rfl rfl rfl (by first | exact Ex.pick_yes rfl rfl | exact Ex.pick_no rfl rfl) ?_
                  refine PW.nil ?_
                  refine LW.nil fun aa ha => hK41 _ _ _ ?_ aa ha
                  refine CW.no rfl ?_
                  refine CW.skip fun aa ha => hK40 _ _ _ ?_ aa ha
                  refine CW.seq fun K42 hK42 => ?_
                  refine CW.region [0, 1, 2, 3, 4, 5, 6, 7, 8, 9, 10, 11, 12, 13, 14, 15, 16] rfl ?_
                  refine LW.ex rfl rfl rfl rfl (Ex.move rfl) hS.rd ?_
                  refine LW.ex rfl rfl rfl rfl (Ex.move rfl) hS.rd ?_
                  refine LW.ex rfl rfl rfl rfl (Ex.fieldO 2 Try.underlying58 rfl rfl ti9 rfl) hS.rd ?_
                  refine LW.ex rfl rfl rfl rfl (Ex.load1 ti9 rfl rfl (by first | exact obT rfl | exact Rd.imm ‹_› | exact slT ‹_›)) hS.rd ?_
                  refine LW.ex rfl rfl rfl rfl (Ex.lenS rfl Try.underlying9 rfl) hS.rd ?_
                  refine LW.ex rfl rfl rfl rfl (Ex.add (r := ((i + r.In.size : Nat) : Int)) rfl rfl (by rw [Sy.w64 (by omega) (by omega)]; omega)) hS.rd ?_
                  refine LW.ex rfl rfl rfl rfl (Ex.load2c ti84 rfl rfl (by first | exact obT rfl | exact Rd.imm ‹_› | exact slT ‹_›) (by first | exact obT rfl | exact Rd.imm ‹_› | exact slT ‹_›)) hS.rd ?_
                  refine LW.ex rfl rfl rfl rfl (Ex.move rfl) hS.rd ?_
                  refine LW.ex rfl rfl rfl rfl (Ex.fieldO 4 Try.underlying58 rfl rfl ti3 rfl) hS.rd ?_
                  refine LW.ex rfl rfl rfl rfl (Ex.load1 ti3 rfl rfl (by first | exact obT rfl | exact Rd.imm ‹_› | exact slT ‹_›)) hS.rd ?_
                  refine LW.ex rfl rfl rfl rfl (Ex.add rfl rfl (Sy.w64 (by omega) (by omega))) hS.rd ?_
                  refine LW.hv rfl rfl rfl rfl (Hv.callM rfl rfl rfl cb57 (putO_m (a := 4) (c := (i + r.In.size) + 6) (ms3 (i + r.In.size)) (X.nv p.1 r) (i + r.In.size) (p.2 + r.Cost) hS rfl (cellsF_get hj3 hj3) hj3 (by omega) (maps_get [_, _, _, _, _, _] hj3))) fun v w112 ⟨hv, hS⟩ => ?_
                  subst hv
                  have hS := st_maps [_, _, _, _, _, _] hj3 hS
                  dsimp only [List.cons_append, List.nil_append] at hS
                  refine LW.splitB (fun h27_11 => ?_) (fun h27_11 => ?_)
                  · skip
                    refine LW.ex rfl rfl rfl rfl (Ex.move rfl) hS.rd ?_
                    refine LW.ex rfl rfl rfl rfl (Ex.fieldO 2 Try.underlying58 rfl rfl ti9 rfl) hS.rd ?_
                    refine LW.ex rfl rfl rfl rfl (Ex.load1 ti9 rfl rfl (by first | exact obT rfl | exact Rd.imm ‹_› | exact slT ‹_›)) hS.rd ?_
                    refine LW.ex rfl rfl rfl rfl (Ex.eqlS (b := false) rfl rfl (notEmpty hTk.1)) hS.rd ?_
                    refine LW.ex rfl rfl rfl rfl (by first | exact Ex.pick_yes rfl rfl | exact Ex.pick_no rfl rfl) hS.rd ?_
                    refine LW.nil fun aa ha => hK42 _ _ _ ?_ aa ha
                    refine CW.no rfl ?_
                    refine CW.skip fun aa ha => hK37 _ _ _ ?_ aa ha
                    refine CW.region [0, 1] rfl ?_
                    refine LW.ex rfl rfl rfl rfl (Ex.add rfl rfl (by first | exact inc64 (by omega) | exact addN (by omega) | exact w64 (by omega) (by omega))) hS.rd ?_
                    refine LW.ex rfl rfl rfl rfl (Ex.move rfl) hS.rd ?_
                    refine LW.nil fun aa ha => ?_
                    have hS := hS.drop 0 rfl
                    dsimp only [List.eraseIdx] at hS
                    have hS := hS.drop 0 rfl
                    dsimp only [List.eraseIdx] at hS
                    refine ⟨_, _, ?m23, ⟨t + 1, updF ms3 (i + r.In.size) (putM (ms3 (i + r.In.size)) (X.nv p.1 r) (p.2 + r.Cost)), (by first | omega | (simp; done) | (simp; omega)), rfl, rfl, hS, by rw [hre]; exact hK.put hX ht2 (by rw [← hre]; exact h25_6) (by rw [← hre]; exact hpa), fun j hj => by unfold updF; rw [if_neg (by omega)]; exact hlow3 j hj⟩, ha.sub ⟨rfl, rfl, rfl, rfl, rfl, rfl, rfl, rfl, rfl, rfl, rfl, rfl, rfl, rfl, rfl, trivial⟩⟩
                    case m23 => omega
                  · skip
                    refine LW.ex rfl rfl rfl rfl (Ex.move rfl) hS.rd ?_
                    refine LW.skip rfl rfl rfl rfl ?_
                    refine LW.skip rfl rfl rfl rfl ?_
                    refine LW.skip rfl rfl rfl rfl ?_
                    refine LW.ex rfl rfl rfl rfl (by first | exact Ex.pick_yes rfl rfl | exact Ex.pick_no rfl rfl) hS.rd ?_
                    refine LW.nil fun aa ha => hK42 _ _ _ ?_ aa ha
                    refine CW.no rfl ?_
                    refine CW.skip fun aa ha => hK37 _ _ _ ?_ aa ha
                    refine CW.region [0, 1] rfl ?_
                    refine LW.ex rfl rfl rfl rfl (Ex.add rfl rfl (by first | exact inc64 (by omega) | exact addN (by omega) | exact w64 (by omega) (by omega))) hS.rd ?_
                    refine LW.ex rfl rfl rfl rfl (Ex.move rfl) hS.rd ?_
                    refine LW.nil fun aa ha => ?_
                    have hS := hS.drop 0 rfl
                    dsimp only [List.eraseIdx] at hS
                    have hS := hS.drop 0 rfl
                    dsimp only [List.eraseIdx] at hS
                    refine ⟨_, _, ?m23, ⟨t + 1, updF ms3 (i + r.In.size) (putM (ms3 (i + r.In.size)) (X.nv p.1 r) (p.2 + r.Cost)), (by first | omega | (simp; done) | (simp; omega)), rfl, rfl, hS, by rw [hre]; exact hK.put hX ht2 (by rw [← hre]; exact h25_6) (by rw [← hre]; exact hpa), fun j hj => by unfold updF; rw [if_neg (by omega)]; exact hlow3 j hj⟩, ha.sub ⟨rfl, rfl, rfl, rfl, rfl, rfl, rfl, rfl, rfl, rfl, rfl, rfl, rfl, rfl, rfl, trivial⟩⟩
                    case m23 => omega
                · skip
                  refine PW.ex rfl rfl rfl rfl (Ex.not rfl rfl) ?_
                  refine PW.ex rfl rfl rfl rfl (by first | exact Ex.pick_yes rfl rfl | exact Ex.pick_no rfl rfl) ?_
                  refine PW.nil ?_
                  refine LW.nil fun aa ha => hK41 _ _ _ ?_ aa ha
                  refine CW.yes rfl ?_
                  refine CW.exit fun aa ha => hK37 _ _ _ ?_ aa ha
                  refine CW.region [0, 1] rfl ?_
                  refine LW.ex rfl rfl rfl rfl (Ex.add rfl rfl (by first | exact inc64 (by omega) | exact addN (by omega) | exact w64 (by omega) (by omega))) hS.rd ?_
                  refine LW.ex rfl rfl rfl rfl (Ex.move rfl) hS.rd ?_
                  refine LW.nil fun aa ha => ?_
                  have hS := hS.drop 0 rfl
                  dsimp only [List.eraseIdx] at hS
                  have hS := hS.drop 0 rfl
                  dsimp only [List.eraseIdx] at hS
                  refine ⟨_, _, ?m23, ⟨t + 1, ms3, (by first | omega | (simp; done) | (simp; omega)), rfl, rfl, hS, hK.skip ht2 (fun _ h2 => by rw [← hre, ← pre_at r (by omega), h26_8] at h2; cases h2), hlow3⟩, ha.sub ⟨rfl, rfl, rfl, rfl, rfl, rfl, rfl, rfl, rfl, rfl, rfl, rfl, rfl, rfl, rfl, trivial⟩⟩
                  case m23 => omega
              · skip
                refine LW.hv rfl rfl rfl rfl (Hv.alloc ti84 hS) fun v w22 ⟨b22, hv, hb22, hS⟩ => ?_
                subst hv
                refine LW.hu rfl rfl rfl (Hv.storeN (k := 0) ti84 hS rfl rfl rfl rfl (by simp [Value.oneCell'])) fun _ w_8 hS => ?_
                dsimp only [List.set] at hS
                refine LW.ex rfl rfl rfl rfl (Ex.assign rfl) hS.rd ?_
                refine LW.nil fun aa ha => hK39 _ _ _ ?_ aa ha
                refine CW.seq fun K43 hK43 => ?_
                refine CW.seq fun K44 hK44 => ?_
                have hS := hS.drew
                refine CW.draw 11 (.ex 0 <| .ex 1 <| .ex 2 <| .ex 3 <| .ex 4 <| .ex 5 <| .ex 6 <| .ex 7 <| .one 8 <| .ex 9 <| .ex 10 <| .done) [] (Rd _ _) mixed (by kernel_rfl) rfl rfl hS.rd ?_
                refine PW.ex rfl rfl rfl rfl (Ex.move rfl) ?_
                refine PW.ex rfl rfl rfl rfl (Ex.not rfl rfl) ?_
                refine PW.ex rfl rfl rfl rfl (Ex.move rfl) ?_
                refine PW.skip rfl rfl rfl rfl ?_
                refine PW.skip rfl rfl rfl rfl ?_
                refine PW.skip rfl rfl rfl rfl ?_
                refine PW.skip rfl rfl rfl rfl ?_
                refine PW.skip rfl rfl rfl rfl ?_
                refine PW.skip1 rfl rfl rfl rfl ?_
                refine PW.skip rfl rfl rfl rfl ?_
                refine PW.ex rfl rfl rfl rfl (by first | exact Ex.pick_yes rfl rfl | exact Ex.pick_no rfl rfl) ?_
                refine PW.nil ?_
                refine LW.nil fun aa ha => hK44 _ _ _ ?_ aa ha
                refine CW.yes rfl ?_
                refine CW.exit fun aa ha => hK37 _ _ _ ?_ aa ha
                refine CW.region [0, 1] rfl ?_
                refine LW.ex rfl rfl rfl rfl (Ex.add rfl rfl (by first | exact inc64 (by omega) | exact addN (by omega) | exact w64 (by omega) (by omega))) hS.rd ?_
                refine LW.ex rfl rfl rfl rfl (Ex.move rfl) hS.rd ?_
                refine LW.nil fun aa ha => ?_
                have hS := hS.drop 0 rfl
                dsimp only [List.eraseIdx] at hS
                have hS := hS.drop 0 rfl
                dsimp only [List.eraseIdx] at hS
                refine ⟨_, _, ?m23, ⟨t + 1, ms3, (by first | omega | (simp; done) | (simp; omega)), rfl, rfl, hS, hK.skip ht2 (fun h1 _ => by rw [← hre, h25_6] at h1; cases h1), hlow3⟩, ha.sub ⟨rfl, rfl, rfl, rfl, rfl, rfl, rfl, rfl, rfl, rfl, rfl, rfl, rfl, rfl, rfl, trivial⟩⟩
                case m23 => omega
            · have h23_0 := of_decide_eq_false h23_0
              refine LW.nil fun aa ha => hK35 _ _ _ ?_ aa ha
              refine CW.seq fun K45 hK45 => ?_
              refine CW.no rfl ?_
              refine CW.exit fun aa ha => ?_
              have hS := hS.drop 0 rfl
              dsimp only [List.eraseIdx] at hS
              refine ⟨_, _, ?m18, ⟨left2.eraseIdx j2, kv3, none, ms3, rfl, rfl, hS, hK.done (by omega), fun q hq' => by rw [hlow3 i (Nat.le_refl _), ← hlow2 i (Nat.le_refl _)]; exact hks q ((List.eraseIdx_sublist _ _).subset hq'), fun q hq' => ((mem_erase_idx hj2 (hkl q ((hkv3 q).1 hq').1)).resolve_left fun e => ((hkv3 q).1 hq').2 (by rw [e])), hlow3⟩, ha.sub ⟨rfl, rfl, rfl, rfl, rfl, rfl, rfl, rfl, rfl, rfl, trivial⟩⟩
              case m18 => (rw [hq18]; exact er_lt hj2)
          · have hSl := hS
            obtain ⟨hl1, hl2⟩ := hF2 h18_1
            subst hl1 hl2
            have hS := hSl
            refine LW.nil fun aa ha => hK29 _ _ _ ?_ aa ha
            refine CW.seq fun K46 hK46 => ?_
            refine CW.no rfl ?_
            refine CW.exit fun aa ha => hK27 _ _ _ ?_ aa ha
            refine CW.seq fun K47 hK47 => ?_
            have hS := st_unrng hS 0 rfl
            dsimp only [List.set] at hS
            have hk20 : kv2 = [] := List.eq_nil_iff_forall_not_mem.2 fun p hp => by have := hkl p hp; simp at this
            subst hk20
            refine CW.region [0, 1, 2, 3, 4, 5, 6] rfl ?_
            refine LW.ex rfl rfl rfl rfl (Ex.move rfl) hS.rd ?_
            refine LW.ex rfl rfl rfl rfl (Ex.move rfl) hS.rd ?_
            refine LW.ex rfl rfl rfl rfl (Ex.indexSl Try.underlying80 ti87 rfl rfl rfl (by omega)) hS.rd ?_
            refine LW.ex rfl rfl rfl rfl (Ex.load1 ti87 rfl rfl (Rd.sl (k := 1) rfl (by rw [Nat.zero_add, Nat.mul_one]; exact cellsF_get hi2 hi2))) hS.rd ?_
            refine LW.ex rfl rfl rfl rfl (Ex.lenMap rfl Try.underlying87 (i + 3) (maps_get [_, _, _] hi2) rfl) hS.rd ?_
            refine LW.ex rfl rfl rfl rfl (Ex.move rfl) hS.rd ?_
            refine LW.ex rfl rfl rfl rfl (Ex.gtr rfl rfl rfl) hS.rd ?_
            refine LW.splitB (fun h30_6 => ?_) (fun h30_6 => ?_)
            · have h30_6 := of_decide_eq_true h30_6
              refine LW.nil fun aa ha => hK47 _ _ _ ?_ aa ha
              refine CW.yes rfl ?_
              refine CW.seq fun K48 hK48 => ?_
              refine CW.region [0, 1, 2] rfl ?_
              refine LW.ex rfl rfl rfl rfl (Ex.move rfl) hS.rd ?_
              refine LW.ex rfl rfl rfl rfl (Ex.assign rfl) hS.rd ?_
              refine LW.ex rfl rfl rfl rfl (Ex.assign rfl) hS.rd ?_
              refine LW.nil fun aa ha => hK48 _ _ _ ?_ aa ha
              refine CW.ret fun aa ha => ?_
              refine ret_two ha Try.results32 rfl rfl ?_
              have hS := (hS.drop 0 rfl).drop 1 rfl
              exact ⟨_, rfl, b27, false, ms2, bs, rfl, (by unfold WRes; rw [if_neg (by decide)]; exact ⟨i, by omega, hJ2.wi, by omega⟩), hS⟩
            · have h30_6 := of_decide_eq_false h30_6
              refine LW.nil fun aa ha => hK47 _ _ _ ?_ aa ha
              refine CW.no rfl ?_
              refine CW.skip fun aa ha => ?_
              refine ⟨_, _, ?m16, ⟨[], ms2, rfl, rfl, hS, hJ2, (fun p hp => by cases hp), hlow2⟩, ha.sub ⟨rfl, rfl, rfl, rfl, rfl, rfl, rfl, rfl, rfl, trivial⟩⟩
              case m16 => (rw [hq16]; simp only [List.length_nil]; omega)
        · have h16_2 := of_decide_eq_false h16_2
          refine LW.nil fun aa ha => hK26 _ _ _ ?_ aa ha
          refine CW.no rfl ?_
          refine CW.exit fun aa ha => hK24 _ _ _ ?_ aa ha
          refine CW.seq fun K49 hK49 => ?_
          have hk0 : kvw2 = [] := List.eq_nil_of_length_eq_zero (by omega)
          subst hk0
          refine CW.region [0, 1, 2, 3, 4, 5, 6] rfl ?_
          refine LW.ex rfl rfl rfl rfl (Ex.move rfl) hS.rd ?_
          refine LW.ex rfl rfl rfl rfl (Ex.move rfl) hS.rd ?_
          refine LW.ex rfl rfl rfl rfl (Ex.indexSl Try.underlying80 ti87 rfl rfl rfl (by omega)) hS.rd ?_
          refine LW.ex rfl rfl rfl rfl (Ex.load1 ti87 rfl rfl (Rd.sl (k := 1) rfl (by rw [Nat.zero_add, Nat.mul_one]; exact cellsF_get hi2 hi2))) hS.rd ?_
          refine LW.ex rfl rfl rfl rfl (Ex.lenMap rfl Try.underlying87 (i + 3) (maps_get [_, _, _] hi2) rfl) hS.rd ?_
          refine LW.ex rfl rfl rfl rfl (Ex.move rfl) hS.rd ?_
          refine LW.ex rfl rfl rfl rfl (Ex.gtr rfl rfl rfl) hS.rd ?_
          refine LW.splitB (fun h32_6 => ?_) (fun h32_6 => ?_)
          · have h32_6 := of_decide_eq_true h32_6
            refine LW.nil fun aa ha => hK49 _ _ _ ?_ aa ha
            refine CW.yes rfl ?_
            refine CW.seq fun K50 hK50 => ?_
            refine CW.region [0, 1, 2] rfl ?_
            refine LW.ex rfl rfl rfl rfl (Ex.move rfl) hS.rd ?_
            refine LW.ex rfl rfl rfl rfl (Ex.assign rfl) hS.rd ?_
            refine LW.ex rfl rfl rfl rfl (Ex.assign rfl) hS.rd ?_
            refine LW.nil fun aa ha => hK50 _ _ _ ?_ aa ha
            refine CW.ret fun aa ha => ?_
            refine ret_two ha Try.results32 rfl rfl ?_
            have hS := (hS.drop 0 rfl).drop 1 rfl
            exact ⟨_, rfl, b27, false, ms4, bs, rfl, (by unfold WRes; rw [if_neg (by decide)]; exact ⟨i, by omega, hJ.wi, by omega⟩), hS⟩
          · have h32_6 := of_decide_eq_false h32_6
            refine LW.nil fun aa ha => hK49 _ _ _ ?_ aa ha
            refine CW.no rfl ?_
            refine CW.skip fun aa ha => hK15 _ _ _ ?_ aa ha
            refine CW.region [0, 1] rfl ?_
            refine LW.ex rfl rfl rfl rfl (Ex.add rfl rfl (by first | exact inc64 (by omega) | exact addN (by omega) | exact w64 (by omega) (by omega))) hS.rd ?_
            refine LW.ex rfl rfl rfl rfl (Ex.move rfl) hS.rd ?_
            refine LW.nil fun aa ha => ?_
            have hS := hS.drop 0 rfl
            dsimp only [List.eraseIdx] at hS
            refine ⟨_, _, ?m9, ⟨i + 1, ms4, (by first | omega | (simp; done) | (simp; omega)), rfl, rfl, hS, hJ.done, fun j hj => if e : j = i then (by subst e; omega) else (by rw [hlow j (by omega)]; exact hlen j (by omega))⟩, ha.sub ⟨rfl, rfl, rfl, rfl, rfl, rfl, rfl, trivial⟩⟩
            case m9 => (rw [hq9]; omega)
    · have h9_0 := of_decide_eq_false h9_0
      refine LW.nil fun aa ha => hK13 _ _ _ ?_ aa ha
      refine CW.seq fun K51 hK51 => ?_
      refine CW.no rfl ?_
      refine CW.exit fun aa ha => hK11 _ _ _ ?_ aa ha
      refine CW.seq fun K52 hK52 => ?_
      refine CW.region [0, 1, 2] rfl ?_
      refine LW.ex rfl rfl rfl rfl (Ex.move rfl) hS.rd ?_
      refine LW.ex rfl rfl rfl rfl (Ex.assign rfl) hS.rd ?_
      refine LW.ex rfl rfl rfl rfl (Ex.assign rfl) hS.rd ?_
      refine LW.nil fun aa ha => hK52 _ _ _ ?_ aa ha
      refine CW.ret fun aa ha => ?_
      refine ret_two ha Try.results32 rfl rfl ?_
      have hiN : i = N := by omega
      have hS := hS.drop 1 rfl
      exact ⟨_, rfl, b27, true, ms, bs, rfl, (by unfold WRes; rw [if_pos rfl]; exact ⟨by rw [← hN, ← hiN]; exact hW, fun j hj => hlen j (by omega)⟩), hS⟩
set_option maxRecDepth 100000 in
set_option maxHeartbeats 4000000 in
theorem walkP_m {w0 w : World} {μ : Mem} {L : List Own} (X : WX (KP)) (hX : Takes X) (lim : Int) (fn : Nat) (bp : Nat) (hC : Callable Try.prog fn) (hS : St w0 w μ L) (ar : Option Addr) (cr : Nat) (hr : Sl μ ar cr X.rules) (hrl : X.rules.length ≤ 64) (hin : X.inp.size ≤ 40) (hrs : ∀ r ∈ X.rules, RSmall r)
    (hnx : ∀ p k c, Rt X p k c → ∀ r ∈ X.rules, ∀ w', Imm μ w' → Calls Try.prog fn #[kpV k, ruleV r, .pointer (some ⟨bp, 0, none⟩)] w' (RetS w' (.tuple #[kpV (X.nv k r), .bool (X.ft k r)]))) :
    Calls Try.prog 28 #[.string X.inp, .slice ar X.rules.length cr, .int .i64 lim, .agg #[.int .i64 (X.first.1.1.val : Nat), .int .i64 (X.first.1.2 : Nat)], .func (.func fn) #[] #[.pointer (some ⟨bp, 0, none⟩)]] w (RetM fun v w' => ∃ g ok ms bs, v = .tuple #[.slice (some ⟨g, 0, none⟩) (X.inp.size + 1) (X.inp.size + 1), .bool ok] ∧ WRes X ms lim ok ∧
      St w0 w' μ (Own.sl (some ⟨g, 0, none⟩) (X.inp.size + 1) (X.inp.size + 1) 78 1 (cellsF bs (X.inp.size + 1) (X.inp.size + 1)) :: (mapsO kpV iV bs ms (X.inp.size + 1) ++ L))) := by
  obtain ⟨N, hN⟩ : ∃ N, N = X.inp.size + 1 := ⟨_, rfl⟩
  have hN0 : 0 < N := by omega
  rw [← hN]
  refine calls_start 143 [.string X.inp, .slice ar X.rules.length cr, .int .i64 lim, .agg #[.int .i64 (X.first.1.1.val : Nat), .int .i64 (X.first.1.2 : Nat)], .func (.func fn) #[] #[.pointer (some ⟨bp, 0, none⟩)]] Try.func28 rfl Try.ntmps28 rfl rfl ?_
  refine CW.seq fun K53 hK53 => ?_
  refine CW.region [0, 1, 2] rfl ?_
  refine LW.hv rfl rfl rfl rfl (Hv.boxS hS rfl rfl) fun v w8 ⟨b8, hv, hb8, hS⟩ => ?_
  subst hv
  refine LW.ex rfl rfl rfl rfl (Ex.assign rfl) hS.rd ?_
  refine LW.ex rfl rfl rfl rfl (Ex.assign rfl) hS.rd ?_
  refine LW.nil fun aa ha => hK53 _ _ _ ?_ aa ha
  refine CW.seq fun K54 hK54 => ?_
  refine CW.region [0, 1, 2, 3, 4] rfl ?_
  refine LW.ex rfl rfl rfl rfl (Ex.move rfl) hS.rd ?_
  refine LW.ex rfl rfl rfl rfl (Ex.lenS rfl Try.underlying9 rfl) hS.rd ?_
  refine LW.ex rfl rfl rfl rfl (Ex.add (r := (N : Int)) rfl rfl (by rw [Sy.w64 (by omega) (by omega)]; omega)) hS.rd ?_
  refine LW.hv rfl rfl rfl rfl (Hv.makeSlice Try.underlying70 ti78 hS rfl rfl rfl rfl (by omega) (by unfold maxLen; omega)) fun v w27 ⟨b27, hv, hb27, hS⟩ => ?_
  subst hv
  rw [show (madeCells (Value.cells (.map none)) (N * 1)).toList = cellsF (fun _ => 0) 0 N by rw [Nat.mul_one, show Value.cells (.map none) = #[.map none] from rfl, toList_madeCells_one, cellsF_zero]] at hS
  refine LW.ex rfl rfl rfl rfl (Ex.assign rfl) hS.rd ?_
  refine LW.nil fun aa ha => hK54 _ _ _ ?_ aa ha
  refine CW.seq fun K55 hK55 => ?_
  refine CW.seq fun K56 hK56 => ?_
  refine CW.region [0, 1, 2] rfl ?_
  refine LW.ex rfl rfl rfl rfl (Ex.move rfl) hS.rd ?_
  refine LW.ex rfl rfl rfl rfl (Ex.lenSl rfl Try.underlying70 rfl) hS.rd ?_
  refine LW.ex rfl rfl rfl rfl (Ex.move rfl) hS.rd ?_
  refine LW.nil fun aa ha => hK56 _ _ _ ?_ aa ha
  refine CW.block ?_
  refine CW.loop (fun qq frm wl3 => ∃ (j : Nat) (bs : Nat → Nat), j ≤ N ∧ qq = N - j ∧ frm = [(0, .string X.inp), (1, .slice ar X.rules.length cr), (2, .int .i64 lim), (4, .func (.func fn) #[] #[.pointer (some ⟨bp, 0, none⟩)]), (8, .pointer (some ⟨b8, 0, none⟩)), (12, .slice (some ⟨b27, 0, none⟩) N N), (29, .int .i64 N), (30, .int .i64 j)] ∧ St w0 wl3 μ (Own.sl (some ⟨b27, 0, none⟩) N N 78 1 (cellsF bs j N) :: Own.obj b8 [.int .i64 (( X.first).1.1.val : Nat), .int .i64 (( X.first).1.2 : Nat)] 74 :: (mapsO kpV iV bs (fun _ => []) j ++ L))) _ ⟨0, fun _ => 0, (by first | omega | (simp; done) | (simp; omega)), rfl, rfl, hS⟩ ⟨rfl, rfl, rfl, rfl, rfl, rfl, rfl, rfl, trivial⟩ ?_
  clear hS
  rintro qq frm wl3 ⟨j, bs, hj, hq, rfl, hS⟩
  refine CW.seq fun K57 hK57 => ?_
  refine CW.region [0] rfl ?_
  refine LW.ex rfl rfl rfl rfl (Ex.lss rfl rfl rfl) hS.rd ?_
  refine LW.splitB (fun h3_0 => ?_) (fun h3_0 => ?_)
  · have h3_0 := of_decide_eq_true h3_0
    refine LW.nil fun aa ha => hK57 _ _ _ ?_ aa ha
    refine CW.seq fun K58 hK58 => ?_
    refine CW.yes rfl ?_
    refine CW.skip fun aa ha => hK58 _ _ _ ?_ aa ha
    refine CW.seq fun K59 hK59 => ?_
    refine CW.block ?_
    refine CW.seq fun K60 hK60 => ?_
    refine CW.region [0, 1] rfl ?_
    refine LW.ex rfl rfl rfl rfl (Ex.move rfl) hS.rd ?_
    refine LW.ex rfl rfl rfl rfl (Ex.assign rfl) hS.rd ?_
    refine LW.nil fun aa ha => hK60 _ _ _ ?_ aa ha
    have hov : 0 + j * 1 < (cellsF bs j N).length := by rw [cellsF_len]; omega
    refine CW.region [0, 1, 2, 3, 4] rfl ?_
    refine LW.ex rfl rfl rfl rfl (Ex.move rfl) hS.rd ?_
    refine LW.ex rfl rfl rfl rfl (Ex.move rfl) hS.rd ?_
    refine LW.hv rfl rfl rfl rfl (Hv.makeMap kpV iV hS) fun v w35 ⟨b35, hv, hb35, hS⟩ => ?_
    subst hv
    refine LW.ex rfl rfl rfl rfl (Ex.indexSl Try.underlying70 ti78 rfl rfl rfl (by omega)) hS.rd ?_
    refine LW.hu rfl rfl rfl (Hv.storeSl (k := 1) ti78 hS rfl rfl rfl rfl (by first | assumption | (simp; done) | omega | exact Nat.zero_lt_succ _)) fun _ w_4 hS => ?_
    dsimp only [List.set] at hS
    rw [Nat.zero_add, Nat.mul_one, cellsF_set] at hS
    refine LW.nil fun aa ha => hK59 _ _ _ ?_ aa ha
    refine CW.region [0, 1] rfl ?_
    refine LW.ex rfl rfl rfl rfl (Ex.add rfl rfl (by first | exact inc64 (by omega) | exact addN (by omega) | exact w64 (by omega) (by omega))) hS.rd ?_
    refine LW.ex rfl rfl rfl rfl (Ex.move rfl) hS.rd ?_
    refine LW.nil fun aa ha => ?_
    have hS := st_perm' hS perm_in
    rw [mapsO_snoc, show updF (fun _ => ([] : List (KP × Int))) j [] = fun _ => [] by funext q; unfold updF; split <;> rfl] at hS
    refine ⟨_, _, ?m3, ⟨j + 1, updF bs j b35, (by first | omega | (simp; done) | (simp; omega)), rfl, rfl, hS⟩, ha.sub ⟨rfl, rfl, rfl, rfl, rfl, rfl, rfl, rfl, trivial⟩⟩
    case m3 => omega
  · have h3_0 := of_decide_eq_false h3_0
    refine LW.nil fun aa ha => hK57 _ _ _ ?_ aa ha
    refine CW.seq fun K61 hK61 => ?_
    refine CW.no rfl ?_
    refine CW.exit fun aa ha => hK55 _ _ _ ?_ aa ha
    refine CW.seq fun K62 hK62 => ?_
    have hjN : N = j := by omega
    subst hjN
    refine CW.region [0, 1, 2] rfl ?_
    refine LW.ex rfl rfl rfl rfl (Ex.move rfl) hS.rd ?_
    refine LW.ex rfl rfl rfl rfl (Ex.load2c ti74 rfl rfl (by first | exact obT rfl | exact Rd.imm ‹_› | exact slT ‹_›) (by first | exact obT rfl | exact Rd.imm ‹_› | exact slT ‹_›)) hS.rd ?_
    refine LW.hv rfl rfl rfl rfl (Hv.callM rfl rfl rfl cb55 (putP_m (a := 0) (c := 0 + 2) [] X.first 0 0 hS rfl (cellsF_get hN0 hN0) hN0 (by omega) (maps_get [_, _] hN0))) fun v w40 ⟨hv, hS⟩ => ?_
    subst hv
    have hS := st_maps [_, _] hN0 hS
    dsimp only [List.cons_append, List.nil_append] at hS
    refine LW.nil fun aa ha => hK62 _ _ _ ?_ aa ha
    refine CW.seq fun K63 hK63 => ?_
    refine CW.seq fun K64 hK64 => ?_
    refine CW.region [0, 1, 2] rfl ?_
    refine LW.ex rfl rfl rfl rfl (Ex.move rfl) hS.rd ?_
    refine LW.ex rfl rfl rfl rfl (Ex.lenSl rfl Try.underlying70 rfl) hS.rd ?_
    refine LW.ex rfl rfl rfl rfl (Ex.move rfl) hS.rd ?_
    refine LW.nil fun aa ha => hK64 _ _ _ ?_ aa ha
    refine CW.block ?_
    refine CW.loop (fun qq frm wl9 => ∃ (i : Nat) (ms : Nat → List (KP × Int)), i ≤ N ∧ qq = N - i ∧ frm = [(0, .string X.inp), (1, .slice ar X.rules.length cr), (2, .int .i64 lim), (4, .func (.func fn) #[] #[.pointer (some ⟨bp, 0, none⟩)]), (12, .slice (some ⟨b27, 0, none⟩) N N), (42, .int .i64 N), (43, .int .i64 i)] ∧ St w0 wl9 μ (Own.sl (some ⟨b27, 0, none⟩) N N 78 1 (cellsF bs N N) :: Own.obj b8 [.int .i64 (( X.first).1.1.val : Nat), .int .i64 (( X.first).1.2 : Nat)] 74 :: (mapsO kpV iV bs ms N ++ L)) ∧ (WI X ms i) ∧ (∀ j, j < i → ((ms j).length : Int) ≤ lim)) _ ⟨0, updF (fun _ => []) 0 (putM [] X.first 0), (by first | omega | (simp; done) | (simp; omega)), rfl, rfl, hS, WI.init X, fun j h => by omega⟩ ⟨rfl, rfl, rfl, rfl, rfl, rfl, rfl, trivial⟩ ?_
    clear hS
    rintro qq frm wl9 ⟨i, ms, hi, hq, rfl, hS, hW, hlen⟩
    refine CW.seq fun K65 hK65 => ?_
    refine CW.region [0] rfl ?_
    refine LW.ex rfl rfl rfl rfl (Ex.lss rfl rfl rfl) hS.rd ?_
    refine LW.splitB (fun h9_0 => ?_) (fun h9_0 => ?_)
    · have h9_0 := of_decide_eq_true h9_0
      refine LW.nil fun aa ha => hK65 _ _ _ ?_ aa ha
      refine CW.seq fun K66 hK66 => ?_
      refine CW.yes rfl ?_
      refine CW.skip fun aa ha => hK66 _ _ _ ?_ aa ha
      refine CW.seq fun K67 hK67 => ?_
      refine CW.block ?_
      refine CW.seq fun K68 hK68 => ?_
      have hi2 : i < N := by omega
      have hq9 := hq
      refine CW.region [0, 1] rfl ?_
      refine LW.ex rfl rfl rfl rfl (Ex.move rfl) hS.rd ?_
      refine LW.ex rfl rfl rfl rfl (Ex.assign rfl) hS.rd ?_
      refine LW.nil fun aa ha => hK68 _ _ _ ?_ aa ha
      refine CW.seq fun K69 hK69 => ?_
      refine CW.region [0, 1] rfl ?_
      refine LW.hv rfl rfl rfl rfl (Hv.makeMap kpV iV hS) fun v w46 ⟨b46, hv, hb46, hS⟩ => ?_
      subst hv
      refine LW.ex rfl rfl rfl rfl (Ex.assign rfl) hS.rd ?_
      refine LW.nil fun aa ha => hK69 _ _ _ ?_ aa ha
      refine CW.seq fun K70 hK70 => ?_
      refine CW.seq fun K71 hK71 => ?_
      have hnd := st_nodup hS (maps_get [_, _, _] hi2)
      refine CW.region [0, 1, 2, 3, 4] rfl ?_
      refine LW.ex rfl rfl rfl rfl (Ex.move rfl) hS.rd ?_
      refine LW.ex rfl rfl rfl rfl (Ex.move rfl) hS.rd ?_
      refine LW.ex rfl rfl rfl rfl (Ex.indexSl Try.underlying70 ti78 rfl rfl rfl (by omega)) hS.rd ?_
      refine LW.ex rfl rfl rfl rfl (Ex.load1 ti78 rfl rfl (Rd.sl (k := 1) rfl (by rw [Nat.zero_add, Nat.mul_one]; exact cellsF_get hi2 hi2))) hS.rd ?_
      refine LW.hv rfl rfl rfl rfl (Hv.range Try.underlying78 (i + 3) hS (maps_get [_, _, _] hi2) rfl) fun v w51 ⟨r51, hv, hr51, hS⟩ => ?_
      subst hv
      have hS := st_rng0 [_, _, _] _ hi2 hS
      refine LW.nil fun aa ha => hK71 _ _ _ ?_ aa ha
      refine CW.block ?_
      refine CW.loop (fun qq frm wl13 => ∃ (left kvw : List (KP × Int)) (cur : Option (KP × Int)), qq = left.length ∧ frm = [(0, .string X.inp), (1, .slice ar X.rules.length cr), (2, .int .i64 lim), (4, .func (.func fn) #[] #[.pointer (some ⟨bp, 0, none⟩)]), (12, .slice (some ⟨b27, 0, none⟩) N N), (14, .int .i64 i), (15, .map (some b46)), (42, .int .i64 N), (43, .int .i64 i), (51, .pointer (some ⟨r51, 0, none⟩))] ∧ St w0 wl13 μ (Own.mp kpV iV b46 kvw :: Own.sl (some ⟨b27, 0, none⟩) N N 78 1 (cellsF bs N N) :: Own.obj b8 [.int .i64 (( X.first).1.1.val : Nat), .int .i64 (( X.first).1.2 : Nat)] 74 :: ((mapsO kpV iV bs ms N).set i (Own.rng kpV iV (bs i) r51 (ms i) left cur) ++ L)) ∧ (Cp (ms i) left kvw)) _ ⟨ms i, [], none, rfl, rfl, hS, Cp.start _⟩ ⟨rfl, rfl, rfl, rfl, rfl, rfl, rfl, rfl, rfl, rfl, trivial⟩ ?_
      clear hS
      rintro qq frm wl13 ⟨left, kvw, cur, hq, rfl, hS, hcp⟩
      refine CW.seq fun K72 hK72 => ?_
      refine CW.region [0, 1] rfl ?_
      refine LW.hv rfl rfl rfl rfl (Hv.nextAny (i + 3) hS (rng_get [_, _, _] _ hi2) rfl) fun v w52 ⟨bo, rest, left', cur', hv, hF, hT, hS⟩ => ?_
      subst hv
      have hS := st_rng1 [_, _, _] _ _ hi2 hS
      refine LW.ex rfl rfl rfl rfl (extract0 rfl) hS.rd ?_
      refine LW.splitB (fun h13_1 => ?_) (fun h13_1 => ?_)
      · obtain ⟨jj, p, hj, hl2, hc2⟩ := hT h13_1
        subst hl2 hc2
        refine LW.nil fun aa ha => hK72 _ _ _ ?_ aa ha
        refine CW.seq fun K73 hK73 => ?_
        refine CW.yes rfl ?_
        refine CW.skip fun aa ha => hK73 _ _ _ ?_ aa ha
        refine CW.block ?_
        refine CW.seq fun K74 hK74 => ?_
        refine CW.region [0, 1, 2, 3, 4, 5] rfl ?_
        refine LW.ex rfl rfl rfl rfl (Ex.entry (i + 3) (rng_get [_, _, _] _ hi2) rfl) hS.rd ?_
        refine LW.ex rfl rfl rfl rfl (Ex.extract rfl rfl) hS.rd ?_
        refine LW.ex rfl rfl rfl rfl (Ex.extract rfl rfl) hS.rd ?_
        refine LW.hv rfl rfl rfl rfl (Hv.alloc ti74 hS) fun v w16 ⟨b16, hv, hb16, hS⟩ => ?_
        subst hv
        refine LW.hu rfl rfl rfl (Hv.storeN (k := 0) ti74 hS rfl rfl rfl rfl (by simp [Value.oneCell'])) fun _ w_4 hS => ?_
        dsimp only [List.set] at hS
        refine LW.ex rfl rfl rfl rfl (Ex.assign rfl) hS.rd ?_
        refine LW.nil fun aa ha => hK74 _ _ _ ?_ aa ha
        refine CW.region [0, 1, 2, 3] rfl ?_
        refine LW.ex rfl rfl rfl rfl (Ex.move rfl) hS.rd ?_
        refine LW.ex rfl rfl rfl rfl (Ex.load2c ti74 rfl rfl (by first | exact obT rfl | exact Rd.imm ‹_› | exact slT ‹_›) (by first | exact obT rfl | exact Rd.imm ‹_› | exact slT ‹_›)) hS.rd ?_
        refine LW.ex rfl rfl rfl rfl (Ex.move rfl) hS.rd ?_
        refine LW.hu rfl rfl rfl (Hv.mapUpdate (a := p.1) (c := p.2) Try.underlying78 encKP 1 hS rfl rfl rfl rfl) fun _ w_3 hS => ?_
        dsimp only [List.set] at hS
        refine LW.nil fun aa ha => ?_
        have hS := hS.drop 0 rfl
        dsimp only [List.eraseIdx] at hS
        refine ⟨_, _, ?m13, ⟨left.eraseIdx jj, aset kvw p.1 p.2, some p, rfl, rfl, hS, hcp.step hnd hj⟩, ha.sub ⟨rfl, rfl, rfl, rfl, rfl, rfl, rfl, rfl, rfl, rfl, trivial⟩⟩
        case m13 => (rw [hq]; exact er_lt hj)
      · have hSl := hS
        obtain ⟨hl1, hl2⟩ := hF h13_1
        subst hl1 hl2
        have hS := hSl
        refine LW.nil fun aa ha => hK72 _ _ _ ?_ aa ha
        refine CW.seq fun K75 hK75 => ?_
        refine CW.no rfl ?_
        refine CW.exit fun aa ha => hK70 _ _ _ ?_ aa ha
        refine CW.seq fun K76 hK76 => ?_
        refine CW.block ?_
        have hS := st_unrngM [_, _, _] hi2 hS
        have hkk := hcp.keys
        have hss := hcp.sub hnd
        refine CW.loop (fun qq frm wl16 => ∃ (kvw2 : List (KP × Int)) (ms4 : Nat → List (KP × Int)), qq = kvw2.length ∧ frm = [(0, .string X.inp), (1, .slice ar X.rules.length cr), (2, .int .i64 lim), (4, .func (.func fn) #[] #[.pointer (some ⟨bp, 0, none⟩)]), (12, .slice (some ⟨b27, 0, none⟩) N N), (14, .int .i64 i), (15, .map (some b46)), (42, .int .i64 N), (43, .int .i64 i)] ∧ St w0 wl16 μ (Own.mp kpV iV b46 kvw2 :: Own.sl (some ⟨b27, 0, none⟩) N N 78 1 (cellsF bs N N) :: Own.obj b8 [.int .i64 (( X.first).1.1.val : Nat), .int .i64 (( X.first).1.2 : Nat)] 74 :: (mapsO kpV iV bs ms4 N ++ L)) ∧ (WJ X ms4 i (kvw2.map Prod.fst)) ∧ (∀ p ∈ kvw2, aget (ms4 i) p.1 = some p.2) ∧ (∀ j, j ≤ i → ms4 j = ms j)) _ ⟨kvw, ms, rfl, rfl, hS, WJ.start hW hkk, hss, fun j _ => rfl⟩ ⟨rfl, rfl, rfl, rfl, rfl, rfl, rfl, rfl, rfl, trivial⟩ ?_
        clear hS
        rintro qq frm wl16 ⟨kvw2, ms4, hq, rfl, hS, hJ, hss2, hlow⟩
        refine CW.seq fun K77 hK77 => ?_
        refine CW.seq fun K78 hK78 => ?_
        refine CW.region [0, 1, 2] rfl ?_
        refine LW.ex rfl rfl rfl rfl (Ex.move rfl) hS.rd ?_
        refine LW.ex rfl rfl rfl rfl (Ex.lenMap rfl Try.underlying78 0 rfl rfl) hS.rd ?_
        refine LW.ex rfl rfl rfl rfl (Ex.gtr rfl rfl rfl) hS.rd ?_
        refine LW.splitB (fun h16_2 => ?_) (fun h16_2 => ?_)
        · have h16_2 := of_decide_eq_true h16_2
          refine LW.nil fun aa ha => hK78 _ _ _ ?_ aa ha
          refine CW.yes rfl ?_
          refine CW.skip fun aa ha => hK77 _ _ _ ?_ aa ha
          refine CW.block ?_
          refine CW.seq fun K79 hK79 => ?_
          refine CW.seq fun K80 hK80 => ?_
          have hq16 := hq
          refine CW.region [0, 1] rfl ?_
          refine LW.ex rfl rfl rfl rfl (Ex.move rfl) hS.rd ?_
          refine LW.hv rfl rfl rfl rfl (Hv.range Try.underlying78 0 hS rfl rfl) fun v w64 ⟨r64, hv, hr64, hS⟩ => ?_
          subst hv
          dsimp only [List.set] at hS
          refine LW.nil fun aa ha => hK80 _ _ _ ?_ aa ha
          refine CW.block ?_
          refine CW.loop (fun qq frm wl18 => ∃ (left2 kv2 : List (KP × Int)) (cur2 : Option (KP × Int)) (ms2 : Nat → List (KP × Int)), qq = left2.length ∧ frm = [(0, .string X.inp), (1, .slice ar X.rules.length cr), (2, .int .i64 lim), (4, .func (.func fn) #[] #[.pointer (some ⟨bp, 0, none⟩)]), (12, .slice (some ⟨b27, 0, none⟩) N N), (14, .int .i64 i), (15, .map (some b46)), (42, .int .i64 N), (43, .int .i64 i), (64, .pointer (some ⟨r64, 0, none⟩))] ∧ St w0 wl18 μ (Own.rng kpV iV b46 r64 kv2 left2 cur2 :: Own.sl (some ⟨b27, 0, none⟩) N N 78 1 (cellsF bs N N) :: Own.obj b8 [.int .i64 (( X.first).1.1.val : Nat), .int .i64 (( X.first).1.2 : Nat)] 74 :: (mapsO kpV iV bs ms2 N ++ L)) ∧ (WJ X ms2 i (left2.map Prod.fst)) ∧ (∀ p ∈ left2, aget (ms2 i) p.1 = some p.2) ∧ (∀ p ∈ kv2, p ∈ left2) ∧ (∀ j, j ≤ i → ms2 j = ms j)) _ ⟨kvw2, kvw2, none, ms4, rfl, rfl, hS, hJ, hss2, fun p hp => hp, hlow⟩ ⟨rfl, rfl, rfl, rfl, rfl, rfl, rfl, rfl, rfl, rfl, trivial⟩ ?_
          clear hS
          rintro qq frm wl18 ⟨left2, kv2, cur2, ms2, hq, rfl, hS, hJ2, hks, hkl, hlow2⟩
          refine CW.seq fun K81 hK81 => ?_
          refine CW.region [0, 1] rfl ?_
          refine LW.hv rfl rfl rfl rfl (Hv.nextAny 0 hS rfl rfl) fun v w65 ⟨bo2, rest2, left3, cur3, hv, hF2, hT2, hS⟩ => ?_
          subst hv
          dsimp only [List.set] at hS
          refine LW.ex rfl rfl rfl rfl (extract0 rfl) hS.rd ?_
          refine LW.splitB (fun h18_1 => ?_) (fun h18_1 => ?_)
          · have hq18 := hq
            obtain ⟨j2, p, hj2, hl3, hc3⟩ := hT2 h18_1
            subst hl3 hc3
            have hpk := hks p (List.mem_of_getElem? hj2)
            refine LW.nil fun aa ha => hK81 _ _ _ ?_ aa ha
            refine CW.seq fun K82 hK82 => ?_
            refine CW.yes rfl ?_
            refine CW.skip fun aa ha => hK82 _ _ _ ?_ aa ha
            refine CW.block ?_
            refine CW.seq fun K83 hK83 => ?_
            refine CW.region [0, 1, 2, 3] rfl ?_
            refine LW.ex rfl rfl rfl rfl (Ex.entry 0 rfl rfl) hS.rd ?_
            refine LW.ex rfl rfl rfl rfl (Ex.extract rfl rfl) hS.rd ?_
            refine LW.hv rfl rfl rfl rfl (Hv.alloc ti74 hS) fun v w18 ⟨b18, hv, hb18, hS⟩ => ?_
            subst hv
            refine LW.hu rfl rfl rfl (Hv.storeN (k := 0) ti74 hS rfl rfl rfl rfl (by simp [Value.oneCell'])) fun _ w_3 hS => ?_
            dsimp only [List.set] at hS
            refine LW.nil fun aa ha => hK83 _ _ _ ?_ aa ha
            refine CW.seq fun K84 hK84 => ?_
            refine CW.region [0, 1, 2] rfl ?_
            refine LW.ex rfl rfl rfl rfl (Ex.move rfl) hS.rd ?_
            refine LW.ex rfl rfl rfl rfl (Ex.load2c ti74 rfl rfl (by first | exact obT rfl | exact Rd.imm ‹_› | exact slT ‹_›) (by first | exact obT rfl | exact Rd.imm ‹_› | exact slT ‹_›)) hS.rd ?_
            refine LW.hu rfl rfl rfl (Hv.deleteCur (a := p.1) (c := p.2) rfl Try.underlying78 encKP 1 hS rfl rfl rfl) fun _ w_2 ⟨kv3, hkv3, hS⟩ => ?_
            dsimp only [List.set] at hS
            refine LW.nil fun aa ha => hK84 _ _ _ ?_ aa ha
            refine CW.seq fun K85 hK85 => ?_
            have hS := hS.drew
            refine CW.draw 7 (.ex 0 <| .ex 1 <| .ex 2 <| .ex 3 <| .ex 4 <| .ex 5 <| .ex 6 <| .done) [] (Rd _ _) mixed (by kernel_rfl) rfl rfl hS.rd ?_
            refine PW.ex rfl rfl rfl rfl (Ex.move rfl) ?_
            refine PW.ex rfl rfl rfl rfl (Ex.move rfl) ?_
            refine PW.ex rfl rfl rfl rfl (Ex.indexSl Try.underlying70 ti78 rfl rfl rfl (by omega)) ?_
            refine PW.ex rfl rfl rfl rfl (Ex.load1 ti78 rfl rfl (Rd.sl (k := 2) rfl (by rw [Nat.zero_add, Nat.mul_one]; exact cellsF_get hi2 hi2))) ?_
            refine PW.ex rfl rfl rfl rfl (Ex.load2c ti74 rfl rfl (by first | exact obT rfl | exact Rd.imm ‹_› | exact slT ‹_›) (by first | exact obT rfl | exact Rd.imm ‹_› | exact slT ‹_›)) ?_
            refine PW.ex rfl rfl rfl rfl (Ex.lookup1_some (a := p.1) Try.underlying78 ti3 encKP (i + 4) (maps_get [_, _, _, _] hi2) rfl rfl hpk) ?_
            refine PW.ex rfl rfl rfl rfl (Ex.assign rfl) ?_
            refine PW.nil ?_
            refine LW.nil fun aa ha => hK85 _ _ _ ?_ aa ha
            refine CW.seq fun K86 hK86 => ?_
            refine CW.region [0, 1, 2] rfl ?_
            refine LW.ex rfl rfl rfl rfl (Ex.move rfl) hS.rd ?_
            refine LW.ex rfl rfl rfl rfl (Ex.lenSl rfl Try.underlying27 rfl) hS.rd ?_
            refine LW.ex rfl rfl rfl rfl (Ex.move rfl) hS.rd ?_
            refine LW.nil fun aa ha => hK86 _ _ _ ?_ aa ha
            refine CW.block ?_
            refine CW.loop (fun qq frm wl23 => ∃ (t : Nat) (ms3 : Nat → List (KP × Int)), t ≤ X.rules.length ∧ qq = X.rules.length - t ∧ frm = [(0, .string X.inp), (1, .slice ar X.rules.length cr), (2, .int .i64 lim), (4, .func (.func fn) #[] #[.pointer (some ⟨bp, 0, none⟩)]), (12, .slice (some ⟨b27, 0, none⟩) N N), (14, .int .i64 i), (15, .map (some b46)), (18, .pointer (some ⟨b18, 0, none⟩)), (19, .int .i64 p.2), (42, .int .i64 N), (43, .int .i64 i), (64, .pointer (some ⟨r64, 0, none⟩)), (77, .slice ar X.rules.length cr), (78, .int .i64 X.rules.length), (79, .int .i64 t)] ∧ St w0 wl23 μ (Own.obj b18 [.int .i64 (( p.1).1.1.val : Nat), .int .i64 (( p.1).1.2 : Nat)] 74 :: Own.rng kpV iV b46 r64 kv3 (left2.eraseIdx j2) none :: Own.sl (some ⟨b27, 0, none⟩) N N 78 1 (cellsF bs N N) :: Own.obj b8 [.int .i64 (( X.first).1.1.val : Nat), .int .i64 (( X.first).1.2 : Nat)] 74 :: (mapsO kpV iV bs ms3 N ++ L)) ∧ (WK X ms3 i ((left2.eraseIdx j2).map Prod.fst) p.1 p.2 t) ∧ (∀ j, j ≤ i → ms3 j = ms j)) _ ⟨0, ms2, (by first | omega | (simp; done) | (simp; omega)), rfl, rfl, hS, WK.start hJ2 hpk (not_mem_map hj2), hlow2⟩ ⟨rfl, rfl, rfl, rfl, rfl, rfl, rfl, rfl, rfl, rfl, rfl, rfl, rfl, rfl, rfl, trivial⟩ ?_
            clear hS
            rintro qq frm wl23 ⟨t, ms3, ht, hq, rfl, hS, hK, hlow3⟩
            refine CW.seq fun K87 hK87 => ?_
            refine CW.region [0] rfl ?_
            refine LW.ex rfl rfl rfl rfl (Ex.lss rfl rfl rfl) hS.rd ?_
            refine LW.splitB (fun h23_0 => ?_) (fun h23_0 => ?_)
            · have h23_0 := of_decide_eq_true h23_0
              refine LW.nil fun aa ha => hK87 _ _ _ ?_ aa ha
              refine CW.seq fun K88 hK88 => ?_
              refine CW.yes rfl ?_
              refine CW.skip fun aa ha => hK88 _ _ _ ?_ aa ha
              refine CW.seq fun K89 hK89 => ?_
              refine CW.block ?_
              refine CW.seq fun K90 hK90 => ?_
              have ht2 : t < X.rules.length := by omega
              have hTk := hX _ (List.getElem_mem ht2)
              have hR := hK.wi.snd i p.1 p.2 hK.at_
              have hcost := hR.cost hX
              have hsm := hrs _ (List.getElem_mem ht2)
              have hSl := hS
              obtain ⟨bl', ol, rfl, k0, k1, k2, k3, k4⟩ := hr.at ht2
              have hS := hSl
              obtain ⟨r, hre⟩ : ∃ r, r = X.rules[t] := ⟨_, rfl⟩
              rw [← hre] at k0 k1 k2 k3 k4 hTk hsm
              refine CW.region [0, 1, 2, 3] rfl ?_
              refine LW.ex rfl rfl rfl rfl (Ex.indexSl Try.underlying27 ti58 rfl rfl rfl (by omega)) hS.rd ?_
              refine LW.ex rfl rfl rfl rfl (Ex.load5c ti58 rfl rfl (by first | exact obT rfl | exact Rd.imm ‹_› | exact slT ‹_›) (by first | exact obT rfl | exact Rd.imm ‹_› | exact slT ‹_›) (by first | exact obT rfl | exact Rd.imm ‹_› | exact slT ‹_›) (by first | exact obT rfl | exact Rd.imm ‹_› | exact slT ‹_›) (by first | exact obT rfl | exact Rd.imm ‹_› | exact slT ‹_›)) hS.rd ?_
              refine LW.hv rfl rfl rfl rfl (Hv.alloc ti58 hS) fun v w21 ⟨b21, hv, hb21, hS⟩ => ?_
              subst hv
              refine LW.hu rfl rfl rfl (Hv.storeN (k := 0) ti58 hS rfl rfl rfl rfl (by simp [Value.oneCell'])) fun _ w_3 hS => ?_
              dsimp only [List.set] at hS
              refine LW.nil fun aa ha => hK90 _ _ _ ?_ aa ha
              refine CW.seq fun K91 hK91 => ?_
              refine CW.region [0, 1, 2, 3, 4, 5, 6, 7, 8, 9] rfl ?_
              refine LW.ex rfl rfl rfl rfl (Ex.move rfl) hS.rd ?_
              refine LW.ex rfl rfl rfl rfl (Ex.load2c ti74 rfl rfl (by first | exact obT rfl | exact Rd.imm ‹_› | exact slT ‹_›) (by first | exact obT rfl | exact Rd.imm ‹_› | exact slT ‹_›)) hS.rd ?_
              refine LW.ex rfl rfl rfl rfl (Ex.load5c ti58 rfl rfl (by first | exact obT rfl | exact Rd.imm ‹_› | exact slT ‹_›) (by first | exact obT rfl | exact Rd.imm ‹_› | exact slT ‹_›) (by first | exact obT rfl | exact Rd.imm ‹_› | exact slT ‹_›) (by first | exact obT rfl | exact Rd.imm ‹_› | exact slT ‹_›) (by first | exact obT rfl | exact Rd.imm ‹_› | exact slT ‹_›)) hS.rd ?_
              refine LW.hv rfl rfl rfl rfl (Hv.callS hS rfl rfl rfl hC (hnx i p.1 p.2 hR r (by rw [hre]; exact List.getElem_mem ht2) _ hS.imm)) fun v w87 ⟨hv, hS⟩ => ?_
              subst hv
              refine LW.ex rfl rfl rfl rfl (Ex.move rfl) hS.rd ?_
              refine LW.ex rfl rfl rfl rfl (Ex.extract rfl rfl) hS.rd ?_
              refine LW.ex rfl rfl rfl rfl (Ex.extract rfl rfl) hS.rd ?_
              refine LW.splitB (fun h25_6 => ?_) (fun h25_6 => ?_)
              · skip
                refine LW.hv rfl rfl rfl rfl (Hv.alloc ti74 hS) fun v w22 ⟨b22, hv, hb22, hS⟩ => ?_
                subst hv
                refine LW.hu rfl rfl rfl (Hv.storeN (k := 0) ti74 hS rfl rfl rfl rfl (by simp [Value.oneCell'])) fun _ w_8 hS => ?_
                dsimp only [List.set] at hS
                refine LW.ex rfl rfl rfl rfl (Ex.assign rfl) hS.rd ?_
                refine LW.nil fun aa ha => hK91 _ _ _ ?_ aa ha
                refine CW.seq fun K92 hK92 => ?_
                refine CW.seq fun K93 hK93 => ?_
                have hS := hS.drew
                refine CW.draw 11 (.ex 0 <| .ex 1 <| .ex 2 <| .ex 3 <| .ex 4 <| .ex 5 <| .ex 6 <| .ex 7 <| .one 8 <| .ex 9 <| .ex 10 <| .done) [] (Rd _ _) mixed (by kernel_rfl) rfl rfl hS.rd ?_
                refine PW.ex rfl rfl rfl rfl (Ex.move rfl) ?_
                refine PW.ex rfl rfl rfl rfl (Ex.not rfl rfl) ?_
                refine PW.ex rfl rfl rfl rfl (Ex.move rfl) ?_
                refine PW.ex rfl rfl rfl rfl (Ex.move rfl) ?_
                refine PW.ex rfl rfl rfl rfl (Ex.move rfl) ?_
                refine PW.ex rfl rfl rfl rfl (sliceStrF Try.underlying9 rfl rfl rfl (by omega)) ?_
                refine PW.ex rfl rfl rfl rfl (Ex.fieldO 2 Try.underlying58 rfl rfl ti9 rfl) ?_
                refine PW.ex rfl rfl rfl rfl (Ex.load1 ti9 rfl rfl (by first | exact obT rfl | exact Rd.imm ‹_› | exact slT ‹_›)) ?_
                refine PW.hv rfl rfl rfl rfl (Hv.callS hS rfl rfl rfl cb30 (hasp_c (X.inp.extract i X.inp.size) r.In (Nat.le_trans ext_size (by omega)) hsm.1 _)) (fun _ _ h => h.2.rd) fun v w98 ⟨hv, hS⟩ => ?_
                subst hv
                refine PW.splitB (fun h26_8 => ?_) (fun h26_8 => ?_)
                · have hpa : preAt X.inp i r = true := by rw [← pre_at r (by omega)]; exact h26_8
                  have hpl := pre_len hpa hTk.1
                  have hj3 : i + r.In.size < N := by omega
                  refine PW.ex rfl rfl rfl rfl (Ex.not rfl rfl) ?_
                  refine PW.ex rfl rfl rfl rfl (by first | exact Ex.pick_yes rfl rfl | exact Ex.pick_no rfl rfl) ?_
                  refine PW.nil ?_
                  refine LW.nil fun aa ha => hK93 _ _ _ ?_ aa ha
                  refine CW.no rfl ?_
                  refine CW.skip fun aa ha => hK92 _ _ _ ?_ aa ha
                  refine CW.seq fun K94 hK94 => ?_
                  refine CW.region [0, 1, 2, 3, 4, 5, 6, 7, 8, 9, 10, 11, 12, 13, 14, 15, 16] rfl ?_
                  refine LW.ex rfl rfl rfl rfl (Ex.move rfl) hS.rd ?_
                  refine LW.ex rfl rfl rfl rfl (Ex.move rfl) hS.rd ?_
                  refine LW.ex rfl rfl rfl rfl (Ex.fieldO 2 Try.underlying58 rfl rfl ti9 rfl) hS.rd ?_
                  refine LW.ex rfl rfl rfl rfl (Ex.load1 ti9 rfl rfl (by first | exact obT rfl | exact Rd.imm ‹_› | exact slT ‹_›)) hS.rd ?_
                  refine LW.ex rfl rfl rfl rfl (Ex.lenS rfl Try.underlying9 rfl) hS.rd ?_
                  refine LW.ex rfl rfl rfl rfl (Ex.add (r := ((i + r.In.size : Nat) : Int)) rfl rfl (by rw [Sy.w64 (by omega) (by omega)]; omega)) hS.rd ?_
                  refine LW.ex rfl rfl rfl rfl (Ex.load2c ti74 rfl rfl (by first | exact obT rfl | exact Rd.imm ‹_› | exact slT ‹_›) (by first | exact obT rfl | exact Rd.imm ‹_› | exact slT ‹_›)) hS.rd ?_
                  refine LW.ex rfl rfl rfl rfl (Ex.move rfl) hS.rd ?_
                  refine LW.ex rfl rfl rfl rfl (Ex.fieldO 4 Try.underlying58 rfl rfl ti3 rfl) hS.rd ?_
                  refine LW.ex rfl rfl rfl rfl (Ex.load1 ti3 rfl rfl (by first | exact obT rfl | exact Rd.imm ‹_› | exact slT ‹_›)) hS.rd ?_
                  refine LW.ex rfl rfl rfl rfl (Ex.add rfl rfl (Sy.w64 (by omega) (by omega))) hS.rd ?_
                  refine LW.hv rfl rfl rfl rfl (Hv.callM rfl rfl rfl cb55 (putP_m (a := 4) (c := (i + r.In.size) + 6) (ms3 (i + r.In.size)) (X.nv p.1 r) (i + r.In.size) (p.2 + r.Cost) hS rfl (cellsF_get hj3 hj3) hj3 (by omega) (maps_get [_, _, _, _, _, _] hj3))) fun v w112 ⟨hv, hS⟩ => ?_
                  subst hv
                  have hS := st_maps [_, _, _, _, _, _] hj3 hS
                  dsimp only [List.cons_append, List.nil_append] at hS
                  refine LW.splitB (fun h27_11 => ?_) (fun h27_11 => ?_)
                  · skip
                    refine LW.ex rfl rfl rfl rfl (Ex.move rfl) hS.rd ?_
                    refine LW.ex rfl rfl rfl rfl (Ex.fieldO 2 Try.underlying58 rfl rfl ti9 rfl) hS.rd ?_
                    refine LW.ex rfl rfl rfl rfl (Ex.load1 ti9 rfl rfl (by first | exact obT rfl | exact Rd.imm ‹_› | exact slT ‹_›)) hS.rd ?_
                    refine LW.ex rfl rfl rfl rfl (Ex.eqlS (b := false) rfl rfl (notEmpty hTk.1)) hS.rd ?_
                    refine LW.ex rfl rfl rfl rfl (by first | exact Ex.pick_yes rfl rfl | exact Ex.pick_no rfl rfl) hS.rd ?_
                    refine LW.nil fun aa ha => hK94 _ _ _ ?_ aa ha
                    refine CW.no rfl ?_
                    refine CW.skip fun aa ha => hK89 _ _ _ ?_ aa ha
                    refine CW.region [0, 1] rfl ?_
                    refine LW.ex rfl rfl rfl rfl (Ex.add rfl rfl (by first | exact inc64 (by omega) | exact addN (by omega) | exact w64 (by omega) (by omega))) hS.rd ?_
                    refine LW.ex rfl rfl rfl rfl (Ex.move rfl) hS.rd ?_
                    refine LW.nil fun aa ha => ?_
                    have hS := hS.drop 0 rfl
                    dsimp only [List.eraseIdx] at hS
                    have hS := hS.drop 0 rfl
                    dsimp only [List.eraseIdx] at hS
                    refine ⟨_, _, ?m23, ⟨t + 1, updF ms3 (i + r.In.size) (putM (ms3 (i + r.In.size)) (X.nv p.1 r) (p.2 + r.Cost)), (by first | omega | (simp; done) | (simp; omega)), rfl, rfl, hS, by rw [hre]; exact hK.put hX ht2 (by rw [← hre]; exact h25_6) (by rw [← hre]; exact hpa), fun j hj => by unfold updF; rw [if_neg (by omega)]; exact hlow3 j hj⟩, ha.sub ⟨rfl, rfl, rfl, rfl, rfl, rfl, rfl, rfl, rfl, rfl, rfl, rfl, rfl, rfl, rfl, trivial⟩⟩
                    case m23 => omega
                  · skip
                    refine LW.ex rfl rfl rfl rfl (Ex.move rfl) hS.rd ?_
                    refine LW.skip rfl rfl rfl rfl ?_
                    refine LW.skip rfl rfl rfl rfl ?_
                    refine LW.skip rfl rfl rfl rfl ?_
                    refine LW.ex rfl rfl rfl rfl (by first | exact Ex.pick_yes rfl rfl | exact Ex.pick_no rfl rfl) hS.rd ?_
                    refine LW.nil fun aa ha => hK94 _ _ _ ?_ aa ha
                    refine CW.no rfl ?_
                    refine CW.skip fun aa ha => hK89 _ _ _ ?_ aa ha
                    refine CW.region [0, 1] rfl ?_
                    refine LW.ex rfl rfl rfl rfl (Ex.add rfl rfl (by first | exact inc64 (by omega) | exact addN (by omega) | exact w64 (by omega) (by omega))) hS.rd ?_
                    refine LW.ex rfl rfl rfl rfl (Ex.move rfl) hS.rd ?_
                    refine LW.nil fun aa ha => ?_
                    have hS := hS.drop 0 rfl
                    dsimp only [List.eraseIdx] at hS
                    have hS := hS.drop 0 rfl
                    dsimp only [List.eraseIdx] at hS
                    refine ⟨_, _, ?m23, ⟨t + 1, updF ms3 (i + r.In.size) (putM (ms3 (i + r.In.size)) (X.nv p.1 r) (p.2 + r.Cost)), (by first | omega | (simp; done) | (simp; omega)), rfl, rfl, hS, by rw [hre]; exact hK.put hX ht2 (by rw [← hre]; exact h25_6) (by rw [← hre]; exact hpa), fun j hj => by unfold updF; rw [if_neg (by omega)]; exact hlow3 j hj⟩, ha.sub ⟨rfl, rfl, rfl, rfl, rfl, rfl, rfl, rfl, rfl, rfl, rfl, rfl, rfl, rfl, rfl, trivial⟩⟩
                    case m23 => omega
                · skip
                  refine PW.ex rfl rfl rfl rfl (Ex.not rfl rfl) ?_
                  refine PW.ex rfl rfl rfl rfl (by first | exact Ex.pick_yes rfl rfl | exact Ex.pick_no rfl rfl) ?_
                  refine PW.nil ?_
                  refine LW.nil fun aa ha => hK93 _ _ _ ?_ aa ha
                  refine CW.yes rfl ?_
                  refine CW.exit fun aa ha => hK89 _ _ _ ?_ aa ha
                  refine CW.region [0, 1] rfl ?_
                  refine LW.ex rfl rfl rfl rfl (Ex.add rfl rfl (by first | exact inc64 (by omega) | exact addN (by omega) | exact w64 (by omega) (by omega))) hS.rd ?_
                  refine LW.ex rfl rfl rfl rfl (Ex.move rfl) hS.rd ?_
                  refine LW.nil fun aa ha => ?_
                  have hS := hS.drop 0 rfl
                  dsimp only [List.eraseIdx] at hS
                  have hS := hS.drop 0 rfl
                  dsimp only [List.eraseIdx] at hS
                  refine ⟨_, _, ?m23, ⟨t + 1, ms3, (by first | omega | (simp; done) | (simp; omega)), rfl, rfl, hS, hK.skip ht2 (fun _ h2 => by rw [← hre, ← pre_at r (by omega), h26_8] at h2; cases h2), hlow3⟩, ha.sub ⟨rfl, rfl, rfl, rfl, rfl, rfl, rfl, rfl, rfl, rfl, rfl, rfl, rfl, rfl, rfl, trivial⟩⟩
                  case m23 => omega
              · skip
                refine LW.hv rfl rfl rfl rfl (Hv.alloc ti74 hS) fun v w22 ⟨b22, hv, hb22, hS⟩ => ?_
                subst hv
                refine LW.hu rfl rfl rfl (Hv.storeN (k := 0) ti74 hS rfl rfl rfl rfl (by simp [Value.oneCell'])) fun _ w_8 hS => ?_
                dsimp only [List.set] at hS
                refine LW.ex rfl rfl rfl rfl (Ex.assign rfl) hS.rd ?_
                refine LW.nil fun aa ha => hK91 _ _ _ ?_ aa ha
                refine CW.seq fun K95 hK95 => ?_
                refine CW.seq fun K96 hK96 => ?_
                have hS := hS.drew
                refine CW.draw 11 (.ex 0 <| .ex 1 <| .ex 2 <| .ex 3 <| .ex 4 <| .ex 5 <| .ex 6 <| .ex 7 <| .one 8 <| .ex 9 <| .ex 10 <| .done) [] (Rd _ _) mixed (by kernel_rfl) rfl rfl hS.rd ?_
                refine PW.ex rfl rfl rfl rfl (Ex.move rfl) ?_
                refine PW.ex rfl rfl rfl rfl (Ex.not rfl rfl) ?_
                refine PW.ex rfl rfl rfl rfl (Ex.move rfl) ?_
                refine PW.skip rfl rfl rfl rfl ?_
                refine PW.skip rfl rfl rfl rfl ?_
                refine PW.skip rfl rfl rfl rfl ?_
                refine PW.skip rfl rfl rfl rfl ?_
                refine PW.skip rfl rfl rfl rfl ?_
                refine PW.skip1 rfl rfl rfl rfl ?_
                refine PW.skip rfl rfl rfl rfl ?_
                refine PW.ex rfl rfl rfl rfl (by first | exact Ex.pick_yes rfl rfl | exact Ex.pick_no rfl rfl) ?_
                refine PW.nil ?_
                refine LW.nil fun aa ha => hK96 _ _ _ ?_ aa ha
                refine CW.yes rfl ?_
                refine CW.exit fun aa ha => hK89 _ _ _ ?_ aa ha
                refine CW.region [0, 1] rfl ?_
                refine LW.ex rfl rfl rfl rfl (Ex.add rfl rfl (by first | exact inc64 (by omega) | exact addN (by omega) | exact w64 (by omega) (by omega))) hS.rd ?_
                refine LW.ex rfl rfl rfl rfl (Ex.move rfl) hS.rd ?_
                refine LW.nil fun aa ha => ?_
                have hS := hS.drop 0 rfl
                dsimp only [List.eraseIdx] at hS
                have hS := hS.drop 0 rfl
                dsimp only [List.eraseIdx] at hS
                refine ⟨_, _, ?m23, ⟨t + 1, ms3, (by first | omega | (simp; done) | (simp; omega)), rfl, rfl, hS, hK.skip ht2 (fun h1 _ => by rw [← hre, h25_6] at h1; cases h1), hlow3⟩, ha.sub ⟨rfl, rfl, rfl, rfl, rfl, rfl, rfl, rfl, rfl, rfl, rfl, rfl, rfl, rfl, rfl, trivial⟩⟩
                case m23 => omega
            · have h23_0 := of_decide_eq_false h23_0
              refine LW.nil fun aa ha => hK87 _ _ _ ?_ aa ha
              refine CW.seq fun K97 hK97 => ?_
              refine CW.no rfl ?_
              refine CW.exit fun aa ha => ?_
              have hS := hS.drop 0 rfl
              dsimp only [List.eraseIdx] at hS
              refine ⟨_, _, ?m18, ⟨left2.eraseIdx j2, kv3, none, ms3, rfl, rfl, hS, hK.done (by omega), fun q hq' => by rw [hlow3 i (Nat.le_refl _), ← hlow2 i (Nat.le_refl _)]; exact hks q ((List.eraseIdx_sublist _ _).subset hq'), fun q hq' => ((mem_erase_idx hj2 (hkl q ((hkv3 q).1 hq').1)).resolve_left fun e => ((hkv3 q).1 hq').2 (by rw [e])), hlow3⟩, ha.sub ⟨rfl, rfl, rfl, rfl, rfl, rfl, rfl, rfl, rfl, rfl, trivial⟩⟩
              case m18 => (rw [hq18]; exact er_lt hj2)
          · have hSl := hS
            obtain ⟨hl1, hl2⟩ := hF2 h18_1
            subst hl1 hl2
            have hS := hSl
            refine LW.nil fun aa ha => hK81 _ _ _ ?_ aa ha
            refine CW.seq fun K98 hK98 => ?_
            refine CW.no rfl ?_
            refine CW.exit fun aa ha => hK79 _ _ _ ?_ aa ha
            refine CW.seq fun K99 hK99 => ?_
            have hS := st_unrng hS 0 rfl
            dsimp only [List.set] at hS
            have hk20 : kv2 = [] := List.eq_nil_iff_forall_not_mem.2 fun p hp => by have := hkl p hp; simp at this
            subst hk20
            refine CW.region [0, 1, 2, 3, 4, 5, 6] rfl ?_
            refine LW.ex rfl rfl rfl rfl (Ex.move rfl) hS.rd ?_
            refine LW.ex rfl rfl rfl rfl (Ex.move rfl) hS.rd ?_
            refine LW.ex rfl rfl rfl rfl (Ex.indexSl Try.underlying70 ti78 rfl rfl rfl (by omega)) hS.rd ?_
            refine LW.ex rfl rfl rfl rfl (Ex.load1 ti78 rfl rfl (Rd.sl (k := 1) rfl (by rw [Nat.zero_add, Nat.mul_one]; exact cellsF_get hi2 hi2))) hS.rd ?_
            refine LW.ex rfl rfl rfl rfl (Ex.lenMap rfl Try.underlying78 (i + 3) (maps_get [_, _, _] hi2) rfl) hS.rd ?_
            refine LW.ex rfl rfl rfl rfl (Ex.move rfl) hS.rd ?_
            refine LW.ex rfl rfl rfl rfl (Ex.gtr rfl rfl rfl) hS.rd ?_
            refine LW.splitB (fun h30_6 => ?_) (fun h30_6 => ?_)
            · have h30_6 := of_decide_eq_true h30_6
              refine LW.nil fun aa ha => hK99 _ _ _ ?_ aa ha
              refine CW.yes rfl ?_
              refine CW.seq fun K100 hK100 => ?_
              refine CW.region [0, 1, 2] rfl ?_
              refine LW.ex rfl rfl rfl rfl (Ex.move rfl) hS.rd ?_
              refine LW.ex rfl rfl rfl rfl (Ex.assign rfl) hS.rd ?_
              refine LW.ex rfl rfl rfl rfl (Ex.assign rfl) hS.rd ?_
              refine LW.nil fun aa ha => hK100 _ _ _ ?_ aa ha
              refine CW.ret fun aa ha => ?_
              refine ret_two ha Try.results28 rfl rfl ?_
              have hS := (hS.drop 0 rfl).drop 1 rfl
              exact ⟨_, rfl, b27, false, ms2, bs, rfl, (by unfold WRes; rw [if_neg (by decide)]; exact ⟨i, by omega, hJ2.wi, by omega⟩), hS⟩
            · have h30_6 := of_decide_eq_false h30_6
              refine LW.nil fun aa ha => hK99 _ _ _ ?_ aa ha
              refine CW.no rfl ?_
              refine CW.skip fun aa ha => ?_
              refine ⟨_, _, ?m16, ⟨[], ms2, rfl, rfl, hS, hJ2, (fun p hp => by cases hp), hlow2⟩, ha.sub ⟨rfl, rfl, rfl, rfl, rfl, rfl, rfl, rfl, rfl, trivial⟩⟩
              case m16 => (rw [hq16]; simp only [List.length_nil]; omega)
        · have h16_2 := of_decide_eq_false h16_2
          refine LW.nil fun aa ha => hK78 _ _ _ ?_ aa ha
          refine CW.no rfl ?_
          refine CW.exit fun aa ha => hK76 _ _ _ ?_ aa ha
          refine CW.seq fun K101 hK101 => ?_
          have hk0 : kvw2 = [] := List.eq_nil_of_length_eq_zero (by omega)
          subst hk0
          refine CW.region [0, 1, 2, 3, 4, 5, 6] rfl ?_
          refine LW.ex rfl rfl rfl rfl (Ex.move rfl) hS.rd ?_
          refine LW.ex rfl rfl rfl rfl (Ex.move rfl) hS.rd ?_
          refine LW.ex rfl rfl rfl rfl (Ex.indexSl Try.underlying70 ti78 rfl rfl rfl (by omega)) hS.rd ?_
          refine LW.ex rfl rfl rfl rfl (Ex.load1 ti78 rfl rfl (Rd.sl (k := 1) rfl (by rw [Nat.zero_add, Nat.mul_one]; exact cellsF_get hi2 hi2))) hS.rd ?_
          refine LW.ex rfl rfl rfl rfl (Ex.lenMap rfl Try.underlying78 (i + 3) (maps_get [_, _, _] hi2) rfl) hS.rd ?_
          refine LW.ex rfl rfl rfl rfl (Ex.move rfl) hS.rd ?_
          refine LW.ex rfl rfl rfl rfl (Ex.gtr rfl rfl rfl) hS.rd ?_
          refine LW.splitB (fun h32_6 => ?_) (fun h32_6 => ?_)
          · have h32_6 := of_decide_eq_true h32_6
            refine LW.nil fun aa ha => hK101 _ _ _ ?_ aa ha
            refine CW.yes rfl ?_
            refine CW.seq fun K102 hK102 => ?_
            refine CW.region [0, 1, 2] rfl ?_
            refine LW.ex rfl rfl rfl rfl (Ex.move rfl) hS.rd ?_
            refine LW.ex rfl rfl rfl rfl (Ex.assign rfl) hS.rd ?_
            refine LW.ex rfl rfl rfl rfl (Ex.assign rfl) hS.rd ?_
            refine LW.nil fun aa ha => hK102 _ _ _ ?_ aa ha
            refine CW.ret fun aa ha => ?_
            refine ret_two ha Try.results28 rfl rfl ?_
            have hS := (hS.drop 0 rfl).drop 1 rfl
            exact ⟨_, rfl, b27, false, ms4, bs, rfl, (by unfold WRes; rw [if_neg (by decide)]; exact ⟨i, by omega, hJ.wi, by omega⟩), hS⟩
          · have h32_6 := of_decide_eq_false h32_6
            refine LW.nil fun aa ha => hK101 _ _ _ ?_ aa ha
            refine CW.no rfl ?_
            refine CW.skip fun aa ha => hK67 _ _ _ ?_ aa ha
            refine CW.region [0, 1] rfl ?_
            refine LW.ex rfl rfl rfl rfl (Ex.add rfl rfl (by first | exact inc64 (by omega) | exact addN (by omega) | exact w64 (by omega) (by omega))) hS.rd ?_
            refine LW.ex rfl rfl rfl rfl (Ex.move rfl) hS.rd ?_
            refine LW.nil fun aa ha => ?_
            have hS := hS.drop 0 rfl
            dsimp only [List.eraseIdx] at hS
            refine ⟨_, _, ?m9, ⟨i + 1, ms4, (by first | omega | (simp; done) | (simp; omega)), rfl, rfl, hS, hJ.done, fun j hj => if e : j = i then (by subst e; omega) else (by rw [hlow j (by omega)]; exact hlen j (by omega))⟩, ha.sub ⟨rfl, rfl, rfl, rfl, rfl, rfl, rfl, trivial⟩⟩
            case m9 => (rw [hq9]; omega)
    · have h9_0 := of_decide_eq_false h9_0
      refine LW.nil fun aa ha => hK65 _ _ _ ?_ aa ha
      refine CW.seq fun K103 hK103 => ?_
      refine CW.no rfl ?_
      refine CW.exit fun aa ha => hK63 _ _ _ ?_ aa ha
      refine CW.seq fun K104 hK104 => ?_
      refine CW.region [0, 1, 2] rfl ?_
      refine LW.ex rfl rfl rfl rfl (Ex.move rfl) hS.rd ?_
      refine LW.ex rfl rfl rfl rfl (Ex.assign rfl) hS.rd ?_
      refine LW.ex rfl rfl rfl rfl (Ex.assign rfl) hS.rd ?_
      refine LW.nil fun aa ha => hK104 _ _ _ ?_ aa ha
      refine CW.ret fun aa ha => ?_
      refine ret_two ha Try.results28 rfl rfl ?_
      have hiN : i = N := by omega
      have hS := hS.drop 1 rfl
      exact ⟨_, rfl, b27, true, ms, bs, rfl, (by unfold WRes; rw [if_pos rfl]; exact ⟨by rw [← hN, ← hiN]; exact hW, fun j hj => hlen j (by omega)⟩), hS⟩
end Go.Proofs.Ytgbdfgifgngijaa

/-
  Output: the walk of output.walk for modes alone.
-/
namespace Go.Proofs.Ytgbdfgifgngijaa
open Go.RowKit Sy Go.Maps

set_option maxRecDepth 100000 in
set_option maxHeartbeats 4000000 in
theorem walkI_m {w0 w : World} {μ : Mem} {L : List Own} (X : WX (Fin 8)) (hX : Takes X) (lim : Int) (fn : Nat) (hC : Callable Try.prog fn) (hS : St w0 w μ L) (ar : Option Addr) (cr : Nat) (hr : Sl μ ar cr X.rules) (hrl : X.rules.length ≤ 64) (hin : X.inp.size ≤ 40) (hrs : ∀ r ∈ X.rules, RSmall r)
    (hnx : ∀ p k c, Rt X p k c → ∀ r ∈ X.rules, ∀ w', Imm μ w' → Calls Try.prog fn #[kmV k, ruleV r] w' (RetS w' (.tuple #[kmV (X.nv k r), .bool (X.ft k r)]))) :
    Calls Try.prog 41 #[.string X.inp, .slice ar X.rules.length cr, .int .i64 lim, .int .i64 (X.first.val : Nat), .func (.func fn) #[] #[]] w (RetM fun v w' => ∃ g ok ms bs, v = .tuple #[.slice (some ⟨g, 0, none⟩) (X.inp.size + 1) (X.inp.size + 1), .bool ok] ∧ WRes X ms lim ok ∧
      St w0 w' μ (Own.sl (some ⟨g, 0, none⟩) (X.inp.size + 1) (X.inp.size + 1) 103 1 (cellsF bs (X.inp.size + 1) (X.inp.size + 1)) :: (mapsO kmV iV bs ms (X.inp.size + 1) ++ L))) := by
  obtain ⟨N, hN⟩ : ∃ N, N = X.inp.size + 1 := ⟨_, rfl⟩
  have hN0 : 0 < N := by omega
  rw [← hN]
  refine calls_start 143 [.string X.inp, .slice ar X.rules.length cr, .int .i64 lim, .int .i64 (X.first.val : Nat), .func (.func fn) #[] #[]] Try.func41 rfl Try.ntmps41 rfl rfl ?_
  refine CW.seq fun K1 hK1 => ?_
  refine CW.region [0, 1] rfl ?_
  refine LW.ex rfl rfl rfl rfl (Ex.assign rfl) hS.rd ?_
  refine LW.ex rfl rfl rfl rfl (Ex.assign rfl) hS.rd ?_
  refine LW.nil fun aa ha => hK1 _ _ _ ?_ aa ha
  refine CW.seq fun K2 hK2 => ?_
  refine CW.region [0, 1, 2, 3, 4] rfl ?_
  refine LW.ex rfl rfl rfl rfl (Ex.move rfl) hS.rd ?_
  refine LW.ex rfl rfl rfl rfl (Ex.lenS rfl Try.underlying9 rfl) hS.rd ?_
  refine LW.ex rfl rfl rfl rfl (Ex.add (r := (N : Int)) rfl rfl (by rw [Sy.w64 (by omega) (by omega)]; omega)) hS.rd ?_
  refine LW.hv rfl rfl rfl rfl (Hv.makeSlice Try.underlying99 ti103 hS rfl rfl rfl rfl (by omega) (by unfold maxLen; omega)) fun v w27 ⟨b27, hv, hb27, hS⟩ => ?_
  subst hv
  rw [show (madeCells (Value.cells (.map none)) (N * 1)).toList = cellsF (fun _ => 0) 0 N by rw [Nat.mul_one, show Value.cells (.map none) = #[.map none] from rfl, toList_madeCells_one, cellsF_zero]] at hS
  refine LW.ex rfl rfl rfl rfl (Ex.assign rfl) hS.rd ?_
  refine LW.nil fun aa ha => hK2 _ _ _ ?_ aa ha
  refine CW.seq fun K3 hK3 => ?_
  refine CW.seq fun K4 hK4 => ?_
  refine CW.region [0, 1, 2] rfl ?_
  refine LW.ex rfl rfl rfl rfl (Ex.move rfl) hS.rd ?_
  refine LW.ex rfl rfl rfl rfl (Ex.lenSl rfl Try.underlying99 rfl) hS.rd ?_
  refine LW.ex rfl rfl rfl rfl (Ex.move rfl) hS.rd ?_
  refine LW.nil fun aa ha => hK4 _ _ _ ?_ aa ha
  refine CW.block ?_
  refine CW.loop (fun qq frm wl3 => ∃ (j : Nat) (bs : Nat → Nat), j ≤ N ∧ qq = N - j ∧ frm = [(0, .string X.inp), (1, .slice ar X.rules.length cr), (2, .int .i64 lim), (3, .int .i64 (X.first.val : Nat)), (4, .func (.func fn) #[] #[]), (12, .slice (some ⟨b27, 0, none⟩) N N), (29, .int .i64 N), (30, .int .i64 j)] ∧ St w0 wl3 μ (Own.sl (some ⟨b27, 0, none⟩) N N 103 1 (cellsF bs j N) :: (mapsO kmV iV bs (fun _ => []) j ++ L))) _ ⟨0, fun _ => 0, (by first | omega | (simp; done) | (simp; omega)), rfl, rfl, hS⟩ ⟨rfl, rfl, rfl, rfl, rfl, rfl, rfl, rfl, trivial⟩ ?_
  clear hS
  rintro qq frm wl3 ⟨j, bs, hj, hq, rfl, hS⟩
  refine CW.seq fun K5 hK5 => ?_
  refine CW.region [0] rfl ?_
  refine LW.ex rfl rfl rfl rfl (Ex.lss rfl rfl rfl) hS.rd ?_
  refine LW.splitB (fun h3_0 => ?_) (fun h3_0 => ?_)
  · have h3_0 := of_decide_eq_true h3_0
    refine LW.nil fun aa ha => hK5 _ _ _ ?_ aa ha
    refine CW.seq fun K6 hK6 => ?_
    refine CW.yes rfl ?_
    refine CW.skip fun aa ha => hK6 _ _ _ ?_ aa ha
    refine CW.seq fun K7 hK7 => ?_
    refine CW.block ?_
    refine CW.seq fun K8 hK8 => ?_
    refine CW.region [0, 1] rfl ?_
    refine LW.ex rfl rfl rfl rfl (Ex.move rfl) hS.rd ?_
    refine LW.ex rfl rfl rfl rfl (Ex.assign rfl) hS.rd ?_
    refine LW.nil fun aa ha => hK8 _ _ _ ?_ aa ha
    have hov : 0 + j * 1 < (cellsF bs j N).length := by rw [cellsF_len]; omega
    refine CW.region [0, 1, 2, 3, 4] rfl ?_
    refine LW.ex rfl rfl rfl rfl (Ex.move rfl) hS.rd ?_
    refine LW.ex rfl rfl rfl rfl (Ex.move rfl) hS.rd ?_
    refine LW.hv rfl rfl rfl rfl (Hv.makeMap kmV iV hS) fun v w35 ⟨b35, hv, hb35, hS⟩ => ?_
    subst hv
    refine LW.ex rfl rfl rfl rfl (Ex.indexSl Try.underlying99 ti103 rfl rfl rfl (by omega)) hS.rd ?_
    refine LW.hu rfl rfl rfl (Hv.storeSl (k := 1) ti103 hS rfl rfl rfl rfl (by first | assumption | (simp; done) | omega | exact Nat.zero_lt_succ _)) fun _ w_4 hS => ?_
    dsimp only [List.set] at hS
    rw [Nat.zero_add, Nat.mul_one, cellsF_set] at hS
    refine LW.nil fun aa ha => hK7 _ _ _ ?_ aa ha
    refine CW.region [0, 1] rfl ?_
    refine LW.ex rfl rfl rfl rfl (Ex.add rfl rfl (by first | exact inc64 (by omega) | exact addN (by omega) | exact w64 (by omega) (by omega))) hS.rd ?_
    refine LW.ex rfl rfl rfl rfl (Ex.move rfl) hS.rd ?_
    refine LW.nil fun aa ha => ?_
    have hS := st_perm' hS perm_in1
    rw [mapsO_snoc, show updF (fun _ => ([] : List (Fin 8 × Int))) j [] = fun _ => [] by funext q; unfold updF; split <;> rfl] at hS
    refine ⟨_, _, ?m3, ⟨j + 1, updF bs j b35, (by first | omega | (simp; done) | (simp; omega)), rfl, rfl, hS⟩, ha.sub ⟨rfl, rfl, rfl, rfl, rfl, rfl, rfl, rfl, trivial⟩⟩
    case m3 => omega
  · have h3_0 := of_decide_eq_false h3_0
    refine LW.nil fun aa ha => hK5 _ _ _ ?_ aa ha
    refine CW.seq fun K9 hK9 => ?_
    refine CW.no rfl ?_
    refine CW.exit fun aa ha => hK3 _ _ _ ?_ aa ha
    refine CW.seq fun K10 hK10 => ?_
    have hjN : N = j := by omega
    subst hjN
    refine CW.region [0, 1, 2] rfl ?_
    refine LW.ex rfl rfl rfl rfl (Ex.move rfl) hS.rd ?_
    refine LW.ex rfl rfl rfl rfl (Ex.move rfl) hS.rd ?_
    refine LW.hv rfl rfl rfl rfl (Hv.callM rfl rfl rfl cb62 (putI_m (a := 0) (c := 0 + 1) [] X.first 0 0 hS rfl (cellsF_get hN0 hN0) hN0 (by omega) (maps_get [_] hN0))) fun v w40 ⟨hv, hS⟩ => ?_
    subst hv
    have hS := st_maps [_] hN0 hS
    try dsimp only [List.cons_append, List.nil_append] at hS
    refine LW.nil fun aa ha => hK10 _ _ _ ?_ aa ha
    refine CW.seq fun K11 hK11 => ?_
    refine CW.seq fun K12 hK12 => ?_
    refine CW.region [0, 1, 2] rfl ?_
    refine LW.ex rfl rfl rfl rfl (Ex.move rfl) hS.rd ?_
    refine LW.ex rfl rfl rfl rfl (Ex.lenSl rfl Try.underlying99 rfl) hS.rd ?_
    refine LW.ex rfl rfl rfl rfl (Ex.move rfl) hS.rd ?_
    refine LW.nil fun aa ha => hK12 _ _ _ ?_ aa ha
    refine CW.block ?_
    refine CW.loop (fun qq frm wl9 => ∃ (i : Nat) (ms : Nat → List (Fin 8 × Int)), i ≤ N ∧ qq = N - i ∧ frm = [(0, .string X.inp), (1, .slice ar X.rules.length cr), (2, .int .i64 lim), (4, .func (.func fn) #[] #[]), (12, .slice (some ⟨b27, 0, none⟩) N N), (42, .int .i64 N), (43, .int .i64 i)] ∧ St w0 wl9 μ (Own.sl (some ⟨b27, 0, none⟩) N N 103 1 (cellsF bs N N) :: (mapsO kmV iV bs ms N ++ L)) ∧ (WI X ms i) ∧ (∀ j, j < i → ((ms j).length : Int) ≤ lim)) _ ⟨0, updF (fun _ => []) 0 (putM [] X.first 0), (by first | omega | (simp; done) | (simp; omega)), rfl, rfl, hS, WI.init X, fun j h => by omega⟩ ⟨rfl, rfl, rfl, rfl, rfl, rfl, rfl, trivial⟩ ?_
    clear hS
    rintro qq frm wl9 ⟨i, ms, hi, hq, rfl, hS, hW, hlen⟩
    refine CW.seq fun K13 hK13 => ?_
    refine CW.region [0] rfl ?_
    refine LW.ex rfl rfl rfl rfl (Ex.lss rfl rfl rfl) hS.rd ?_
    refine LW.splitB (fun h9_0 => ?_) (fun h9_0 => ?_)
    · have h9_0 := of_decide_eq_true h9_0
      refine LW.nil fun aa ha => hK13 _ _ _ ?_ aa ha
      refine CW.seq fun K14 hK14 => ?_
      refine CW.yes rfl ?_
      refine CW.skip fun aa ha => hK14 _ _ _ ?_ aa ha
      refine CW.seq fun K15 hK15 => ?_
      refine CW.block ?_
      refine CW.seq fun K16 hK16 => ?_
      have hi2 : i < N := by omega
      have hq9 := hq
      refine CW.region [0, 1] rfl ?_
      refine LW.ex rfl rfl rfl rfl (Ex.move rfl) hS.rd ?_
      refine LW.ex rfl rfl rfl rfl (Ex.assign rfl) hS.rd ?_
      refine LW.nil fun aa ha => hK16 _ _ _ ?_ aa ha
      refine CW.seq fun K17 hK17 => ?_
      refine CW.region [0, 1] rfl ?_
      refine LW.hv rfl rfl rfl rfl (Hv.makeMap kmV iV hS) fun v w46 ⟨b46, hv, hb46, hS⟩ => ?_
      subst hv
      refine LW.ex rfl rfl rfl rfl (Ex.assign rfl) hS.rd ?_
      refine LW.nil fun aa ha => hK17 _ _ _ ?_ aa ha
      refine CW.seq fun K18 hK18 => ?_
      refine CW.seq fun K19 hK19 => ?_
      have hnd := st_nodup hS (maps_get [_, _] hi2)
      refine CW.region [0, 1, 2, 3, 4] rfl ?_
      refine LW.ex rfl rfl rfl rfl (Ex.move rfl) hS.rd ?_
      refine LW.ex rfl rfl rfl rfl (Ex.move rfl) hS.rd ?_
      refine LW.ex rfl rfl rfl rfl (Ex.indexSl Try.underlying99 ti103 rfl rfl rfl (by omega)) hS.rd ?_
      refine LW.ex rfl rfl rfl rfl (Ex.load1 ti103 rfl rfl (Rd.sl (k := 1) rfl (by rw [Nat.zero_add, Nat.mul_one]; exact cellsF_get hi2 hi2))) hS.rd ?_
      refine LW.hv rfl rfl rfl rfl (Hv.range Try.underlying103 (i + 2) hS (maps_get [_, _] hi2) rfl) fun v w51 ⟨r51, hv, hr51, hS⟩ => ?_
      subst hv
      have hS := st_rng0 [_, _] _ hi2 hS
      refine LW.nil fun aa ha => hK19 _ _ _ ?_ aa ha
      refine CW.block ?_
      refine CW.loop (fun qq frm wl13 => ∃ (left kvw : List (Fin 8 × Int)) (cur : Option (Fin 8 × Int)), qq = left.length ∧ frm = [(0, .string X.inp), (1, .slice ar X.rules.length cr), (2, .int .i64 lim), (4, .func (.func fn) #[] #[]), (12, .slice (some ⟨b27, 0, none⟩) N N), (14, .int .i64 i), (15, .map (some b46)), (42, .int .i64 N), (43, .int .i64 i), (51, .pointer (some ⟨r51, 0, none⟩))] ∧ St w0 wl13 μ (Own.mp kmV iV b46 kvw :: Own.sl (some ⟨b27, 0, none⟩) N N 103 1 (cellsF bs N N) :: ((mapsO kmV iV bs ms N).set i (Own.rng kmV iV (bs i) r51 (ms i) left cur) ++ L)) ∧ (Cp (ms i) left kvw)) _ ⟨ms i, [], none, rfl, rfl, hS, Cp.start _⟩ ⟨rfl, rfl, rfl, rfl, rfl, rfl, rfl, rfl, rfl, rfl, trivial⟩ ?_
      clear hS
      rintro qq frm wl13 ⟨left, kvw, cur, hq, rfl, hS, hcp⟩
      refine CW.seq fun K20 hK20 => ?_
      refine CW.region [0, 1] rfl ?_
      refine LW.hv rfl rfl rfl rfl (Hv.nextAny (i + 2) hS (rng_get [_, _] _ hi2) rfl) fun v w52 ⟨bo, rest, left', cur', hv, hF, hT, hS⟩ => ?_
      subst hv
      have hS := st_rng1 [_, _] _ _ hi2 hS
      refine LW.ex rfl rfl rfl rfl (extract0 rfl) hS.rd ?_
      refine LW.splitB (fun h13_1 => ?_) (fun h13_1 => ?_)
      · obtain ⟨jj, p, hj, hl2, hc2⟩ := hT h13_1
        subst hl2 hc2
        refine LW.nil fun aa ha => hK20 _ _ _ ?_ aa ha
        refine CW.seq fun K21 hK21 => ?_
        refine CW.yes rfl ?_
        refine CW.skip fun aa ha => hK21 _ _ _ ?_ aa ha
        refine CW.block ?_
        refine CW.seq fun K22 hK22 => ?_
        refine CW.region [0, 1, 2, 3, 4] rfl ?_
        refine LW.ex rfl rfl rfl rfl (Ex.entry (i + 2) (rng_get [_, _] _ hi2) rfl) hS.rd ?_
        refine LW.ex rfl rfl rfl rfl (Ex.extract rfl rfl) hS.rd ?_
        refine LW.ex rfl rfl rfl rfl (Ex.extract rfl rfl) hS.rd ?_
        refine LW.ex rfl rfl rfl rfl (Ex.assign rfl) hS.rd ?_
        refine LW.ex rfl rfl rfl rfl (Ex.assign rfl) hS.rd ?_
        refine LW.nil fun aa ha => hK22 _ _ _ ?_ aa ha
        refine CW.region [0, 1, 2, 3] rfl ?_
        refine LW.ex rfl rfl rfl rfl (Ex.move rfl) hS.rd ?_
        refine LW.ex rfl rfl rfl rfl (Ex.move rfl) hS.rd ?_
        refine LW.ex rfl rfl rfl rfl (Ex.move rfl) hS.rd ?_
        refine LW.hu rfl rfl rfl (Hv.mapUpdate (a := p.1) (c := p.2) Try.underlying103 encKM 0 hS rfl rfl rfl rfl) fun _ w_3 hS => ?_
        try dsimp only [List.set] at hS
        refine LW.nil fun aa ha => ?_
        refine ⟨_, _, ?m13, ⟨left.eraseIdx jj, aset kvw p.1 p.2, some p, rfl, rfl, hS, hcp.step hnd hj⟩, ha.sub ⟨rfl, rfl, rfl, rfl, rfl, rfl, rfl, rfl, rfl, rfl, trivial⟩⟩
        case m13 => (rw [hq]; exact er_lt hj)
      · have hSl := hS
        obtain ⟨hl1, hl2⟩ := hF h13_1
        subst hl1 hl2
        have hS := hSl
        refine LW.nil fun aa ha => hK20 _ _ _ ?_ aa ha
        refine CW.seq fun K23 hK23 => ?_
        refine CW.no rfl ?_
        refine CW.exit fun aa ha => hK18 _ _ _ ?_ aa ha
        refine CW.seq fun K24 hK24 => ?_
        refine CW.block ?_
        have hS := st_unrngM [_, _] hi2 hS
        have hkk := hcp.keys
        have hss := hcp.sub hnd
        refine CW.loop (fun qq frm wl16 => ∃ (kvw2 : List (Fin 8 × Int)) (ms4 : Nat → List (Fin 8 × Int)), qq = kvw2.length ∧ frm = [(0, .string X.inp), (1, .slice ar X.rules.length cr), (2, .int .i64 lim), (4, .func (.func fn) #[] #[]), (12, .slice (some ⟨b27, 0, none⟩) N N), (14, .int .i64 i), (15, .map (some b46)), (42, .int .i64 N), (43, .int .i64 i)] ∧ St w0 wl16 μ (Own.mp kmV iV b46 kvw2 :: Own.sl (some ⟨b27, 0, none⟩) N N 103 1 (cellsF bs N N) :: (mapsO kmV iV bs ms4 N ++ L)) ∧ (WJ X ms4 i (kvw2.map Prod.fst)) ∧ (∀ p ∈ kvw2, aget (ms4 i) p.1 = some p.2) ∧ (∀ j, j ≤ i → ms4 j = ms j)) _ ⟨kvw, ms, rfl, rfl, hS, WJ.start hW hkk, hss, fun j _ => rfl⟩ ⟨rfl, rfl, rfl, rfl, rfl, rfl, rfl, rfl, rfl, trivial⟩ ?_
        clear hS
        rintro qq frm wl16 ⟨kvw2, ms4, hq, rfl, hS, hJ, hss2, hlow⟩
        refine CW.seq fun K25 hK25 => ?_
        refine CW.seq fun K26 hK26 => ?_
        refine CW.region [0, 1, 2] rfl ?_
        refine LW.ex rfl rfl rfl rfl (Ex.move rfl) hS.rd ?_
        refine LW.ex rfl rfl rfl rfl (Ex.lenMap rfl Try.underlying103 0 rfl rfl) hS.rd ?_
        refine LW.ex rfl rfl rfl rfl (Ex.gtr rfl rfl rfl) hS.rd ?_
        refine LW.splitB (fun h16_2 => ?_) (fun h16_2 => ?_)
        · have h16_2 := of_decide_eq_true h16_2
          refine LW.nil fun aa ha => hK26 _ _ _ ?_ aa ha
          refine CW.yes rfl ?_
          refine CW.skip fun aa ha => hK25 _ _ _ ?_ aa ha
          refine CW.block ?_
          refine CW.seq fun K27 hK27 => ?_
          refine CW.seq fun K28 hK28 => ?_
          have hq16 := hq
          refine CW.region [0, 1] rfl ?_
          refine LW.ex rfl rfl rfl rfl (Ex.move rfl) hS.rd ?_
          refine LW.hv rfl rfl rfl rfl (Hv.range Try.underlying103 0 hS rfl rfl) fun v w64 ⟨r64, hv, hr64, hS⟩ => ?_
          subst hv
          dsimp only [List.set] at hS
          refine LW.nil fun aa ha => hK28 _ _ _ ?_ aa ha
          refine CW.block ?_
          refine CW.loop (fun qq frm wl18 => ∃ (left2 kv2 : List (Fin 8 × Int)) (cur2 : Option (Fin 8 × Int)) (ms2 : Nat → List (Fin 8 × Int)), qq = left2.length ∧ frm = [(0, .string X.inp), (1, .slice ar X.rules.length cr), (2, .int .i64 lim), (4, .func (.func fn) #[] #[]), (12, .slice (some ⟨b27, 0, none⟩) N N), (14, .int .i64 i), (15, .map (some b46)), (42, .int .i64 N), (43, .int .i64 i), (64, .pointer (some ⟨r64, 0, none⟩))] ∧ St w0 wl18 μ (Own.rng kmV iV b46 r64 kv2 left2 cur2 :: Own.sl (some ⟨b27, 0, none⟩) N N 103 1 (cellsF bs N N) :: (mapsO kmV iV bs ms2 N ++ L)) ∧ (WJ X ms2 i (left2.map Prod.fst)) ∧ (∀ p ∈ left2, aget (ms2 i) p.1 = some p.2) ∧ (∀ p ∈ kv2, p ∈ left2) ∧ (∀ j, j ≤ i → ms2 j = ms j)) _ ⟨kvw2, kvw2, none, ms4, rfl, rfl, hS, hJ, hss2, fun p hp => hp, hlow⟩ ⟨rfl, rfl, rfl, rfl, rfl, rfl, rfl, rfl, rfl, rfl, trivial⟩ ?_
          clear hS
          rintro qq frm wl18 ⟨left2, kv2, cur2, ms2, hq, rfl, hS, hJ2, hks, hkl, hlow2⟩
          refine CW.seq fun K29 hK29 => ?_
          refine CW.region [0, 1] rfl ?_
          refine LW.hv rfl rfl rfl rfl (Hv.nextAny 0 hS rfl rfl) fun v w65 ⟨bo2, rest2, left3, cur3, hv, hF2, hT2, hS⟩ => ?_
          subst hv
          dsimp only [List.set] at hS
          refine LW.ex rfl rfl rfl rfl (extract0 rfl) hS.rd ?_
          refine LW.splitB (fun h18_1 => ?_) (fun h18_1 => ?_)
          · have hq18 := hq
            obtain ⟨j2, p, hj2, hl3, hc3⟩ := hT2 h18_1
            subst hl3 hc3
            have hpk := hks p (List.mem_of_getElem? hj2)
            refine LW.nil fun aa ha => hK29 _ _ _ ?_ aa ha
            refine CW.seq fun K30 hK30 => ?_
            refine CW.yes rfl ?_
            refine CW.skip fun aa ha => hK30 _ _ _ ?_ aa ha
            refine CW.block ?_
            refine CW.seq fun K31 hK31 => ?_
            refine CW.region [0, 1, 2] rfl ?_
            refine LW.ex rfl rfl rfl rfl (Ex.entry 0 rfl rfl) hS.rd ?_
            refine LW.ex rfl rfl rfl rfl (Ex.extract rfl rfl) hS.rd ?_
            refine LW.ex rfl rfl rfl rfl (Ex.assign rfl) hS.rd ?_
            refine LW.nil fun aa ha => hK31 _ _ _ ?_ aa ha
            refine CW.seq fun K32 hK32 => ?_
            refine CW.region [0, 1, 2] rfl ?_
            refine LW.ex rfl rfl rfl rfl (Ex.move rfl) hS.rd ?_
            refine LW.ex rfl rfl rfl rfl (Ex.move rfl) hS.rd ?_
            refine LW.hu rfl rfl rfl (Hv.deleteCur (a := p.1) (c := p.2) rfl Try.underlying103 encKM 0 hS rfl rfl rfl) fun _ w_2 ⟨kv3, hkv3, hS⟩ => ?_
            try dsimp only [List.set] at hS
            refine LW.nil fun aa ha => hK32 _ _ _ ?_ aa ha
            refine CW.seq fun K33 hK33 => ?_
            refine CW.region [0, 1, 2, 3, 4, 5, 6] rfl ?_
            refine LW.ex rfl rfl rfl rfl (Ex.move rfl) hS.rd ?_
            refine LW.ex rfl rfl rfl rfl (Ex.move rfl) hS.rd ?_
            refine LW.ex rfl rfl rfl rfl (Ex.indexSl Try.underlying99 ti103 rfl rfl rfl (by omega)) hS.rd ?_
            refine LW.ex rfl rfl rfl rfl (Ex.load1 ti103 rfl rfl (Rd.sl (k := 1) rfl (by rw [Nat.zero_add, Nat.mul_one]; exact cellsF_get hi2 hi2))) hS.rd ?_
            refine LW.ex rfl rfl rfl rfl (Ex.move rfl) hS.rd ?_
            refine LW.ex rfl rfl rfl rfl (Ex.lookup1_some (a := p.1) Try.underlying103 ti3 encKM (i + 2) (maps_get [_, _] hi2) rfl rfl hpk) hS.rd ?_
            refine LW.ex rfl rfl rfl rfl (Ex.assign rfl) hS.rd ?_
            refine LW.nil fun aa ha => hK33 _ _ _ ?_ aa ha
            refine CW.seq fun K34 hK34 => ?_
            refine CW.region [0, 1, 2] rfl ?_
            refine LW.ex rfl rfl rfl rfl (Ex.move rfl) hS.rd ?_
            refine LW.ex rfl rfl rfl rfl (Ex.lenSl rfl Try.underlying27 rfl) hS.rd ?_
            refine LW.ex rfl rfl rfl rfl (Ex.move rfl) hS.rd ?_
            refine LW.nil fun aa ha => hK34 _ _ _ ?_ aa ha
            refine CW.block ?_
            refine CW.loop (fun qq frm wl23 => ∃ (t : Nat) (ms3 : Nat → List (Fin 8 × Int)), t ≤ X.rules.length ∧ qq = X.rules.length - t ∧ frm = [(0, .string X.inp), (1, .slice ar X.rules.length cr), (2, .int .i64 lim), (4, .func (.func fn) #[] #[]), (12, .slice (some ⟨b27, 0, none⟩) N N), (14, .int .i64 i), (15, .map (some b46)), (18, .int .i64 (p.1.val : Nat)), (19, .int .i64 p.2), (42, .int .i64 N), (43, .int .i64 i), (64, .pointer (some ⟨r64, 0, none⟩)), (77, .slice ar X.rules.length cr), (78, .int .i64 X.rules.length), (79, .int .i64 t)] ∧ St w0 wl23 μ (Own.rng kmV iV b46 r64 kv3 (left2.eraseIdx j2) none :: Own.sl (some ⟨b27, 0, none⟩) N N 103 1 (cellsF bs N N) :: (mapsO kmV iV bs ms3 N ++ L)) ∧ (WK X ms3 i ((left2.eraseIdx j2).map Prod.fst) p.1 p.2 t) ∧ (∀ j, j ≤ i → ms3 j = ms j)) _ ⟨0, ms2, (by first | omega | (simp; done) | (simp; omega)), rfl, rfl, hS, WK.start hJ2 hpk (not_mem_map hj2), hlow2⟩ ⟨rfl, rfl, rfl, rfl, rfl, rfl, rfl, rfl, rfl, rfl, rfl, rfl, rfl, rfl, rfl, trivial⟩ ?_
            clear hS
            rintro qq frm wl23 ⟨t, ms3, ht, hq, rfl, hS, hK, hlow3⟩
            refine CW.seq fun K35 hK35 => ?_
            refine CW.region [0] rfl ?_
            refine LW.ex rfl rfl rfl rfl (Ex.lss rfl rfl rfl) hS.rd ?_
            refine LW.splitB (fun h23_0 => ?_) (fun h23_0 => ?_)
            · have h23_0 := of_decide_eq_true h23_0
              refine LW.nil fun aa ha => hK35 _ _ _ ?_ aa ha
              refine CW.seq fun K36 hK36 => ?_
              refine CW.yes rfl ?_
              refine CW.skip fun aa ha => hK36 _ _ _ ?_ aa ha
              refine CW.seq fun K37 hK37 => ?_
              refine CW.block ?_
              refine CW.seq fun K38 hK38 => ?_
              have ht2 : t < X.rules.length := by omega
              have hTk := hX _ (List.getElem_mem ht2)
              have hR := hK.wi.snd i p.1 p.2 hK.at_
              have hcost := hR.cost hX
              have hsm := hrs _ (List.getElem_mem ht2)
              have hSl := hS
              obtain ⟨bl', ol, rfl, k0, k1, k2, k3, k4⟩ := hr.at ht2
              have hS := hSl
              obtain ⟨r, hre⟩ : ∃ r, r = X.rules[t] := ⟨_, rfl⟩
              rw [← hre] at k0 k1 k2 k3 k4 hTk hsm
              refine CW.region [0, 1, 2, 3] rfl ?_
              refine LW.ex rfl rfl rfl rfl (Ex.indexSl Try.underlying27 ti58 rfl rfl rfl (by omega)) hS.rd ?_
              refine LW.ex rfl rfl rfl rfl (Ex.load5c ti58 rfl rfl (by first | exact obT rfl | exact Rd.imm ‹_› | exact slT ‹_›) (by first | exact obT rfl | exact Rd.imm ‹_› | exact slT ‹_›) (by first | exact obT rfl | exact Rd.imm ‹_› | exact slT ‹_›) (by first | exact obT rfl | exact Rd.imm ‹_› | exact slT ‹_›) (by first | exact obT rfl | exact Rd.imm ‹_› | exact slT ‹_›)) hS.rd ?_
              refine LW.hv rfl rfl rfl rfl (Hv.alloc ti58 hS) fun v w21 ⟨b21, hv, hb21, hS⟩ => ?_
              subst hv
              refine LW.hu rfl rfl rfl (Hv.storeN (k := 0) ti58 hS rfl rfl rfl rfl (by simp [Value.oneCell'])) fun _ w_3 hS => ?_
              dsimp only [List.set] at hS
              refine LW.nil fun aa ha => hK38 _ _ _ ?_ aa ha
              refine CW.seq fun K39 hK39 => ?_
              refine CW.region [0, 1, 2, 3, 4, 5, 6, 7, 8] rfl ?_
              refine LW.ex rfl rfl rfl rfl (Ex.move rfl) hS.rd ?_
              refine LW.ex rfl rfl rfl rfl (Ex.move rfl) hS.rd ?_
              refine LW.ex rfl rfl rfl rfl (Ex.load5c ti58 rfl rfl (by first | exact obT rfl | exact Rd.imm ‹_› | exact slT ‹_›) (by first | exact obT rfl | exact Rd.imm ‹_› | exact slT ‹_›) (by first | exact obT rfl | exact Rd.imm ‹_› | exact slT ‹_›) (by first | exact obT rfl | exact Rd.imm ‹_› | exact slT ‹_›) (by first | exact obT rfl | exact Rd.imm ‹_› | exact slT ‹_›)) hS.rd ?_
              refine LW.hv rfl rfl rfl rfl (Hv.callS hS rfl rfl rfl hC (hnx i p.1 p.2 hR r (by rw [hre]; exact List.getElem_mem ht2) _ hS.imm)) fun v w87 ⟨hv, hS⟩ => ?_
              subst hv
              refine LW.ex rfl rfl rfl rfl (Ex.move rfl) hS.rd ?_
              refine LW.ex rfl rfl rfl rfl (Ex.extract rfl rfl) hS.rd ?_
              refine LW.ex rfl rfl rfl rfl (Ex.extract rfl rfl) hS.rd ?_
              refine LW.splitB (fun h25_6 => ?_) (fun h25_6 => ?_)
              · skip
                refine LW.ex rfl rfl rfl rfl (Ex.assign rfl) hS.rd ?_
                refine LW.ex rfl rfl rfl rfl (Ex.assign rfl) hS.rd ?_
                refine LW.nil fun aa ha => hK39 _ _ _ ?_ aa ha
                refine CW.seq fun K40 hK40 => ?_
                refine CW.seq fun K41 hK41 => ?_
                have hS := hS.drew
                refine CW.draw 11 (.ex 0 <| .ex 1 <| .ex 2 <| .ex 3 <| .ex 4 <| .ex 5 <| .ex 6 <| .ex 7 <| .one 8 <| .ex 9 <| .ex 10 <| .done) [] (Rd _ _) mixed (by kernel_rfl) rfl rfl hS.rd ?_
                refine PW.ex rfl rfl rfl rfl (Ex.move rfl) ?_
                refine PW.ex rfl rfl rfl rfl (Ex.not rfl rfl) ?_
                refine PW.ex rfl rfl rfl rfl (Ex.move rfl) ?_
                refine PW.ex rfl rfl rfl rfl (Ex.move rfl) ?_
                refine PW.ex rfl rfl rfl rfl (Ex.move rfl) ?_
                refine PW.ex rfl rfl rfl rfl (sliceStrF Try.underlying9 rfl rfl rfl (by omega)) ?_
                refine PW.ex rfl rfl rfl rfl (Ex.fieldO 2 Try.underlying58 rfl rfl ti9 rfl) ?_
                refine PW.ex rfl rfl rfl rfl (Ex.load1 ti9 rfl rfl (by first | exact obT rfl | exact Rd.imm ‹_› | exact slT ‹_›)) ?_
                refine PW.hv rfl rfl rfl rfl (Hv.callS hS rfl rfl rfl cb30 (hasp_c (X.inp.extract i X.inp.size) r.In (Nat.le_trans ext_size (by omega)) hsm.1 _)) (fun _ _ h => h.2.rd) fun v w98 ⟨hv, hS⟩ => ?_
                subst hv
                refine PW.splitB (fun h26_8 => ?_) (fun h26_8 => ?_)
                · have hpa : preAt X.inp i r = true := by rw [← pre_at r (by omega)]; exact h26_8
                  have hpl := pre_len hpa hTk.1
                  have hj3 : i + r.In.size < N := by omega
                  refine PW.ex rfl rfl rfl rfl (Ex.not rfl rfl) ?_
                  refine PW.ex rfl rfl rfl rfl (by first | exact Ex.pick_yes rfl rfl | exact Ex.pick_no rfl rfl) ?_
                  refine PW.nil ?_
                  refine LW.nil fun aa ha => hK41 _ _ _ ?_ aa ha
                  refine CW.no rfl ?_
                  refine CW.skip fun aa ha => hK40 _ _ _ ?_ aa ha
                  refine CW.seq fun K42 hK42 => ?_
                  refine CW.region [0, 1, 2, 3, 4, 5, 6, 7, 8, 9, 10, 11, 12, 13, 14, 15, 16] rfl ?_
                  refine LW.ex rfl rfl rfl rfl (Ex.move rfl) hS.rd ?_
                  refine LW.ex rfl rfl rfl rfl (Ex.move rfl) hS.rd ?_
                  refine LW.ex rfl rfl rfl rfl (Ex.fieldO 2 Try.underlying58 rfl rfl ti9 rfl) hS.rd ?_
                  refine LW.ex rfl rfl rfl rfl (Ex.load1 ti9 rfl rfl (by first | exact obT rfl | exact Rd.imm ‹_› | exact slT ‹_›)) hS.rd ?_
                  refine LW.ex rfl rfl rfl rfl (Ex.lenS rfl Try.underlying9 rfl) hS.rd ?_
                  refine LW.ex rfl rfl rfl rfl (Ex.add (r := ((i + r.In.size : Nat) : Int)) rfl rfl (by rw [Sy.w64 (by omega) (by omega)]; omega)) hS.rd ?_
                  refine LW.ex rfl rfl rfl rfl (Ex.move rfl) hS.rd ?_
                  refine LW.ex rfl rfl rfl rfl (Ex.move rfl) hS.rd ?_
                  refine LW.ex rfl rfl rfl rfl (Ex.fieldO 4 Try.underlying58 rfl rfl ti3 rfl) hS.rd ?_
                  refine LW.ex rfl rfl rfl rfl (Ex.load1 ti3 rfl rfl (by first | exact obT rfl | exact Rd.imm ‹_› | exact slT ‹_›)) hS.rd ?_
                  refine LW.ex rfl rfl rfl rfl (Ex.add rfl rfl (Sy.w64 (by omega) (by omega))) hS.rd ?_
                  refine LW.hv rfl rfl rfl rfl (Hv.callM rfl rfl rfl cb62 (putI_m (a := 2) (c := (i + r.In.size) + 3) (ms3 (i + r.In.size)) (X.nv p.1 r) (i + r.In.size) (p.2 + r.Cost) hS rfl (cellsF_get hj3 hj3) hj3 (by omega) (maps_get [_, _, _] hj3))) fun v w112 ⟨hv, hS⟩ => ?_
                  subst hv
                  have hS := st_maps [_, _, _] hj3 hS
                  try dsimp only [List.cons_append, List.nil_append] at hS
                  refine LW.splitB (fun h27_11 => ?_) (fun h27_11 => ?_)
                  · skip
                    refine LW.ex rfl rfl rfl rfl (Ex.move rfl) hS.rd ?_
                    refine LW.ex rfl rfl rfl rfl (Ex.fieldO 2 Try.underlying58 rfl rfl ti9 rfl) hS.rd ?_
                    refine LW.ex rfl rfl rfl rfl (Ex.load1 ti9 rfl rfl (by first | exact obT rfl | exact Rd.imm ‹_› | exact slT ‹_›)) hS.rd ?_
                    refine LW.ex rfl rfl rfl rfl (Ex.eqlS (b := false) rfl rfl (notEmpty hTk.1)) hS.rd ?_
                    refine LW.ex rfl rfl rfl rfl (by first | exact Ex.pick_yes rfl rfl | exact Ex.pick_no rfl rfl) hS.rd ?_
                    refine LW.nil fun aa ha => hK42 _ _ _ ?_ aa ha
                    refine CW.no rfl ?_
                    refine CW.skip fun aa ha => hK37 _ _ _ ?_ aa ha
                    refine CW.region [0, 1] rfl ?_
                    refine LW.ex rfl rfl rfl rfl (Ex.add rfl rfl (by first | exact inc64 (by omega) | exact addN (by omega) | exact w64 (by omega) (by omega))) hS.rd ?_
                    refine LW.ex rfl rfl rfl rfl (Ex.move rfl) hS.rd ?_
                    refine LW.nil fun aa ha => ?_
                    have hS := hS.drop 0 rfl
                    dsimp only [List.eraseIdx] at hS
                    refine ⟨_, _, ?m23, ⟨t + 1, updF ms3 (i + r.In.size) (putM (ms3 (i + r.In.size)) (X.nv p.1 r) (p.2 + r.Cost)), (by first | omega | (simp; done) | (simp; omega)), rfl, rfl, hS, by rw [hre]; exact hK.put hX ht2 (by rw [← hre]; exact h25_6) (by rw [← hre]; exact hpa), fun j hj => by unfold updF; rw [if_neg (by omega)]; exact hlow3 j hj⟩, ha.sub ⟨rfl, rfl, rfl, rfl, rfl, rfl, rfl, rfl, rfl, rfl, rfl, rfl, rfl, rfl, rfl, trivial⟩⟩
                    case m23 => omega
                  · skip
                    refine LW.ex rfl rfl rfl rfl (Ex.move rfl) hS.rd ?_
                    refine LW.skip rfl rfl rfl rfl ?_
                    refine LW.skip rfl rfl rfl rfl ?_
                    refine LW.skip rfl rfl rfl rfl ?_
                    refine LW.ex rfl rfl rfl rfl (by first | exact Ex.pick_yes rfl rfl | exact Ex.pick_no rfl rfl) hS.rd ?_
                    refine LW.nil fun aa ha => hK42 _ _ _ ?_ aa ha
                    refine CW.no rfl ?_
                    refine CW.skip fun aa ha => hK37 _ _ _ ?_ aa ha
                    refine CW.region [0, 1] rfl ?_
                    refine LW.ex rfl rfl rfl rfl (Ex.add rfl rfl (by first | exact inc64 (by omega) | exact addN (by omega) | exact w64 (by omega) (by omega))) hS.rd ?_
                    refine LW.ex rfl rfl rfl rfl (Ex.move rfl) hS.rd ?_
                    refine LW.nil fun aa ha => ?_
                    have hS := hS.drop 0 rfl
                    dsimp only [List.eraseIdx] at hS
                    refine ⟨_, _, ?m23, ⟨t + 1, updF ms3 (i + r.In.size) (putM (ms3 (i + r.In.size)) (X.nv p.1 r) (p.2 + r.Cost)), (by first | omega | (simp; done) | (simp; omega)), rfl, rfl, hS, by rw [hre]; exact hK.put hX ht2 (by rw [← hre]; exact h25_6) (by rw [← hre]; exact hpa), fun j hj => by unfold updF; rw [if_neg (by omega)]; exact hlow3 j hj⟩, ha.sub ⟨rfl, rfl, rfl, rfl, rfl, rfl, rfl, rfl, rfl, rfl, rfl, rfl, rfl, rfl, rfl, trivial⟩⟩
                    case m23 => omega
                · skip
                  refine PW.ex rfl rfl rfl rfl (Ex.not rfl rfl) ?_
                  refine PW.ex rfl rfl rfl rfl (by first | exact Ex.pick_yes rfl rfl | exact Ex.pick_no rfl rfl) ?_
                  refine PW.nil ?_
                  refine LW.nil fun aa ha => hK41 _ _ _ ?_ aa ha
                  refine CW.yes rfl ?_
                  refine CW.exit fun aa ha => hK37 _ _ _ ?_ aa ha
                  refine CW.region [0, 1] rfl ?_
                  refine LW.ex rfl rfl rfl rfl (Ex.add rfl rfl (by first | exact inc64 (by omega) | exact addN (by omega) | exact w64 (by omega) (by omega))) hS.rd ?_
                  refine LW.ex rfl rfl rfl rfl (Ex.move rfl) hS.rd ?_
                  refine LW.nil fun aa ha => ?_
                  have hS := hS.drop 0 rfl
                  dsimp only [List.eraseIdx] at hS
                  refine ⟨_, _, ?m23, ⟨t + 1, ms3, (by first | omega | (simp; done) | (simp; omega)), rfl, rfl, hS, hK.skip ht2 (fun _ h2 => by rw [← hre, ← pre_at r (by omega), h26_8] at h2; cases h2), hlow3⟩, ha.sub ⟨rfl, rfl, rfl, rfl, rfl, rfl, rfl, rfl, rfl, rfl, rfl, rfl, rfl, rfl, rfl, trivial⟩⟩
                  case m23 => omega
              · skip
                refine LW.ex rfl rfl rfl rfl (Ex.assign rfl) hS.rd ?_
                refine LW.ex rfl rfl rfl rfl (Ex.assign rfl) hS.rd ?_
                refine LW.nil fun aa ha => hK39 _ _ _ ?_ aa ha
                refine CW.seq fun K43 hK43 => ?_
                refine CW.seq fun K44 hK44 => ?_
                have hS := hS.drew
                refine CW.draw 11 (.ex 0 <| .ex 1 <| .ex 2 <| .ex 3 <| .ex 4 <| .ex 5 <| .ex 6 <| .ex 7 <| .one 8 <| .ex 9 <| .ex 10 <| .done) [] (Rd _ _) mixed (by kernel_rfl) rfl rfl hS.rd ?_
                refine PW.ex rfl rfl rfl rfl (Ex.move rfl) ?_
                refine PW.ex rfl rfl rfl rfl (Ex.not rfl rfl) ?_
                refine PW.ex rfl rfl rfl rfl (Ex.move rfl) ?_
                refine PW.skip rfl rfl rfl rfl ?_
                refine PW.skip rfl rfl rfl rfl ?_
                refine PW.skip rfl rfl rfl rfl ?_
                refine PW.skip rfl rfl rfl rfl ?_
                refine PW.skip rfl rfl rfl rfl ?_
                refine PW.skip1 rfl rfl rfl rfl ?_
                refine PW.skip rfl rfl rfl rfl ?_
                refine PW.ex rfl rfl rfl rfl (by first | exact Ex.pick_yes rfl rfl | exact Ex.pick_no rfl rfl) ?_
                refine PW.nil ?_
                refine LW.nil fun aa ha => hK44 _ _ _ ?_ aa ha
                refine CW.yes rfl ?_
                refine CW.exit fun aa ha => hK37 _ _ _ ?_ aa ha
                refine CW.region [0, 1] rfl ?_
                refine LW.ex rfl rfl rfl rfl (Ex.add rfl rfl (by first | exact inc64 (by omega) | exact addN (by omega) | exact w64 (by omega) (by omega))) hS.rd ?_
                refine LW.ex rfl rfl rfl rfl (Ex.move rfl) hS.rd ?_
                refine LW.nil fun aa ha => ?_
                have hS := hS.drop 0 rfl
                dsimp only [List.eraseIdx] at hS
                refine ⟨_, _, ?m23, ⟨t + 1, ms3, (by first | omega | (simp; done) | (simp; omega)), rfl, rfl, hS, hK.skip ht2 (fun h1 _ => by rw [← hre, h25_6] at h1; cases h1), hlow3⟩, ha.sub ⟨rfl, rfl, rfl, rfl, rfl, rfl, rfl, rfl, rfl, rfl, rfl, rfl, rfl, rfl, rfl, trivial⟩⟩
                case m23 => omega
            · have h23_0 := of_decide_eq_false h23_0
              refine LW.nil fun aa ha => hK35 _ _ _ ?_ aa ha
              refine CW.seq fun K45 hK45 => ?_
              refine CW.no rfl ?_
              refine CW.exit fun aa ha => ?_
              refine ⟨_, _, ?m18, ⟨left2.eraseIdx j2, kv3, none, ms3, rfl, rfl, hS, hK.done (by omega), fun q hq' => by rw [hlow3 i (Nat.le_refl _), ← hlow2 i (Nat.le_refl _)]; exact hks q ((List.eraseIdx_sublist _ _).subset hq'), fun q hq' => ((mem_erase_idx hj2 (hkl q ((hkv3 q).1 hq').1)).resolve_left fun e => ((hkv3 q).1 hq').2 (by rw [e])), hlow3⟩, ha.sub ⟨rfl, rfl, rfl, rfl, rfl, rfl, rfl, rfl, rfl, rfl, trivial⟩⟩
              case m18 => (rw [hq18]; exact er_lt hj2)
          · have hSl := hS
            obtain ⟨hl1, hl2⟩ := hF2 h18_1
            subst hl1 hl2
            have hS := hSl
            refine LW.nil fun aa ha => hK29 _ _ _ ?_ aa ha
            refine CW.seq fun K46 hK46 => ?_
            refine CW.no rfl ?_
            refine CW.exit fun aa ha => hK27 _ _ _ ?_ aa ha
            refine CW.seq fun K47 hK47 => ?_
            have hS := st_unrng hS 0 rfl
            dsimp only [List.set] at hS
            have hk20 : kv2 = [] := List.eq_nil_iff_forall_not_mem.2 fun p hp => by have := hkl p hp; simp at this
            subst hk20
            refine CW.region [0, 1, 2, 3, 4, 5, 6] rfl ?_
            refine LW.ex rfl rfl rfl rfl (Ex.move rfl) hS.rd ?_
            refine LW.ex rfl rfl rfl rfl (Ex.move rfl) hS.rd ?_
            refine LW.ex rfl rfl rfl rfl (Ex.indexSl Try.underlying99 ti103 rfl rfl rfl (by omega)) hS.rd ?_
            refine LW.ex rfl rfl rfl rfl (Ex.load1 ti103 rfl rfl (Rd.sl (k := 1) rfl (by rw [Nat.zero_add, Nat.mul_one]; exact cellsF_get hi2 hi2))) hS.rd ?_
            refine LW.ex rfl rfl rfl rfl (Ex.lenMap rfl Try.underlying103 (i + 2) (maps_get [_, _] hi2) rfl) hS.rd ?_
            refine LW.ex rfl rfl rfl rfl (Ex.move rfl) hS.rd ?_
            refine LW.ex rfl rfl rfl rfl (Ex.gtr rfl rfl rfl) hS.rd ?_
            refine LW.splitB (fun h30_6 => ?_) (fun h30_6 => ?_)
            · have h30_6 := of_decide_eq_true h30_6
              refine LW.nil fun aa ha => hK47 _ _ _ ?_ aa ha
              refine CW.yes rfl ?_
              refine CW.seq fun K48 hK48 => ?_
              refine CW.region [0, 1, 2] rfl ?_
              refine LW.ex rfl rfl rfl rfl (Ex.move rfl) hS.rd ?_
              refine LW.ex rfl rfl rfl rfl (Ex.assign rfl) hS.rd ?_
              refine LW.ex rfl rfl rfl rfl (Ex.assign rfl) hS.rd ?_
              refine LW.nil fun aa ha => hK48 _ _ _ ?_ aa ha
              refine CW.ret fun aa ha => ?_
              refine ret_two ha Try.results41 rfl rfl ?_
              have hS := hS.drop 0 rfl
              exact ⟨_, rfl, b27, false, ms2, bs, rfl, (by unfold WRes; rw [if_neg (by decide)]; exact ⟨i, by omega, hJ2.wi, by omega⟩), hS⟩
            · have h30_6 := of_decide_eq_false h30_6
              refine LW.nil fun aa ha => hK47 _ _ _ ?_ aa ha
              refine CW.no rfl ?_
              refine CW.skip fun aa ha => ?_
              refine ⟨_, _, ?m16, ⟨[], ms2, rfl, rfl, hS, hJ2, (fun p hp => by cases hp), hlow2⟩, ha.sub ⟨rfl, rfl, rfl, rfl, rfl, rfl, rfl, rfl, rfl, trivial⟩⟩
              case m16 => (rw [hq16]; simp only [List.length_nil]; omega)
        · have h16_2 := of_decide_eq_false h16_2
          refine LW.nil fun aa ha => hK26 _ _ _ ?_ aa ha
          refine CW.no rfl ?_
          refine CW.exit fun aa ha => hK24 _ _ _ ?_ aa ha
          refine CW.seq fun K49 hK49 => ?_
          have hk0 : kvw2 = [] := List.eq_nil_of_length_eq_zero (by omega)
          subst hk0
          refine CW.region [0, 1, 2, 3, 4, 5, 6] rfl ?_
          refine LW.ex rfl rfl rfl rfl (Ex.move rfl) hS.rd ?_
          refine LW.ex rfl rfl rfl rfl (Ex.move rfl) hS.rd ?_
          refine LW.ex rfl rfl rfl rfl (Ex.indexSl Try.underlying99 ti103 rfl rfl rfl (by omega)) hS.rd ?_
          refine LW.ex rfl rfl rfl rfl (Ex.load1 ti103 rfl rfl (Rd.sl (k := 1) rfl (by rw [Nat.zero_add, Nat.mul_one]; exact cellsF_get hi2 hi2))) hS.rd ?_
          refine LW.ex rfl rfl rfl rfl (Ex.lenMap rfl Try.underlying103 (i + 2) (maps_get [_, _] hi2) rfl) hS.rd ?_
          refine LW.ex rfl rfl rfl rfl (Ex.move rfl) hS.rd ?_
          refine LW.ex rfl rfl rfl rfl (Ex.gtr rfl rfl rfl) hS.rd ?_
          refine LW.splitB (fun h32_6 => ?_) (fun h32_6 => ?_)
          · have h32_6 := of_decide_eq_true h32_6
            refine LW.nil fun aa ha => hK49 _ _ _ ?_ aa ha
            refine CW.yes rfl ?_
            refine CW.seq fun K50 hK50 => ?_
            refine CW.region [0, 1, 2] rfl ?_
            refine LW.ex rfl rfl rfl rfl (Ex.move rfl) hS.rd ?_
            refine LW.ex rfl rfl rfl rfl (Ex.assign rfl) hS.rd ?_
            refine LW.ex rfl rfl rfl rfl (Ex.assign rfl) hS.rd ?_
            refine LW.nil fun aa ha => hK50 _ _ _ ?_ aa ha
            refine CW.ret fun aa ha => ?_
            refine ret_two ha Try.results41 rfl rfl ?_
            have hS := hS.drop 0 rfl
            exact ⟨_, rfl, b27, false, ms4, bs, rfl, (by unfold WRes; rw [if_neg (by decide)]; exact ⟨i, by omega, hJ.wi, by omega⟩), hS⟩
          · have h32_6 := of_decide_eq_false h32_6
            refine LW.nil fun aa ha => hK49 _ _ _ ?_ aa ha
            refine CW.no rfl ?_
            refine CW.skip fun aa ha => hK15 _ _ _ ?_ aa ha
            refine CW.region [0, 1] rfl ?_
            refine LW.ex rfl rfl rfl rfl (Ex.add rfl rfl (by first | exact inc64 (by omega) | exact addN (by omega) | exact w64 (by omega) (by omega))) hS.rd ?_
            refine LW.ex rfl rfl rfl rfl (Ex.move rfl) hS.rd ?_
            refine LW.nil fun aa ha => ?_
            have hS := hS.drop 0 rfl
            dsimp only [List.eraseIdx] at hS
            refine ⟨_, _, ?m9, ⟨i + 1, ms4, (by first | omega | (simp; done) | (simp; omega)), rfl, rfl, hS, hJ.done, fun j hj => if e : j = i then (by subst e; omega) else (by rw [hlow j (by omega)]; exact hlen j (by omega))⟩, ha.sub ⟨rfl, rfl, rfl, rfl, rfl, rfl, rfl, trivial⟩⟩
            case m9 => (rw [hq9]; omega)
    · have h9_0 := of_decide_eq_false h9_0
      refine LW.nil fun aa ha => hK13 _ _ _ ?_ aa ha
      refine CW.seq fun K51 hK51 => ?_
      refine CW.no rfl ?_
      refine CW.exit fun aa ha => hK11 _ _ _ ?_ aa ha
      refine CW.seq fun K52 hK52 => ?_
      refine CW.region [0, 1, 2] rfl ?_
      refine LW.ex rfl rfl rfl rfl (Ex.move rfl) hS.rd ?_
      refine LW.ex rfl rfl rfl rfl (Ex.assign rfl) hS.rd ?_
      refine LW.ex rfl rfl rfl rfl (Ex.assign rfl) hS.rd ?_
      refine LW.nil fun aa ha => hK52 _ _ _ ?_ aa ha
      refine CW.ret fun aa ha => ?_
      refine ret_two ha Try.results41 rfl rfl ?_
      have hiN : i = N := by omega
      exact ⟨_, rfl, b27, true, ms, bs, rfl, (by unfold WRes; rw [if_pos rfl]; exact ⟨by rw [← hN, ← hiN]; exact hW, fun j hj => hlen j (by omega)⟩), hS⟩
end Go.Proofs.Ytgbdfgifgngijaa

/-
  Regions that draw their order and end in stores, some of whose operations on plain values may be left until then.
-/
namespace Go.Proofs.Ytgbdfgifgngijaa.Sy
open Go.RowKit

inductive Pl where
  | done
  | ex (i : Nat) (p : Pl)
  | pu (i : Nat) (p : Pl)
  | one (i : Nat) (p : Pl)
  | two (i : Nat) (p : Pl) (j : Nat) (q : Pl)
def plLen : Pl → Nat → Bool
  | .done, k => Nat.beq k 0
  | .ex _ p, k + 1 => plLen p k
  | .pu _ p, k + 1 => plLen p k
  | .one _ p, k + 1 => plLen p k
  | .two _ p _ q, k + 1 => plLen p k && plLen q k
  | _, 0 => false
def plOk (ops : Array Oper) (n : Nat) (E : List Nat) : Pl → Array Bool → Bool
  | .done, listed => Region.seqB .any ops (ops.size - n) n listed
  | .ex i p, listed => Nat.blt i n && !(E.contains i) && (Region.ready .any ops listed).contains i && Region.free .any ops listed i && plOk ops n E p (listed.setIfInBounds i true)
  | .pu i p, listed => Nat.blt i n && (Region.ready .any ops listed).contains i && Region.free .any ops listed i && plOk ops n E p (listed.setIfInBounds i true)
  | .one i p, listed => Nat.blt i n && decide (Region.ready .any ops listed = [i]) && plOk ops n E p (listed.setIfInBounds i true)
  | .two i p j q, listed => Nat.blt i n && Nat.blt j n && decide (Region.ready .any ops listed = [i, j]) && plOk ops n E p (listed.setIfInBounds i true) && plOk ops n E q (listed.setIfInBounds j true)
def sinkM (ops : Array Oper) (n : Nat) (E : List Nat) : Bool :=
  (List.range n).all fun i => E.contains i || (List.range (n + 1)).any fun j => decide (i < j) && !(E.contains j) && Region.waitsFor .any ops j i
def plB (ops : Array Oper) (n : Nat) (E : List Nat) (pl : Pl) : Bool :=
  Region.noSelect ops && (Nat.blt n ops.size && !(E.contains n) && sinkM ops n E && Region.chainB .any ops n) && plOk ops n E pl (Array.replicate ops.size false)

section
variable {P : Program} {ops : Array Oper} {Q : Exit → Act → World → Prop} {S0 S : World → Prop} {n : Nat} {E : List Nat}

theorem tail_waitsM {listed : Array Bool} (hs : sinkM ops n E = true) (hc : Region.chainB .any ops n = true) (hn : n < ops.size) (inv : HeadInv .any ops n listed) :
    ∀ (d i : Nat), n - i = d → i < n → E.contains i = false → listed.getD i true = false → ∀ t, n ≤ t → t ∉ Region.ready .any ops listed := by
  intro d
  induction d using Nat.strongRecOn with
  | _ d ih =>
    intro i hd hi hE hun t ht hr
    obtain ⟨_, ot, hot, hall⟩ := mem_ready.1 hr
    have htlt : t < ops.size := (Array.getElem?_eq_some_iff.1 hot).1
    by_cases htn : t = n
    · subst htn
      have h1 := List.all_eq_true.1 hs i (List.mem_range.2 hi)
      rw [hE, Bool.false_or] at h1
      obtain ⟨j, hj, hj2⟩ := List.any_eq_true.1 h1
      simp only [Bool.and_eq_true, decide_eq_true_eq, Bool.not_eq_true'] at hj2
      obtain ⟨oj, hoj, e, he, hb, hon⟩ := Region.waitsFor_spec hj2.2
      have hjle : j ≤ t := by have := List.mem_range.1 hj; omega
      by_cases hjt : j = t
      · subst hjt
        have : oj = ot := Option.some.inj (hoj.symm.trans hot)
        subst this
        have h2 := hall e he hb
        rw [hon, getD_both hun] at h2
        cases h2
      · cases hl : listed.getD j false with
        | true =>
          have h2 := inv.closed j oj hoj hl e he hb
          rw [hon, getD_both hun] at h2
          cases h2
        | false =>
          have hjs : j < listed.size := by rw [inv.size]; omega
          exact ih (t - j) (by omega) j rfl (by omega) hj2.1.2 (getD_in hjs hl) t (Nat.le_refl _) hr
    · have h1 := List.all_eq_true.1 hc t (List.mem_range.2 htlt)
      simp only [Bool.or_eq_true, decide_eq_true_eq] at h1
      rcases h1 with h1 | h1
      · omega
      · obtain ⟨o', ho', e, he, hb, hon⟩ := Region.waitsFor_spec h1
        have : o' = ot := Option.some.inj (ho'.symm.trans hot)
        subst this
        have h2 := hall e he hb
        rw [hon, getD_both (inv.tail (t - 1) (by omega) (by omega))] at h2
        cases h2

/-- The tail, with what holds behind each of its operations. -/
def wpTl (P : Program) (ops : Array Oper) (Q : Exit → Act → World → Prop) (S0 : World → Prop) : List Nat → Act → World → Prop
  | [], a, w => Q .normal a w
  | i :: rest, a, w => wpOp P ops Q i (fun a' w' => S0 w' ∧ wpTl P ops Q S0 rest a' w') a w
/-- S0 holds behind each operation; as long as no store has come ('c'), S too. -/
def wpM (P : Program) (ops : Array Oper) (Q : Exit → Act → World → Prop) (S0 S : World → Prop) (n : Nat) : Nat → Bool → Array Bool → Act → World → Prop
  | 0, _, listed, a, w => Region.ready .any ops listed = [] ∧ Q .normal a w
  | fuel + 1, c, listed, a, w =>
    (Region.ready .any ops listed = [] → Q .normal a w) ∧
    ∀ i ∈ Region.ready .any ops listed, wpOp P ops Q i (fun a' w' => S0 w' ∧ ((c && decide (i < n)) = true → S w') ∧ wpM P ops Q S0 S n fuel (c && decide (i < n)) (listed.setIfInBounds i true) a' w') a w
theorem wpAny_of_M : ∀ (fuel : Nat) (c : Bool) (listed : Array Bool) (a : Act) (w : World), wpM P ops Q S0 S n fuel c listed a w → wpAny P .any ops Q fuel listed a w
  | 0, _, _, _, _, h => h
  | fuel + 1, c, listed, a, w, h => ⟨h.1, fun i hi => wpOp_mono (fun a' w' h' => wpAny_of_M fuel _ _ a' w' h'.2.2) (h.2 i hi)⟩
theorem wpM_of_seq : ∀ (g k : Nat) (c : Bool) (listed : Array Bool) (a : Act) (w : World), n ≤ k → Region.seqB .any ops g k listed = true → wpTl P ops Q S0 (List.range' k g) a w → wpM P ops Q S0 S n g c listed a w
  | 0, _, _, _, _, _, _, hB, h => ⟨by simpa [Region.seqB] using hB, h⟩
  | g + 1, k, c, listed, a, w, hk, hB, h => by
    simp only [Region.seqB, Bool.and_eq_true, decide_eq_true_eq] at hB
    refine ⟨fun h1 => (by rw [hB.1] at h1; cases h1), fun j hj => ?_⟩
    rw [hB.1] at hj
    obtain rfl : j = k := by simpa using hj
    rw [List.range'_succ, wpTl] at h
    have hd : (c && decide (j < n)) = false := by rw [decide_eq_false (by omega), Bool.and_false]
    rw [hd]
    exact wpOp_mono (fun a' w' h' => ⟨h'.1, fun h => (by cases h), wpM_of_seq g (j + 1) _ _ a' w' (by omega) hB.2 h'.2⟩) h

theorem wpM_first_pure {i : Nat} {oi : Oper} {v : Value} (hi : ops[i]? = some oi) (hsel : ∀ (j : Nat) (o : Oper) cs b, ops[j]? = some o → o.op ≠ .select cs b)
    (hQ : ∀ c a w, Q (.panic c) (a.put oi.dst v) w → Q (.panic c) a w) (hin : i < n) :
    ∀ (fuel : Nat) (c : Bool) (listed : Array Bool) (a : Act) (w : World),
      (∀ j oj, ops[j]? = some oj → j ≠ i → listed.getD j true = false → (∀ e ∈ oj.after, Region.binds .any e = true → e.on ≠ i) → oi.apart ops oj = true) →
      i ∈ Region.ready .any ops listed → YieldsIf P ops S0 oi v a → S0 w → (c = true → S w) →
      wpM P ops Q S0 S n fuel c (listed.setIfInBounds i true) (a.put oi.dst v) w → wpM P ops Q S0 S n (fuel + 1) c listed a w := by
  intro fuel
  induction fuel with
  | zero =>
    intro c listed a w _ hr hy hS0 hS H
    refine ⟨fun h => (by rw [h] at hr; cases hr), fun j hj => ?_⟩
    by_cases hji : j = i
    · subst hji
      have hd : (c && decide (j < n)) = c := by rw [decide_eq_true hin, Bool.and_true]
      rw [hd]
      exact hy.wpOp hi hS0 ⟨hS0, hS, H⟩
    · have := ready_mono hj hji
      rw [H.1] at this; cases this
  | succ fuel ih =>
    intro c listed a w hfree hr hy hS0 hS H
    have hun := (mem_ready.1 hr).1
    refine ⟨fun h => (by rw [h] at hr; cases hr), fun j hj => ?_⟩
    by_cases hji : j = i
    · subst hji
      have hd : (c && decide (j < n)) = c := by rw [decide_eq_true hin, Bool.and_true]
      rw [hd]
      exact hy.wpOp hi hS0 ⟨hS0, hS, H⟩
    · have h1 := H.2 j (ready_mono hj hji)
      obtain ⟨hjun, oj, hoj, hall⟩ := mem_ready.1 hj
      have hnot : ∀ e ∈ oj.after, Region.binds .any e = true → e.on ≠ i := fun e he hb heq => by
        have h1 := hall e he hb
        rw [heq, getD_both hun] at h1
        cases h1
      have h2 := wpOp_putIf hoj (hfree j oj hoj hji hjun hnot) (fun cs b => hsel i oi cs b hi) (fun cs b => hsel j oj cs b hoj) hQ hy h1
      have hfree' : ∀ k ok, ops[k]? = some ok → k ≠ i → (listed.setIfInBounds j true).getD k true = false →
          (∀ e ∈ ok.after, Region.binds .any e = true → e.on ≠ i) → oi.apart ops ok = true := fun k ok hk hki hun hno => by
        refine hfree k ok hk hki ?_ hno
        by_cases hjk : j = k
        · subst hjk; exact hjun
        · rw [getD_set_ne true hjk] at hun; exact hun
      refine wpOp_mono (fun a' w' h3 => ⟨h3.2.1, h3.2.2.1, ih _ (listed.setIfInBounds j true) a' w' hfree' (ready_mono hr (Ne.symm hji)) h3.1 h3.2.1 h3.2.2.1 ?_⟩) h2
      rw [Array.setIfInBounds_comm _ _ hji]
      exact h3.2.2.2

theorem wpM_first {i : Nat} {oi : Oper} {v : Value} (hi : ops[i]? = some oi) (hsel : ∀ (j : Nat) (o : Oper) cs b, ops[j]? = some o → o.op ≠ .select cs b)
    (hQ : ∀ c a w, Q (.panic c) (a.put oi.dst v) w → Q (.panic c) a w) (hs : sinkM ops n E = true) (hc : Region.chainB .any ops n = true) (hn : n < ops.size) (hin : i < n) (hE : E.contains i = false) :
    ∀ (fuel : Nat) (listed : Array Bool) (a : Act) (w : World), HeadInv .any ops n listed →
      (∀ j oj, ops[j]? = some oj → j ≠ i → listed.getD j true = false → (∀ e ∈ oj.after, Region.binds .any e = true → e.on ≠ i) → oi.apart ops oj = true) →
      i ∈ Region.ready .any ops listed → YieldsIf P ops S oi v a → S0 w → S w →
      wpM P ops Q S0 S n fuel true (listed.setIfInBounds i true) (a.put oi.dst v) w → wpM P ops Q S0 S n (fuel + 1) true listed a w := by
  intro fuel
  induction fuel with
  | zero =>
    intro listed a w _ _ hr hy hS0 hS H
    refine ⟨fun h => (by rw [h] at hr; cases hr), fun j hj => ?_⟩
    by_cases hji : j = i
    · subst hji
      have hd : (true && decide (j < n)) = true := by rw [decide_eq_true hin]; rfl
      rw [hd]
      exact hy.wpOp hi hS ⟨hS0, fun _ => hS, H⟩
    · have := ready_mono hj hji
      rw [H.1] at this; cases this
  | succ fuel ih =>
    intro listed a w inv hfree hr hy hS0 hS H
    have hun := (mem_ready.1 hr).1
    refine ⟨fun h => (by rw [h] at hr; cases hr), fun j hj => ?_⟩
    by_cases hji : j = i
    · subst hji
      have hd : (true && decide (j < n)) = true := by rw [decide_eq_true hin]; rfl
      rw [hd]
      exact hy.wpOp hi hS ⟨hS0, fun _ => hS, H⟩
    · have hjn : j < n := Nat.lt_of_not_le fun hle => tail_waitsM hs hc hn inv _ i rfl hin hE hun j hle hj
      have h1 := H.2 j (ready_mono hj hji)
      have hd : (true && decide (j < n)) = true := by rw [decide_eq_true hjn]; rfl
      rw [hd] at h1 ⊢
      obtain ⟨hjun, oj, hoj, hall⟩ := mem_ready.1 hj
      have hnot : ∀ e ∈ oj.after, Region.binds .any e = true → e.on ≠ i := fun e he hb heq => by
        have h1 := hall e he hb
        rw [heq, getD_both hun] at h1
        cases h1
      have h2 := wpOp_putIf hoj (hfree j oj hoj hji hjun hnot) (fun cs b => hsel i oi cs b hi) (fun cs b => hsel j oj cs b hoj) hQ hy h1
      have hfree' : ∀ k ok, ops[k]? = some ok → k ≠ i → (listed.setIfInBounds j true).getD k true = false →
          (∀ e ∈ ok.after, Region.binds .any e = true → e.on ≠ i) → oi.apart ops ok = true := fun k ok hk hki hun hno => by
        refine hfree k ok hk hki ?_ hno
        by_cases hjk : j = k
        · subst hjk; exact hjun
        · rw [getD_set_ne true hjk] at hun; exact hun
      refine wpOp_mono (fun a' w' h3 => ⟨h3.2.1, h3.2.2.1, ih (listed.setIfInBounds j true) a' w' (inv.set hj hjn) hfree' (ready_mono hr (Ne.symm hji)) h3.1 h3.2.1 (h3.2.2.1 rfl) ?_⟩) h2
      rw [Array.setIfInBounds_comm _ _ hji]
      exact h3.2.2.2

def wpPl (P : Program) (ops : Array Oper) (Q : Exit → Act → World → Prop) (S0 S : World → Prop) (tail : List Nat) : Pl → Act → World → Prop
  | .done, a, w => wpTl P ops Q S0 tail a w
  | .ex i p, a, w => ∃ o v, ops[i]? = some o ∧ YieldsIf P ops S o v a ∧ wpPl P ops Q S0 S tail p (a.put o.dst v) w
  | .pu i p, a, w => ∃ o v, ops[i]? = some o ∧ YieldsIf P ops S0 o v a ∧ wpPl P ops Q S0 S tail p (a.put o.dst v) w
  | .one i p, a, w => wpOp P ops Q i (fun a' w' => S0 w' ∧ S w' ∧ wpPl P ops Q S0 S tail p a' w') a w
  | .two i p j q, a, w => wpOp P ops Q i (fun a' w' => S0 w' ∧ S w' ∧ wpPl P ops Q S0 S tail p a' w') a w ∧ wpOp P ops Q j (fun a' w' => S0 w' ∧ S w' ∧ wpPl P ops Q S0 S tail q a' w') a w

theorem pl_sound (hsel : Region.noSelect ops = true) (hs : sinkM ops n E = true) (hc : Region.chainB .any ops n = true) (hn : n < ops.size) (hQ : ∀ c a d v w, Q (.panic c) (Act.put a d v) w → Q (.panic c) a w) :
    ∀ (pl : Pl) (k : Nat) (listed : Array Bool) (a : Act) (w : World), plLen pl k = true → HeadInv .any ops n listed → plOk ops n E pl listed = true → S0 w → S w →
      wpPl P ops Q S0 S (List.range' n (ops.size - n)) pl a w → wpM P ops Q S0 S n (k + (ops.size - n)) true listed a w
  | .done, k, listed, a, w, hk, _, hB, _, _, h => by
    simp only [plLen] at hk
    obtain rfl : k = 0 := Nat.eq_of_beq_eq_true hk
    rw [Nat.zero_add]
    exact wpM_of_seq _ n _ _ _ _ (Nat.le_refl _) (by simpa [plOk] using hB) h
  | .ex i r, 0, listed, a, w, hk, _, _, _, _, _ => by simp [plLen] at hk
  | .ex i r, k + 1, listed, a, w, hk, inv, hB, hS0, hS, h => by
    simp only [plOk, Bool.and_eq_true, Bool.not_eq_true'] at hB
    obtain ⟨⟨⟨⟨hlt, hE⟩, hr⟩, hf⟩, hrest⟩ := hB
    have hin : i < n := lt_of_blt hlt
    have hr' : i ∈ Region.ready .any ops listed := by simpa using hr
    obtain ⟨o, v, ho, hy, hk'⟩ := h
    rw [show k + 1 + (ops.size - n) = (k + (ops.size - n)) + 1 by omega]
    exact wpM_first ho (Region.noSelect_spec hsel) (fun c a w => hQ c a _ _ w) hs hc hn hin hE _ listed a w inv (Region.free_spec ho hf) hr' hy hS0 hS
      (pl_sound hsel hs hc hn hQ r k _ _ w hk (inv.set hr' hin) hrest hS0 hS hk')
  | .pu i r, 0, listed, a, w, hk, _, _, _, _, _ => by simp [plLen] at hk
  | .pu i r, k + 1, listed, a, w, hk, inv, hB, hS0, hS, h => by
    simp only [plOk, Bool.and_eq_true] at hB
    obtain ⟨⟨⟨hlt, hr⟩, hf⟩, hrest⟩ := hB
    have hin : i < n := lt_of_blt hlt
    have hr' : i ∈ Region.ready .any ops listed := by simpa using hr
    obtain ⟨o, v, ho, hy, hk'⟩ := h
    rw [show k + 1 + (ops.size - n) = (k + (ops.size - n)) + 1 by omega]
    exact wpM_first_pure ho (Region.noSelect_spec hsel) (fun c a w => hQ c a _ _ w) hin _ true listed a w (Region.free_spec ho hf) hr' hy hS0 (fun _ => hS)
      (pl_sound hsel hs hc hn hQ r k _ _ w hk (inv.set hr' hin) hrest hS0 hS hk')
  | .one i r, 0, listed, a, w, hk, _, _, _, _, _ => by simp [plLen] at hk
  | .one i r, k + 1, listed, a, w, hk, inv, hB, _, _, h => by
    simp only [plOk, Bool.and_eq_true, decide_eq_true_eq] at hB
    obtain ⟨⟨hlt, hr⟩, hrest⟩ := hB
    have hin : i < n := lt_of_blt hlt
    rw [show k + 1 + (ops.size - n) = (k + (ops.size - n)) + 1 by omega]
    refine ⟨fun h0 => (by rw [hr] at h0; cases h0), fun j hj => ?_⟩
    have hji : j = i := by rw [hr] at hj; simpa using hj
    subst hji
    have hd : (true && decide (j < n)) = true := by rw [decide_eq_true hin]; rfl
    rw [hd]
    exact wpOp_mono (fun a' w' h' => ⟨h'.1, fun _ => h'.2.1, pl_sound hsel hs hc hn hQ r k _ a' w' hk (inv.set hj hin) hrest h'.1 h'.2.1 h'.2.2⟩) h
  | .two i p j q, 0, listed, a, w, hk, _, _, _, _, _ => by simp [plLen] at hk
  | .two i p j q, k + 1, listed, a, w, hk, inv, hB, _, _, h => by
    simp only [plOk, Bool.and_eq_true, decide_eq_true_eq] at hB
    simp only [plLen, Bool.and_eq_true] at hk
    obtain ⟨⟨⟨⟨hlt, hlt2⟩, hr⟩, hrest⟩, hrest2⟩ := hB
    have hin : i < n := lt_of_blt hlt
    have hjn : j < n := lt_of_blt hlt2
    have mi : i ∈ Region.ready .any ops listed := by rw [hr]; simp
    have mj : j ∈ Region.ready .any ops listed := by rw [hr]; simp
    rw [show k + 1 + (ops.size - n) = (k + (ops.size - n)) + 1 by omega]
    refine ⟨fun h0 => (by rw [hr] at h0; cases h0), fun l hl => ?_⟩
    have hl' : l = i ∨ l = j := by rw [hr] at hl; simpa using hl
    rcases hl' with rfl | rfl
    · have hd : (true && decide (l < n)) = true := by rw [decide_eq_true hin]; rfl
      rw [hd]
      exact wpOp_mono (fun a' w' h' => ⟨h'.1, fun _ => h'.2.1, pl_sound hsel hs hc hn hQ p k _ a' w' hk.1 (inv.set mi hin) hrest h'.1 h'.2.1 h'.2.2⟩) h.1
    · have hd : (true && decide (l < n)) = true := by rw [decide_eq_true hjn]; rfl
      rw [hd]
      exact wpOp_mono (fun a' w' h' => ⟨h'.1, fun _ => h'.2.1, pl_sound hsel hs hc hn hQ q k _ a' w' hk.2 (inv.set mj hjn) hrest2 h'.1 h'.2.1 h'.2.2⟩) h.2

theorem wp_pl {id : Nat} {a : Act} {w : World} (n : Nat) (E : List Nat) (pl : Pl) (S0 S : World → Prop) (hm : P.follows .mixedOrders = true) (hB : plB ops n E pl = true) (hl : plLen pl n = true)
    (hS0 : S0 w.drew) (hS : S w.drew) (h : wpPl P ops (NoPanic Q) S0 S (List.range' n (ops.size - n)) pl a w.drew) : (Code.region id ops true).wp P Q a w := by
  refine wp_region_noPanic (wp_region_any hm ?_)
  simp only [plB, Bool.and_eq_true] at hB
  obtain ⟨⟨hsel, ⟨⟨hn, _⟩, hs⟩, hc⟩, hp⟩ := hB
  have hn' : n < ops.size := lt_of_blt hn
  have inv0 : HeadInv .any ops n (Array.replicate ops.size false) :=
    ⟨by simp, fun j oj _ hl => (by rw [getD_replicate_false] at hl; cases hl), fun t _ ht => getD_in (by simpa using ht) (getD_replicate_false _ _)⟩
  have := wpAny_of_M _ _ _ _ _ (pl_sound hsel hs hc hn' (fun c a d v w h => (h : False).elim) pl n _ a w.drew hl inv0 hp hS0 hS h)
  rw [show n + (ops.size - n) = ops.size by omega] at this
  exact this

def TW (P : Program) (ops : Array Oper) (Q : Exit → Act → World → Prop) (S0 : World → Prop) (l : List Nat) (n : Nat) (m : List (Nat × Value)) (w : World) : Prop :=
  ∀ a, Fr a n m → S0 w → wpTl P ops Q S0 l a w
def QW (P : Program) (ops : Array Oper) (Q : Exit → Act → World → Prop) (S0 S : World → Prop) (tail : List Nat) (pl : Pl) (n : Nat) (m : List (Nat × Value)) (w : World) : Prop :=
  ∀ a, Fr a n m → S0 w → S w → wpPl P ops Q S0 S tail pl a w

variable {m : List (Nat × Value)} {w : World} {tail rest : List Nat} {pl pl2 : Pl} {i : Nat} {o : Oper}
theorem TW.nil (h : ∀ a, Fr a n m → Q .normal a w) : TW P ops Q S0 [] n m w := fun a ha _ => h a ha
theorem TW.ex {d : Nat} {v : Value} (hi : ops[i]? = some o) (hd : o.dst = some d) (hn : Nat.ble (d + 1) n = true) (hg : guarded ops m o = some true) (h : Ex P S m o.op v) (hS : S w)
    (k : TW P ops Q S0 rest n ((d, v) :: m) w) : TW P ops Q S0 (i :: rest) n m w := fun a ha h0 => by
  refine wpOp_at hi (wanted_of ha hg) ?_
  unfold Oper.wp
  rw [h a.eval ha.ev w hS o rfl, Oper.upon_value, hd]
  exact ⟨h0, k _ (ha.put (Nat.le_of_ble_eq_true hn) v) h0⟩
theorem TW.hu {Φ : Value → World → Prop} (hi : ops[i]? = some o) (hd : o.dst = none) (hg : guarded ops m o = some true) (h : Hv P m o.op w Φ) (h0' : ∀ v w', Φ v w' → S0 w')
    (k : ∀ v w', Φ v w' → TW P ops Q S0 rest n m w') : TW P ops Q S0 (i :: rest) n m w := fun a ha _ => by
  refine wpOp_at hi (wanted_of ha hg) ?_
  refine h a ha.ev o rfl _ _ fun v w' hv => ⟨h0' v w' hv, ?_⟩
  rw [hd]
  exact k v w' hv _ (ha.put_none v) (h0' v w' hv)
theorem QW.nil (h : TW P ops Q S0 tail n m w) : QW P ops Q S0 S tail .done n m w := fun a ha h0 _ => h a ha h0
theorem QW.ex {d : Nat} {v : Value} (hi : ops[i]? = some o) (hd : o.dst = some d) (hn : Nat.ble (d + 1) n = true) (hg : guarded ops m o = some true) (h : Ex P S m o.op v)
    (k : QW P ops Q S0 S tail pl n ((d, v) :: m) w) : QW P ops Q S0 S tail (.ex i pl) n m w := fun a ha h0 hS =>
  ⟨o, v, hi, .inl ⟨wanted_of ha hg, fun w hw => h a.eval ha.ev w hw o rfl⟩, by rw [hd]; exact k _ (ha.put (Nat.le_of_ble_eq_true hn) v) h0 hS⟩
theorem QW.pu {d : Nat} {v : Value} (hi : ops[i]? = some o) (hd : o.dst = some d) (hn : Nat.ble (d + 1) n = true) (hg : guarded ops m o = some true) (h : Ex P S0 m o.op v)
    (k : QW P ops Q S0 S tail pl n ((d, v) :: m) w) : QW P ops Q S0 S tail (.pu i pl) n m w := fun a ha h0 hS =>
  ⟨o, v, hi, .inl ⟨wanted_of ha hg, fun w hw => h a.eval ha.ev w hw o rfl⟩, by rw [hd]; exact k _ (ha.put (Nat.le_of_ble_eq_true hn) v) h0 hS⟩
theorem QW.skip {d : Nat} (hi : ops[i]? = some o) (hd : o.dst = some d) (hn : Nat.ble (d + 1) n = true) (hg : guarded ops m o = some false)
    (k : QW P ops Q S0 S tail pl n ((d, undef) :: m) w) : QW P ops Q S0 S tail (.ex i pl) n m w := fun a ha h0 hS =>
  ⟨o, undef, hi, .inr ⟨wanted_of ha hg, rfl⟩, by rw [hd]; exact k _ (ha.put (Nat.le_of_ble_eq_true hn) undef) h0 hS⟩
theorem QW.skip1 {d : Nat} (hi : ops[i]? = some o) (hd : o.dst = some d) (hn : Nat.ble (d + 1) n = true) (hg : guarded ops m o = some false)
    (k : QW P ops Q S0 S tail pl n ((d, undef) :: m) w) : QW P ops Q S0 S tail (.one i pl) n m w := fun a ha h0 hS => by
  refine wpOp_not hi (wanted_of ha hg) ⟨h0, hS, ?_⟩
  rw [hd]
  exact k _ (ha.put (Nat.le_of_ble_eq_true hn) undef) h0 hS
theorem QW.hv {d : Nat} {Φ : Value → World → Prop} (hi : ops[i]? = some o) (hd : o.dst = some d) (hn : Nat.ble (d + 1) n = true) (hg : guarded ops m o = some true) (h : Hv P m o.op w Φ)
    (hS0 : ∀ v w', Φ v w' → S0 w') (hS' : ∀ v w', Φ v w' → S w') (k : ∀ v w', Φ v w' → QW P ops Q S0 S tail pl n ((d, v) :: m) w') : QW P ops Q S0 S tail (.one i pl) n m w := fun a ha _ _ => by
  refine wpOp_at hi (wanted_of ha hg) ?_
  refine h a ha.ev o rfl _ _ fun v w' hv => ⟨hS0 v w' hv, hS' v w' hv, ?_⟩
  rw [hd]
  exact k v w' hv _ (ha.put (Nat.le_of_ble_eq_true hn) v) (hS0 v w' hv) (hS' v w' hv)
theorem QW.two {j : Nat} {o2 : Oper} {d e : Nat} {Φ Ψ : Value → World → Prop} (hi : ops[i]? = some o) (hj : ops[j]? = some o2) (hd : o.dst = some d) (he : o2.dst = some e) (hn : Nat.ble (d + 1) n = true) (hn2 : Nat.ble (e + 1) n = true)
    (hg : guarded ops m o = some true) (hg2 : guarded ops m o2 = some true)
    (hA : Hv P m o.op w Φ) (hA0 : ∀ v w', Φ v w' → S0 w') (hSA : ∀ v w', Φ v w' → S w') (hB : Hv P m o2.op w Ψ) (hB0 : ∀ v w', Ψ v w' → S0 w') (hSB : ∀ v w', Ψ v w' → S w')
    (kA : ∀ v w', Φ v w' → QW P ops Q S0 S tail pl n ((d, v) :: m) w') (kB : ∀ v w', Ψ v w' → QW P ops Q S0 S tail pl2 n ((e, v) :: m) w') : QW P ops Q S0 S tail (.two i pl j pl2) n m w := fun a ha _ _ => by
  refine ⟨wpOp_at hi (wanted_of ha hg) (hA a ha.ev o rfl _ _ fun v w' hv => ⟨hA0 v w' hv, hSA v w' hv, ?_⟩), wpOp_at hj (wanted_of ha hg2) (hB a ha.ev o2 rfl _ _ fun u w' hu => ⟨hB0 u w' hu, hSB u w' hu, ?_⟩)⟩
  · rw [hd]; exact kA v w' hv _ (ha.put (Nat.le_of_ble_eq_true hn) v) (hA0 v w' hv) (hSA v w' hv)
  · rw [he]; exact kB u w' hu _ (ha.put (Nat.le_of_ble_eq_true hn2) u) (hB0 u w' hu) (hSB u w' hu)
theorem QW.splitB {d : Nat} {b : Bool} (ht : b = true → QW P ops Q S0 S tail pl n ((d, .bool true) :: m) w) (hf : b = false → QW P ops Q S0 S tail pl n ((d, .bool false) :: m) w) : QW P ops Q S0 S tail pl n ((d, .bool b) :: m) w := by
  cases b with
  | true => exact ht rfl
  | false => exact hf rfl
theorem CW.drawP {id : Nat} (k : Nat) (E : List Nat) (pl : Pl) (tail : List Nat) (S0 S : World → Prop) (hm : P.follows .mixedOrders = true) (hB : plB ops k E pl = true) (hk : plLen pl k = true)
    (ht : List.range' k (ops.size - k) = tail) (hS0 : S0 w.drew) (hS : S w.drew) (h : QW P ops (NoPanic Q) S0 S tail pl n m w.drew) : CW P (.region id ops true) Q n m w := fun a ha =>
  wp_pl k E pl S0 S hm hB hk hS0 hS (by rw [ht]; exact h a ha hS0 hS)
theorem Rd.erase {μ : Mem} {L : List Own} {w : World} (k : Nat) (h : Rd μ L w) : Rd μ (L.eraseIdx k) w := by
  refine ⟨h.1, ?_⟩
  obtain ⟨bs, hs⟩ := h.2
  by_cases hk : k < L.length
  · obtain ⟨b1, _, b3, _, _, hr⟩ := hs.erase (List.getElem?_eq_getElem hk)
    exact ⟨_, hr⟩
  · rw [List.eraseIdx_of_length_le (by omega)]; exact ⟨bs, hs⟩
end
end Go.Proofs.Ytgbdfgifgngijaa.Sy
