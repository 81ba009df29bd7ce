import Derived.Test.YtgbdfgifgngijaaL10

/-
  Output: what the rules do to pairs, places and modes: the walks of the closures of Best, Cost and Goes.
-/
namespace Go.Proofs.Ytgbdfgifgngijaa
open Go.RowKit Sy Go.Maps

def modeF (z : Int) : Fin 8 := ⟨z.toNat % 8, Nat.mod_lt _ (by omega)⟩
theorem modeF_val {z : Int} (h : 0 ≤ z ∧ z ≤ 7) : ((modeF z).val : Int) = z := by unfold modeF; simp only; omega
def nvO (k : KO) (r : Rule) : KO := if h : (k.1.2 ++ r.Out).size ≤ 9223372036854775807 then ⟨(modeF r.To, k.1.2 ++ r.Out), h⟩ else k
def ftO (k : KO) (r : Rule) : Bool := decide ((k.1.1.val : Int) = r.From)
def nvP (k : KP) (r : Rule) : KP := if h : k.1.2 + r.Out.size ≤ 9223372036854775807 then ⟨(modeF r.To, k.1.2 + r.Out.size), h⟩ else k
def preD (out : ByteArray) (p : Nat) (s : ByteArray) : Bool := (bl s).isPrefixOf ((bl out).drop p)
def ftP (out : ByteArray) (k : KP) (r : Rule) : Bool := decide ((k.1.1.val : Int) = r.From) && preD out k.1.2 r.Out
theorem preB_drop {out s : ByteArray} {i : Nat} (hi : i ≤ out.size) : preB (out.extract i out.size) s = preD out i s := by
  unfold preB preD
  congr 1
  unfold bl
  rw [ByteArray.data_extract]
  simp only [Array.toList_extract, List.extract]
  rw [List.take_of_length_le (by simp [show out.data.toList.length = out.size from rfl])]
def nvI (_ : Fin 8) (r : Rule) : Fin 8 := modeF r.To
def ftI (k : Fin 8) (r : Rule) : Bool := decide ((k.val : Int) = r.From)
theorem best1_c (k : KO) (r : Rule) (hk : k.1.2.size ≤ 1000000) (ho : r.Out.size ≤ 1000000) (ht : 0 ≤ r.To ∧ r.To ≤ 7) (w : World) :
    Calls Try.prog 33 #[.agg #[.int .i64 (k.1.1.val : Nat), .string k.1.2], ruleV r] w (RetS w (.tuple #[koV (nvO k r), .bool (ftO k r)])) := by
  have hsz : (k.1.2 ++ r.Out).size = k.1.2.size + r.Out.size := ByteArray.size_append
  have hnv : koV (nvO k r) = .agg #[.int .i64 r.To, .string (k.1.2 ++ r.Out)] := by
    have hsz' : (k.1.2 ++ r.Out).size ≤ 9223372036854775807 := by omega
    have e : nvO k r = ⟨(modeF r.To, k.1.2 ++ r.Out), hsz'⟩ := dif_pos _
    rw [e]
    show Value.agg #[.int .i64 ((modeF r.To).val : Nat), _] = _
    rw [modeF_val ht]
  have hS := St.start w (fun _ => none) (fun _ _ h => by cases h)
  refine calls_start 19 [.agg #[.int .i64 (k.1.1.val : Nat), .string k.1.2], ruleV r] Try.func33 rfl Try.ntmps33 rfl rfl ?_
  refine CW.seq fun K1 hK1 => ?_
  refine CW.region [0, 1, 2, 3] rfl ?_
  refine LW.hv rfl rfl rfl rfl (Hv.boxS hS rfl rfl) fun v w2 ⟨b2, hv, hb2, hS⟩ => ?_
  subst hv
  refine LW.hv rfl rfl rfl rfl (Hv.boxS hS rfl rfl) fun v w3 ⟨b3, hv, hb3, hS⟩ => ?_
  subst hv
  refine LW.hv rfl rfl rfl rfl (Hv.alloc ti84 hS) fun v w4 ⟨b4, hv, hb4, hS⟩ => ?_
  subst hv
  refine LW.ex rfl rfl rfl rfl (Ex.assign rfl) hS.rd ?_
  refine LW.nil fun aa ha => hK1 _ _ _ ?_ aa ha
  refine CW.seq fun K2 hK2 => ?_
  have hS := hS.drew
  refine CW.drawP 13 [8, 9, 10, 11, 12] (.ex 0 <| .ex 1 <| .ex 2 <| .ex 3 <| .ex 4 <| .ex 5 <| .ex 6 <| .ex 7 <| .pu 8 <| .pu 9 <| .pu 10 <| .pu 11 <| .pu 12 <| .done) [13, 14] (Rd _ _) (Rd _ _) mixed (by kernel_rfl) rfl rfl (by have h := hS.rd.erase 0; dsimp only [List.eraseIdx] at h; exact h) hS.rd ?_
  refine QW.ex rfl rfl rfl rfl (Ex.fieldO 1 Try.underlying58 rfl rfl ti3 rfl) ?_
  refine QW.ex rfl rfl rfl rfl (Ex.load1 ti3 rfl rfl (by first | exact obT rfl | exact Rd.imm ‹_› | exact slT ‹_›)) ?_
  refine QW.ex rfl rfl rfl rfl (Ex.fieldO 1 Try.underlying84 rfl rfl ti9 rfl) ?_
  refine QW.ex rfl rfl rfl rfl (Ex.load1 ti9 rfl rfl (by first | exact obT rfl | exact Rd.imm ‹_› | exact slT ‹_›)) ?_
  refine QW.ex rfl rfl rfl rfl (Ex.fieldO 3 Try.underlying58 rfl rfl ti9 rfl) ?_
  refine QW.ex rfl rfl rfl rfl (Ex.load1 ti9 rfl rfl (by first | exact obT rfl | exact Rd.imm ‹_› | exact slT ‹_›)) ?_
  refine QW.ex rfl rfl rfl rfl (Ex.addS rfl rfl (by omega)) ?_
  refine QW.ex rfl rfl rfl rfl (Ex.buildS st84 rfl rfl rfl) ?_
  refine QW.pu rfl rfl rfl rfl (Ex.fieldO 0 Try.underlying84 rfl rfl ti3 rfl) ?_
  refine QW.pu rfl rfl rfl rfl (Ex.load1 ti3 rfl rfl (by first | exact obT rfl | exact Rd.imm ‹_› | exact slT ‹_›)) ?_
  refine QW.pu rfl rfl rfl rfl (Ex.fieldO 0 Try.underlying58 rfl rfl ti3 rfl) ?_
  refine QW.pu rfl rfl rfl rfl (Ex.load1 ti3 rfl rfl (by first | exact obT rfl | exact Rd.imm ‹_› | exact slT ‹_›)) ?_
  refine QW.pu rfl rfl rfl rfl (Ex.eql rfl rfl (by first | exact decide_eq_true (by omega) | exact decide_eq_false (by omega) | rfl)) ?_
  refine QW.nil ?_
  refine TW.hu rfl rfl rfl (Hv.storeN (k := 0) ti84 hS rfl rfl rfl rfl (by simp [Value.oneCell'])) (fun _ _ h => (h.rd.erase 0)) fun _ w_13 hS => ?_
  dsimp only [List.set] at hS
  refine TW.ex rfl rfl rfl rfl (Ex.assign rfl) hS.rd ?_
  refine TW.nil fun aa ha => hK2 _ _ _ ?_ aa ha
  refine CW.ret fun aa ha => ?_
  refine ret2 ha Try.results33 ⟨b4, _, _, _, _, rfl, ti84, rfl, fun j v hv => Rd.objAll (k := 0) rfl hS.rd j v hv, rfl⟩ rfl ?_
  rw [hnv]; exact hS.retS
theorem cost1_c (out : ByteArray) (bp : Nat) (k : KP) (r : Rule) (ho : out.size ≤ 9223372036854775807) (hk : k.1.2 ≤ out.size) (hr : r.Out.size ≤ 1000000) (hk2 : k.1.2 ≤ 1000000) (ht : 0 ≤ r.To ∧ r.To ≤ 7) (μ : Mem) (w : World) (hμ : Imm μ w) (hb : μ.cell bp 0 = some (.string out)) :
    Calls Try.prog 29 #[.agg #[.int .i64 (k.1.1.val : Nat), .int .i64 (k.1.2 : Nat)], ruleV r, .pointer (some ⟨bp, 0, none⟩)] w (RetS w (.tuple #[kpV (nvP k r), .bool (ftP out k r)])) := by
  have hnv : kpV (nvP k r) = .agg #[.int .i64 r.To, .int .i64 (k.1.2 + r.Out.size : Nat)] := by
    have hsz' : k.1.2 + r.Out.size ≤ 9223372036854775807 := by omega
    have e : nvP k r = ⟨(modeF r.To, k.1.2 + r.Out.size), hsz'⟩ := dif_pos _
    rw [e]
    show Value.agg #[.int .i64 ((modeF r.To).val : Nat), _] = _
    rw [modeF_val ht]
  have hS := St.start w μ hμ
  refine calls_start 30 [.agg #[.int .i64 (k.1.1.val : Nat), .int .i64 (k.1.2 : Nat)], ruleV r, .pointer (some ⟨bp, 0, none⟩)] Try.func29 rfl Try.ntmps29 rfl rfl ?_
  refine CW.seq fun K3 hK3 => ?_
  refine CW.region [0, 1, 2, 3] rfl ?_
  refine LW.hv rfl rfl rfl rfl (Hv.boxS hS rfl rfl) fun v w3 ⟨b3, hv, hb3, hS⟩ => ?_
  subst hv
  refine LW.hv rfl rfl rfl rfl (Hv.boxS hS rfl rfl) fun v w4 ⟨b4, hv, hb4, hS⟩ => ?_
  subst hv
  refine LW.hv rfl rfl rfl rfl (Hv.alloc ti74 hS) fun v w5 ⟨b5, hv, hb5, hS⟩ => ?_
  subst hv
  refine LW.ex rfl rfl rfl rfl (Ex.assign rfl) hS.rd ?_
  refine LW.nil fun aa ha => hK3 _ _ _ ?_ aa ha
  refine CW.seq fun K4 hK4 => ?_
  have hS := hS.drew
  refine CW.drawP 23 [22] (.ex 0 <| .ex 1 <| .ex 2 <| .ex 3 <| .ex 4 <| .ex 5 <| .ex 6 <| .ex 7 <| .ex 8 <| .ex 9 <| .ex 10 <| .ex 11 <| .ex 12 <| .ex 13 <| .ex 14 <| .ex 15 <| .ex 16 <| .ex 17 <| .ex 18 <| .ex 19 <| .ex 20 <| .one 21 <| .pu 22 <| .done) [23, 24] (Rd _ _) (Rd _ _) mixed (by kernel_rfl) rfl rfl (by have h := hS.rd.erase 0; dsimp only [List.eraseIdx] at h; exact h) hS.rd ?_
  refine QW.ex rfl rfl rfl rfl (Ex.fieldO 1 Try.underlying58 rfl rfl ti3 rfl) ?_
  refine QW.ex rfl rfl rfl rfl (Ex.load1 ti3 rfl rfl (by first | exact obT rfl | exact Rd.imm ‹_› | exact slT ‹_›)) ?_
  refine QW.ex rfl rfl rfl rfl (Ex.fieldO 1 Try.underlying74 rfl rfl ti3 rfl) ?_
  refine QW.ex rfl rfl rfl rfl (Ex.load1 ti3 rfl rfl (by first | exact obT rfl | exact Rd.imm ‹_› | exact slT ‹_›)) ?_
  refine QW.ex rfl rfl rfl rfl (Ex.fieldO 3 Try.underlying58 rfl rfl ti9 rfl) ?_
  refine QW.ex rfl rfl rfl rfl (Ex.load1 ti9 rfl rfl (by first | exact obT rfl | exact Rd.imm ‹_› | exact slT ‹_›)) ?_
  refine QW.ex rfl rfl rfl rfl (Ex.lenS rfl Try.underlying9 rfl) ?_
  refine QW.ex rfl rfl rfl rfl (Ex.add (r := ((k.1.2 + r.Out.size : Nat) : Int)) rfl rfl (by rw [Sy.w64 (by omega) (by omega)]; omega)) ?_
  refine QW.ex rfl rfl rfl rfl (Ex.buildS st74 rfl rfl rfl) ?_
  refine QW.ex rfl rfl rfl rfl (Ex.fieldO 0 Try.underlying74 rfl rfl ti3 rfl) ?_
  refine QW.ex rfl rfl rfl rfl (Ex.load1 ti3 rfl rfl (by first | exact obT rfl | exact Rd.imm ‹_› | exact slT ‹_›)) ?_
  refine QW.ex rfl rfl rfl rfl (Ex.fieldO 0 Try.underlying58 rfl rfl ti3 rfl) ?_
  refine QW.ex rfl rfl rfl rfl (Ex.load1 ti3 rfl rfl (by first | exact obT rfl | exact Rd.imm ‹_› | exact slT ‹_›)) ?_
  refine QW.ex rfl rfl rfl rfl (Ex.eql rfl rfl rfl) ?_
  refine QW.splitB (fun h1_13 => ?_) (fun h1_13 => ?_)
  · have h1_13 := of_decide_eq_true h1_13
    refine QW.ex rfl rfl rfl rfl (Ex.move rfl) ?_
    refine QW.ex rfl rfl rfl rfl (Ex.load1 ti9 rfl rfl (by first | exact obT rfl | exact Rd.imm ‹_› | exact slT ‹_›)) ?_
    refine QW.ex rfl rfl rfl rfl (Ex.fieldO 1 Try.underlying74 rfl rfl ti3 rfl) ?_
    refine QW.ex rfl rfl rfl rfl (Ex.load1 ti3 rfl rfl (by first | exact obT rfl | exact Rd.imm ‹_› | exact slT ‹_›)) ?_
    refine QW.ex rfl rfl rfl rfl (sliceStrF Try.underlying9 rfl rfl rfl hk) ?_
    refine QW.ex rfl rfl rfl rfl (Ex.fieldO 3 Try.underlying58 rfl rfl ti9 rfl) ?_
    refine QW.ex rfl rfl rfl rfl (Ex.load1 ti9 rfl rfl (by first | exact obT rfl | exact Rd.imm ‹_› | exact slT ‹_›)) ?_
    refine QW.hv rfl rfl rfl rfl (Hv.callS hS rfl rfl rfl cb30 (hasp_c (out.extract k.1.2 out.size) r.Out (Nat.le_trans ext_size ho) (by omega) _)) (fun _ _ h => ((h.2.rd).erase 0)) (fun _ _ h => h.2.rd) fun v w28 ⟨hv, hS⟩ => ?_
    subst hv
    refine QW.pu rfl rfl rfl rfl (by first | exact Ex.pick_yes rfl rfl | exact Ex.pick_no rfl rfl) ?_
    refine QW.nil ?_
    refine TW.hu rfl rfl rfl (Hv.storeN (k := 0) ti74 hS rfl rfl rfl rfl (by simp [Value.oneCell'])) (fun _ _ h => (h.rd.erase 0)) fun _ w_23 hS => ?_
    dsimp only [List.set] at hS
    refine TW.ex rfl rfl rfl rfl (Ex.assign rfl) hS.rd ?_
    refine TW.nil fun aa ha => hK4 _ _ _ ?_ aa ha
    refine CW.ret fun aa ha => ?_
    refine ret2 ha Try.results29 ⟨b5, _, _, _, _, rfl, ti74, rfl, fun j v hv => Rd.objAll (k := 0) rfl hS.rd j v hv, rfl⟩ rfl ?_
    rw [hnv]; exact hS.retE (by rw [show ftP out k r = preB (out.extract k.1.2 out.size) r.Out from by unfold ftP; rw [decide_eq_true h1_13, preB_drop hk]; rfl])
  · have h1_13 := of_decide_eq_false h1_13
    refine QW.ex rfl rfl rfl rfl (Ex.move rfl) ?_
    refine QW.skip rfl rfl rfl rfl ?_
    refine QW.skip rfl rfl rfl rfl ?_
    refine QW.skip rfl rfl rfl rfl ?_
    refine QW.skip rfl rfl rfl rfl ?_
    refine QW.skip rfl rfl rfl rfl ?_
    refine QW.skip rfl rfl rfl rfl ?_
    refine QW.skip1 rfl rfl rfl rfl ?_
    refine QW.pu rfl rfl rfl rfl (by first | exact Ex.pick_yes rfl rfl | exact Ex.pick_no rfl rfl) ?_
    refine QW.nil ?_
    refine TW.hu rfl rfl rfl (Hv.storeN (k := 0) ti74 hS rfl rfl rfl rfl (by simp [Value.oneCell'])) (fun _ _ h => (h.rd.erase 0)) fun _ w_23 hS => ?_
    dsimp only [List.set] at hS
    refine TW.ex rfl rfl rfl rfl (Ex.assign rfl) hS.rd ?_
    refine TW.nil fun aa ha => hK4 _ _ _ ?_ aa ha
    refine CW.ret fun aa ha => ?_
    refine ret2 ha Try.results29 ⟨b5, _, _, _, _, rfl, ti74, rfl, fun j v hv => Rd.objAll (k := 0) rfl hS.rd j v hv, rfl⟩ rfl ?_
    rw [hnv]; exact hS.retE (by rw [show ftP out k r = false from by unfold ftP; rw [decide_eq_false h1_13]; rfl])
theorem goes1_c (k : Fin 8) (r : Rule) (ht : 0 ≤ r.To ∧ r.To ≤ 7) (w : World) :
    Calls Try.prog 42 #[.int .i64 (k.val : Nat), ruleV r] w (RetS w (.tuple #[kmV (nvI k r), .bool (ftI k r)])) := by
  have hnv : kmV (nvI k r) = .int .i64 r.To := by
    show Value.int .i64 ((modeF r.To).val : Nat) = _
    rw [modeF_val ht]
  have hS := St.start w (fun _ => none) (fun _ _ h => by cases h)
  refine calls_start 12 [.int .i64 (k.val : Nat), ruleV r] Try.func42 rfl Try.ntmps42 rfl rfl ?_
  refine CW.seq fun K5 hK5 => ?_
  refine CW.region [0, 1, 2] rfl ?_
  refine LW.hv rfl rfl rfl rfl (Hv.boxS hS rfl rfl) fun v w3 ⟨b3, hv, hb3, hS⟩ => ?_
  subst hv
  refine LW.ex rfl rfl rfl rfl (Ex.assign rfl) hS.rd ?_
  refine LW.ex rfl rfl rfl rfl (Ex.assign rfl) hS.rd ?_
  refine LW.nil fun aa ha => hK5 _ _ _ ?_ aa ha
  refine CW.seq fun K6 hK6 => ?_
  have hS := hS.drew
  refine CW.draw 8 (.ex 0 <| .ex 1 <| .ex 2 <| .ex 3 <| .ex 4 <| .ex 5 <| .ex 6 <| .ex 7 <| .done) [] (Rd _ _) mixed (by kernel_rfl) rfl rfl hS.rd ?_
  refine PW.ex rfl rfl rfl rfl (Ex.fieldO 1 Try.underlying58 rfl rfl ti3 rfl) ?_
  refine PW.ex rfl rfl rfl rfl (Ex.load1 ti3 rfl rfl (by first | exact obT rfl | exact Rd.imm ‹_› | exact slT ‹_›)) ?_
  refine PW.ex rfl rfl rfl rfl (Ex.move rfl) ?_
  refine PW.ex rfl rfl rfl rfl (Ex.fieldO 0 Try.underlying58 rfl rfl ti3 rfl) ?_
  refine PW.ex rfl rfl rfl rfl (Ex.load1 ti3 rfl rfl (by first | exact obT rfl | exact Rd.imm ‹_› | exact slT ‹_›)) ?_
  refine PW.ex rfl rfl rfl rfl (Ex.eql rfl rfl (by first | exact decide_eq_true (by omega) | exact decide_eq_false (by omega) | rfl)) ?_
  refine PW.ex rfl rfl rfl rfl (Ex.assign rfl) ?_
  refine PW.ex rfl rfl rfl rfl (Ex.assign rfl) ?_
  refine PW.nil ?_
  refine LW.nil fun aa ha => hK6 _ _ _ ?_ aa ha
  refine CW.ret fun aa ha => ?_
  refine ret_two ha Try.results42 rfl rfl ?_
  rw [hnv]; exact hS.retS
end Go.Proofs.Ytgbdfgifgngijaa
