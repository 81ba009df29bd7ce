import Derived.Test.YtgbdfgifgngijaaL12
import Derived.Laws.RangeString

/-
  'for i := range s' over a string of small bytes.
-/
namespace Go.Proofs.Ytgbdfgifgngijaa.Sy
open Go.RowKit Go.Maps Go.MapKept Go.ChangeMaps

/-- An iterator over a string. -/
def Own.sit (r : Nat) (s : ByteArray) (pos : Nat) : Own :=
  ⟨fun bs h => bs = [r] ∧ h r = some (.stringIter s pos), fun bs h h' ⟨e, hr⟩ hh => ⟨e, by rw [hh r (by simp [e])]; exact hr⟩⟩
section
variable {P : Program} {m : List (Nat × Value)} {t : TypeId} {x : Operand} {w0 w : World} {μ : Mem} {L : List Own} {s : ByteArray}
theorem Hv.rangeStr (ht : P.underlying t = some .string) (hS : St w0 w μ L) (hx : Sy.ev m x = some (.string s)) :
    Hv P m (.range t x) w (fun u w' => ∃ r, u = .pointer (some ⟨r, 0, none⟩) ∧ w.heap.size ≤ r ∧ St w0 w' μ (Own.sit r s 0 :: L)) :=
  .of_run fun ρ ha o ho => ⟨.pointer (some ⟨w.heap.size, 0, none⟩), w.alloc (.stringIter s 0), by
    have := run_range_string (P := P) w t s ht
    simp [execOp, ho, ha _ _ hx, this, World.iter, go_sem], w.heap.size, rfl, Nat.le_refl _, hS.add ((Bel.refl _ _).alloc (Nat.le_refl _) _) (Own.sit w.heap.size s 0) (bs := [w.heap.size])
      ⟨rfl, heap_alloc w _⟩ (by simp) (fun b hb => by
      obtain rfl : b = w.heap.size := by simpa using hb
      rw [size_alloc]; omega)⟩
/-- A step, over or not. -/
theorem Hv.nextStr {r pos : Nat} (i : Nat) (hS : St w0 w μ L) (hi : L[i]? = some (Own.sit r s pos)) (hx : Sy.ev m x = some (.pointer (some ⟨r, 0, none⟩))) (ha7 : pos < s.size → (sAt s pos).toNat < 128) :
    Hv P m (.next x true) w (fun u w' => ∃ bo rest pos', u = .tuple (Value.bool bo :: rest).toArray ∧ (bo = false → ¬ pos < s.size ∧ pos' = pos) ∧ (bo = true → pos < s.size ∧ pos' = pos + 1 ∧ rest = [.int .i64 pos, .int .i32 (sAt s pos).toNat]) ∧ St w0 w' μ (L.set i (Own.sit r s pos'))) :=
  .of_run fun ρ ha o ho => by
    obtain ⟨bs, ⟨rfl, hr⟩, hnd, hin, hstep⟩ := hS.turn hi
    have hr' : w.heap[r]? = some (.stringIter s pos) := hr
    by_cases h : pos < s.size
    · have hd : Utf8.decode s pos = ((sAt s pos).toNat, 1) := by
        have e : s[pos] = sAt s pos := by
          have h2 := sAt_of h
          rw [List.getElem?_eq_getElem (show pos < (bl s).length from h)] at h2
          exact Option.some.inj h2
        have := ha7 h
        rw [decode_ascii s pos h (by rw [e]; exact this), e]
      refine ⟨.tuple #[.bool true, .int .i64 pos, .int .i32 (sAt s pos).toNat], setBlock w r (.stringIter s (pos + 1)), ?_, true, _, pos + 1, rfl, fun h => by (cases h), fun _ => ⟨h, rfl, rfl⟩, ?_⟩
      · simp [execOp, ho, ha _ _ hx, Instr.next, getObj, setObj, Sem.run, hr', h, hd, goInt, setBlock, Result.andThen, go_sem]
      · exact hstep _ _ [r] rfl rfl rfl (Nat.le_refl _) (by simp [setBlock]) (fun c hc hcn => setBlock_other (by simpa using hcn)) ⟨rfl, setBlock_same hr'⟩ (by simp) (fun c hc => .inl hc)
    · refine ⟨.tuple #[.bool false], w, by simp [execOp, ho, ha _ _ hx, Instr.next, getObj, Sem.run, hr', h, Result.andThen, go_sem], false, [], pos, rfl, fun _ => ⟨h, rfl⟩, fun h => by (cases h), ?_⟩
      rw [set_same hi]; exact hS
end
end Go.Proofs.Ytgbdfgifgngijaa.Sy

/-
  Output: what goes on; the walk of Goes.
-/
namespace Go.Proofs.Ytgbdfgifgngijaa
open Go.RowKit Sy Go.Maps

def firstI {α : Type} (p : α → Bool) (xs : List α) : Int := if xs.findIdx p < xs.length then (xs.findIdx p : Nat) else -1
theorem indexR_c (xs : List Rule) (p : Rule → Bool) (f : Nat) (cap : Array Value) (hf : Callable Try.prog f) (ad : Option Addr) (c : Nat) (μ : Mem) (w : World) (hμ : Imm μ w) (hl : Sl μ ad c xs)
    (hp : ∀ x ∈ xs, ∀ w', Imm μ w' → Calls Try.prog f ([ruleV x] ++ cap.toList).toArray w' (RetS w' (.bool (p x)))) :
    Calls Try.prog 63 #[.slice ad xs.length c, .func (.func f) #[] cap] w (RetS w (.int .i64 (firstI p xs))) := by
  have hll := hl.1
  have hlc := hl.2.1
  simp only [maxLen] at hlc
  have hS := St.start w μ hμ
  refine calls_start 19 [.slice ad xs.length c, .func (.func f) #[] cap] Try.func63 rfl Try.ntmps63 rfl rfl ?_
  refine CW.seq fun K1 hK1 => ?_
  refine CW.region [0] rfl ?_
  refine LW.ex rfl rfl rfl rfl (Ex.assign rfl) hS.rd ?_
  refine LW.nil fun aa ha => hK1 _ _ _ ?_ aa ha
  refine CW.seq fun K2 hK2 => ?_
  refine CW.seq fun K3 hK3 => ?_
  refine CW.region [0, 1, 2] rfl ?_
  refine LW.ex rfl rfl rfl rfl (Ex.move rfl) hS.rd ?_
  refine LW.ex rfl rfl rfl rfl (Ex.lenSl rfl Try.underlying27 rfl) hS.rd ?_
  refine LW.ex rfl rfl rfl rfl (Ex.move rfl) hS.rd ?_
  refine LW.nil fun aa ha => hK3 _ _ _ ?_ aa ha
  refine CW.block ?_
  refine CW.loop (fun qq frm wl2 => ∃ (i : Nat), i ≤ xs.length ∧ qq = xs.length - i ∧ frm = [(0, .slice ad xs.length c), (1, .func (.func f) #[] cap), (7, .int .i64 ((xs.length : Nat) : Int)), (8, .int .i64 i)] ∧ St w wl2 μ [] ∧ (∀ j (hj : j < xs.length), j < i → p xs[j] = false)) _ ⟨0, (by first | omega | (simp; done) | (simp; omega)), rfl, rfl, hS, fun j _ hj => by omega⟩ ⟨rfl, rfl, rfl, rfl, trivial⟩ ?_
  clear hS
  rintro qq frm wl2 ⟨i, hi, hq, rfl, hS, he⟩
  refine CW.seq fun K4 hK4 => ?_
  refine CW.region [0] rfl ?_
  refine LW.ex rfl rfl rfl rfl (Ex.lss rfl rfl rfl) hS.rd ?_
  refine LW.splitB (fun h2_0 => ?_) (fun h2_0 => ?_)
  · have h2_0 := of_decide_eq_true h2_0
    refine LW.nil fun aa ha => hK4 _ _ _ ?_ aa ha
    refine CW.seq fun K5 hK5 => ?_
    refine CW.yes rfl ?_
    refine CW.skip fun aa ha => hK5 _ _ _ ?_ aa ha
    refine CW.seq fun K6 hK6 => ?_
    refine CW.block ?_
    refine CW.seq fun K7 hK7 => ?_
    have hi2 : i < xs.length := by omega
    obtain ⟨bl, ol, rfl, k0, k1, k2, k3, k4⟩ := hl.at hi2
    refine CW.region [0, 1] rfl ?_
    refine LW.ex rfl rfl rfl rfl (Ex.move rfl) hS.rd ?_
    refine LW.ex rfl rfl rfl rfl (Ex.assign rfl) hS.rd ?_
    refine LW.nil fun aa ha => hK7 _ _ _ ?_ aa ha
    refine CW.seq fun K8 hK8 => ?_
    refine CW.region [0, 1, 2, 3, 4, 5] rfl ?_
    refine LW.ex rfl rfl rfl rfl (Ex.move rfl) hS.rd ?_
    refine LW.ex rfl rfl rfl rfl (Ex.move rfl) hS.rd ?_
    refine LW.ex rfl rfl rfl rfl (Ex.move rfl) hS.rd ?_
    refine LW.ex rfl rfl rfl rfl (Ex.indexSl Try.underlying27 ti58 rfl rfl rfl (by omega)) hS.rd ?_
    refine LW.ex rfl rfl rfl rfl (Ex.load5c ti58 rfl rfl (by first | exact obT rfl | exact Rd.imm ‹_› | exact slT ‹_›) (by first | exact obT rfl | exact Rd.imm ‹_› | exact slT ‹_›) (by first | exact obT rfl | exact Rd.imm ‹_› | exact slT ‹_›) (by first | exact obT rfl | exact Rd.imm ‹_› | exact slT ‹_›) (by first | exact obT rfl | exact Rd.imm ‹_› | exact slT ‹_›)) hS.rd ?_
    refine LW.hv rfl rfl rfl rfl (Hv.callS hS rfl rfl rfl hf (hp xs[i] (List.getElem_mem hi2) _ hS.imm)) fun v w16 ⟨hv, hS⟩ => ?_
    subst hv
    refine LW.splitB (fun h4_5 => ?_) (fun h4_5 => ?_)
    · skip
      refine LW.nil fun aa ha => hK8 _ _ _ ?_ aa ha
      refine CW.yes rfl ?_
      refine CW.seq fun K9 hK9 => ?_
      refine CW.region [0, 1] rfl ?_
      refine LW.ex rfl rfl rfl rfl (Ex.move rfl) hS.rd ?_
      refine LW.ex rfl rfl rfl rfl (Ex.assign rfl) hS.rd ?_
      refine LW.nil fun aa ha => hK9 _ _ _ ?_ aa ha
      refine CW.ret fun aa ha => ?_
      refine ret_one ha Try.results63 rfl ?_
      exact hS.retE (by unfold firstI; rw [(List.findIdx_eq hi2).2 ⟨h4_5, fun j hj => he j (by omega) hj⟩, if_pos hi2])
    · skip
      refine LW.nil fun aa ha => hK8 _ _ _ ?_ aa ha
      refine CW.no rfl ?_
      refine CW.skip fun aa ha => hK6 _ _ _ ?_ aa ha
      refine CW.region [0, 1] rfl ?_
      refine LW.ex rfl rfl rfl rfl (Ex.add rfl rfl (by first | exact inc64 (by omega) | exact addN (by omega) | exact w64 (by omega) (by omega))) hS.rd ?_
      refine LW.ex rfl rfl rfl rfl (Ex.move rfl) hS.rd ?_
      refine LW.nil fun aa ha => ?_
      refine ⟨_, _, ?m2, ⟨i + 1, (by first | omega | (simp; done) | (simp; omega)), rfl, rfl, hS, ?_⟩, ha.sub ⟨rfl, rfl, rfl, rfl, trivial⟩⟩
      case m2 => omega
      intro j hj hji
      by_cases hj2 : j = i
      · subst hj2; exact h4_5
      · exact he j hj (by omega)
  · have h2_0 := of_decide_eq_false h2_0
    refine LW.nil fun aa ha => hK4 _ _ _ ?_ aa ha
    refine CW.seq fun K10 hK10 => ?_
    refine CW.no rfl ?_
    refine CW.exit fun aa ha => hK2 _ _ _ ?_ aa ha
    refine CW.seq fun K11 hK11 => ?_
    refine CW.region [0] rfl ?_
    refine LW.ex rfl rfl rfl rfl (Ex.assign rfl) hS.rd ?_
    refine LW.nil fun aa ha => hK11 _ _ _ ?_ aa ha
    refine CW.ret fun aa ha => ?_
    refine ret_one ha Try.results63 rfl ?_
    exact hS.retE (by unfold firstI; rw [List.findIdx_eq_length.2 fun y hy => (by obtain ⟨j, hj, rfl⟩ := List.getElem_of_mem hy; exact he j hj (by omega)), if_neg (by omega)])
theorem firstI_any {α : Type} (p : α → Bool) (xs : List α) : decide (0 ≤ firstI p xs) = xs.any p := by
  unfold firstI
  by_cases h : xs.findIdx p < xs.length
  · rw [if_pos h, decide_eq_true (by omega)]
    symm; rw [List.any_eq_true]
    exact ⟨_, List.getElem_mem h, List.findIdx_getElem⟩
  · rw [if_neg h, decide_eq_false (by omega)]
    symm; rw [List.any_eq_false]
    intro x hx hp
    exact h (List.findIdx_lt_length_of_exists ⟨x, hx, hp⟩)
theorem containsR_c (xs : List Rule) (p : Rule → Bool) (f : Nat) (cap : Array Value) (hf : Callable Try.prog f) (ad : Option Addr) (c : Nat) (μ : Mem) (w : World) (hμ : Imm μ w) (hl : Sl μ ad c xs)
    (hp : ∀ x ∈ xs, ∀ w', Imm μ w' → Calls Try.prog f ([ruleV x] ++ cap.toList).toArray w' (RetS w' (.bool (p x)))) :
    Calls Try.prog 44 #[.slice ad xs.length c, .func (.func f) #[] cap] w (RetS w (.bool (xs.any p))) := by
  have hS := St.start w μ hμ
  refine calls_start 9 [.slice ad xs.length c, .func (.func f) #[] cap] Try.func44 rfl Try.ntmps44 rfl rfl ?_
  refine CW.seq fun K12 hK12 => ?_
  refine CW.region [0] rfl ?_
  refine LW.ex rfl rfl rfl rfl (Ex.assign rfl) hS.rd ?_
  refine LW.nil fun aa ha => hK12 _ _ _ ?_ aa ha
  refine CW.seq fun K13 hK13 => ?_
  refine CW.region [0, 1, 2, 3, 4] rfl ?_
  refine LW.ex rfl rfl rfl rfl (Ex.move rfl) hS.rd ?_
  refine LW.ex rfl rfl rfl rfl (Ex.move rfl) hS.rd ?_
  refine LW.hv rfl rfl rfl rfl (Hv.callS hS rfl rfl rfl cb63 (indexR_c xs p f cap hf _ _ _ _ hS.imm hl hp)) fun v w7 ⟨hv, hS⟩ => ?_
  subst hv
  refine LW.ex rfl rfl rfl rfl (Ex.geq rfl rfl (firstI_any p xs)) hS.rd ?_
  refine LW.ex rfl rfl rfl rfl (Ex.assign rfl) hS.rd ?_
  refine LW.nil fun aa ha => hK13 _ _ _ ?_ aa ha
  refine CW.ret fun aa ha => ?_
  refine ret_one ha Try.results44 rfl ?_
  exact hS.retS
/-- A rule begins with what is left. -/
def begB (inp : ByteArray) (k i : Nat) (r : Rule) : Bool := decide (r.From = (k : Int)) && preB r.In (inp.extract i inp.size)
set_option maxRecDepth 100000 in
theorem goes2_c (inp : ByteArray) (k i b8 b3 b7 : Nat) (r : Rule) (hi : i ≤ inp.size) (hin : inp.size ≤ 1000000) (hr : RSmall r) (μ : Mem) (w : World) (hμ : Imm μ w) (h8 : μ.cell b8 0 = some (.int .i64 k)) (h3 : μ.cell b3 0 = some (.string inp)) (h7 : μ.cell b7 0 = some (.int .i64 i)) :
    Calls Try.prog 43 #[ruleV r, .pointer (some ⟨b8, 0, none⟩), .pointer (some ⟨b3, 0, none⟩), .pointer (some ⟨b7, 0, none⟩)] w (RetS w (.bool (begB inp k i r))) := by
  have hS := St.start w μ hμ
  refine calls_start 18 [ruleV r, .pointer (some ⟨b8, 0, none⟩), .pointer (some ⟨b3, 0, none⟩), .pointer (some ⟨b7, 0, none⟩)] Try.func43 rfl Try.ntmps43 rfl rfl ?_
  refine CW.seq fun K14 hK14 => ?_
  refine CW.region [0, 1] rfl ?_
  refine LW.hv rfl rfl rfl rfl (Hv.boxS hS rfl rfl) fun v w4 ⟨b4, hv, hb4, hS⟩ => ?_
  subst hv
  refine LW.ex rfl rfl rfl rfl (Ex.assign rfl) hS.rd ?_
  refine LW.nil fun aa ha => hK14 _ _ _ ?_ aa ha
  refine CW.seq fun K15 hK15 => ?_
  have hS := hS.drew
  refine CW.draw 13 (.ex 0 <| .ex 1 <| .ex 2 <| .ex 3 <| .ex 4 <| .ex 5 <| .ex 6 <| .ex 7 <| .ex 8 <| .ex 9 <| .one 10 <| .ex 11 <| .ex 12 <| .done) [] (Rd _ _) mixed (by kernel_rfl) rfl rfl hS.rd ?_
  refine PW.ex rfl rfl rfl rfl (Ex.fieldO 0 Try.underlying58 rfl rfl ti3 rfl) ?_
  refine PW.ex rfl rfl rfl rfl (Ex.load1 ti3 rfl rfl (by first | exact obT rfl | exact Rd.imm ‹_› | exact slT ‹_›)) ?_
  refine PW.ex rfl rfl rfl rfl (Ex.load1 ti3 rfl rfl (by first | exact obT rfl | exact Rd.imm ‹_› | exact slT ‹_›)) ?_
  refine PW.ex rfl rfl rfl rfl (Ex.eql rfl rfl rfl) ?_
  refine PW.splitB (fun h1_3 => ?_) (fun h1_3 => ?_)
  · have h1_3 := of_decide_eq_true h1_3
    refine PW.ex rfl rfl rfl rfl (Ex.move rfl) ?_
    refine PW.ex rfl rfl rfl rfl (Ex.fieldO 2 Try.underlying58 rfl rfl ti9 rfl) ?_
    refine PW.ex rfl rfl rfl rfl (Ex.load1 ti9 rfl rfl (by first | exact obT rfl | exact Rd.imm ‹_› | exact slT ‹_›)) ?_
    refine PW.ex rfl rfl rfl rfl (Ex.load1 ti9 rfl rfl (by first | exact obT rfl | exact Rd.imm ‹_› | exact slT ‹_›)) ?_
    refine PW.ex rfl rfl rfl rfl (Ex.load1 ti3 rfl rfl (by first | exact obT rfl | exact Rd.imm ‹_› | exact slT ‹_›)) ?_
    refine PW.ex rfl rfl rfl rfl (sliceStrF Try.underlying9 rfl rfl rfl hi) ?_
    refine PW.hv rfl rfl rfl rfl (Hv.callS hS rfl rfl rfl cb30 (hasp_c r.In (inp.extract i inp.size) hr.1 (Nat.le_trans ext_size (by omega)) _)) (fun _ _ h => h.2.rd) fun v w16 ⟨hv, hS⟩ => ?_
    subst hv
    refine PW.ex rfl rfl rfl rfl (by first | exact Ex.pick_yes rfl rfl | exact Ex.pick_no rfl rfl) ?_
    refine PW.ex rfl rfl rfl rfl (Ex.assign rfl) ?_
    refine PW.nil ?_
    refine LW.nil fun aa ha => hK15 _ _ _ ?_ aa ha
    refine CW.ret fun aa ha => ?_
    refine ret_one ha Try.results43 rfl ?_
    exact hS.retB (by unfold begB; rw [decide_eq_true h1_3]; rfl)
  · have h1_3 := of_decide_eq_false h1_3
    refine PW.ex rfl rfl rfl rfl (Ex.move rfl) ?_
    refine PW.skip rfl rfl rfl rfl ?_
    refine PW.skip rfl rfl rfl rfl ?_
    refine PW.skip rfl rfl rfl rfl ?_
    refine PW.skip rfl rfl rfl rfl ?_
    refine PW.skip rfl rfl rfl rfl ?_
    refine PW.skip1 rfl rfl rfl rfl ?_
    refine PW.ex rfl rfl rfl rfl (by first | exact Ex.pick_yes rfl rfl | exact Ex.pick_no rfl rfl) ?_
    refine PW.ex rfl rfl rfl rfl (Ex.assign rfl) ?_
    refine PW.nil ?_
    refine LW.nil fun aa ha => hK15 _ _ _ ?_ aa ha
    refine CW.ret fun aa ha => ?_
    refine ret_one ha Try.results43 rfl ?_
    exact hS.retB (by unfold begB; rw [decide_eq_false h1_3]; rfl)
/-! ### Plain -/
def xI (s : Sch) (inp : ByteArray) : WX (Fin 8) := ⟨s.Rules, inp, 0, nvI, ftI⟩
theorem takesI {s : Sch} (hs : SchOk s) (hf : Fed s) (inp : ByteArray) : Takes (xI s inp) := fun r hr => by
  have := hs.rule (show r ∈ s.Rules from hr)
  exact ⟨hf r hr, by omega, by omega⟩
def GoesP (s : Sch) (inp : ByteArray) : Prop := sndB s inp = true ∧ ((∃ k c, Rt (xI s inp) inp.size k c) ∨ ∃ i, i < inp.size ∧ ∃ k c, Rt (xI s inp) i k c ∧ s.Rules.any (begB inp k.val i) = true)
def IsGoes (s : Sch) (inp : ByteArray) (_ : Mem) (v : Value) : Prop := ∃ b : Bool, v = .bool b ∧ (b = true ↔ GoesP s inp)
theorem lenI {kv : List (Fin 8 × Int)} (hn : (kv.map Prod.fst).Nodup) : kv.length ≤ 8 := by
  have h := nodup_len 8 (kv.map fun q => q.1.val) (List.pairwise_map.2 ((List.pairwise_map.1 hn).imp fun {a b} h e => h (Fin.ext e))) (fun x hx => by
    obtain ⟨q, _, rfl⟩ := List.mem_map.1 hx
    exact q.1.isLt)
  rw [List.length_map] at h; exact h
theorem goes1_x {s : Sch} (hs : SchOk s) {inp : ByteArray} : ∀ p k c, Rt (xI s inp) p k c → ∀ r ∈ (xI s inp).rules, ∀ (μ : Mem) w', Imm μ w' → Calls Try.prog 42 #[kmV k, ruleV r] w' (RetS w' (.tuple #[kmV ((xI s inp).nv k r), .bool ((xI s inp).ft k r)])) := fun p k c h r hr μ w' hμ =>
  goes1_c k r (hs.rule (show r ∈ s.Rules from hr)).2.1 w'
end Go.Proofs.Ytgbdfgifgngijaa

/-
  Output: the walk of Goes.
-/
namespace Go.Proofs.Ytgbdfgifgngijaa
open Go.RowKit Sy Go.Maps

theorem perm_last2 {α : Type} {a b : α} {M : List α} : (M ++ [a, b]).Perm (a :: b :: (M ++ [])) := by
  rw [List.append_nil]
  have := List.perm_append_comm (l₁ := M) (l₂ := [a, b])
  exact this
theorem ascii {inp : ByteArray} (h : lettersC inp = true) {i : Nat} (hi : i < inp.size) : (sAt inp i).toNat < 128 := by
  unfold lettersC allC at h
  rw [Bool.and_eq_true] at h
  have h := h.2
  rw [List.all_eq_true] at h
  have h2 := h _ (List.mem_of_getElem? (sAt_of hi))
  unfold clsOk at h2
  have h3 := (of_decide_eq_true h2).1
  unfold clsN at h3
  split at h3
  · omega
  · split at h3
    · omega
    · split at h3
      · omega
      · exact absurd rfl h3
set_option maxRecDepth 100000 in
set_option maxHeartbeats 4000000 in
theorem goes_c (s : Sch) (hs : SSmall s) (inp : ByteArray) (hin : inp.size ≤ 40) (hfed : sndB s inp = true → Fed s) (a0 : Option Addr) (c0 : Nat) (μ : Mem) (w : World) (hμ : Imm μ w) (h0 : Sl μ a0 c0 s.Rules) :
    Calls Try.prog 19 #[.agg #[.int .i64 s.Modes, .int .u8 s.Accept.toNat, .slice a0 s.Rules.length c0], .string inp] w (RetV w μ (IsGoes s inp)) := by
  have hS := St.start w μ hμ
  refine calls_start 47 [.agg #[.int .i64 s.Modes, .int .u8 s.Accept.toNat, .slice a0 s.Rules.length c0], .string inp] Try.func19 rfl Try.ntmps19 rfl rfl ?_
  refine CW.seq fun K1 hK1 => ?_
  refine CW.region [0, 1, 2] rfl ?_
  refine LW.hv rfl rfl rfl rfl (Hv.boxS hS rfl rfl) fun v w2 ⟨b2, hv, hb2, hS⟩ => ?_
  subst hv
  refine LW.hv rfl rfl rfl rfl (Hv.boxS hS rfl rfl) fun v w3 ⟨b3, hv, hb3, hS⟩ => ?_
  subst hv
  refine LW.ex rfl rfl rfl rfl (Ex.assign rfl) hS.rd ?_
  refine LW.nil fun aa ha => hK1 _ _ _ ?_ aa ha
  refine CW.seq fun K2 hK2 => ?_
  refine CW.seq fun K3 hK3 => ?_
  refine CW.region [0, 1, 2, 3] rfl ?_
  refine LW.ex rfl rfl rfl rfl (Ex.load3c ti29 rfl rfl (by first | exact obT rfl | exact Rd.imm ‹_› | exact slT ‹_›) (by first | exact obT rfl | exact Rd.imm ‹_› | exact slT ‹_›) (by first | exact obT rfl | exact Rd.imm ‹_› | exact slT ‹_›)) hS.rd ?_
  refine LW.ex rfl rfl rfl rfl (Ex.load1 ti9 rfl rfl (by first | exact obT rfl | exact Rd.imm ‹_› | exact slT ‹_›)) hS.rd ?_
  refine LW.hv rfl rfl rfl rfl (Hv.callS hS rfl rfl rfl cb27 (osound_c s hs inp (by omega) _ _ μ _ hS.imm h0)) fun v w12 ⟨hv, hS⟩ => ?_
  subst hv
  refine LW.splitB (fun h1_2 => ?_) (fun h1_2 => ?_)
  · skip
    refine LW.ex rfl rfl rfl rfl (Ex.not rfl rfl) hS.rd ?_
    refine LW.nil fun aa ha => hK3 _ _ _ ?_ aa ha
    refine CW.no rfl ?_
    refine CW.skip fun aa ha => hK2 _ _ _ ?_ aa ha
    refine CW.seq fun K4 hK4 => ?_
    have hgood : sndB s inp = true := by assumption
    have hok := (sndB_iff.1 hgood).1
    have hlt := (sndB_iff.1 hgood).2.2
    have hf := hfed hgood
    have hi2 : inp.size < inp.size + 1 := by omega
    have hX := takesI hok hf inp
    refine CW.region [0, 1, 2, 3, 4, 5, 6, 7, 8] rfl ?_
    refine LW.ex rfl rfl rfl rfl (Ex.load1 ti9 rfl rfl (by first | exact obT rfl | exact Rd.imm ‹_› | exact slT ‹_›)) hS.rd ?_
    refine LW.ex rfl rfl rfl rfl (Ex.fieldO 2 Try.underlying29 rfl rfl ti27 rfl) hS.rd ?_
    refine LW.ex rfl rfl rfl rfl (Ex.load1 ti27 rfl rfl (by first | exact obT rfl | exact Rd.imm ‹_› | exact slT ‹_›)) hS.rd ?_
    refine LW.hv rfl rfl rfl rfl (Hv.callM rfl rfl rfl cb41 (walkI_m (xI s inp) hX 9223372036854775807 42 cb42 hS a0 c0 h0 hok.rl hin hok.small (fun p k c h r hr w' hi => goes1_x hok p k c h r hr μ w' hi))) fun v w18 ⟨g, ok, ms, bs, hv, hW, hS⟩ => ?_
    subst hv
    have hS := st_perm' hS (List.Perm.cons _ perm_last2)
    refine LW.ex rfl rfl rfl rfl (Ex.move rfl) hS.rd ?_
    refine LW.ex rfl rfl rfl rfl (Ex.extract rfl rfl) hS.rd ?_
    refine LW.ex rfl rfl rfl rfl (Ex.extract rfl rfl) hS.rd ?_
    refine LW.ex rfl rfl rfl rfl (Ex.assign rfl) hS.rd ?_
    refine LW.ex rfl rfl rfl rfl (Ex.assign rfl) hS.rd ?_
    refine LW.nil fun aa ha => hK4 _ _ _ ?_ aa ha
    refine CW.seq fun K5 hK5 => ?_
    refine CW.seq fun K6 hK6 => ?_
    have hok2 : ok = true := by
      cases ok with
      | true => rfl
      | false =>
        unfold WRes at hW
        rw [if_neg (by decide)] at hW
        obtain ⟨i, hi, hwi, hgt⟩ := hW
        have hi3 : i ≤ inp.size := hi
        have hnd := st_nodup hS (maps_get [_, _, _] (show i < inp.size + 1 by omega))
        have := lenI hnd
        omega
    subst hok2
    have hW2 : WI (xI s inp) ms (inp.size + 1) := by have h := hW; unfold WRes at h; rw [if_pos rfl] at h; exact h.1
    have hnd : ∀ j, j ≤ inp.size → ((ms j).map Prod.fst).Nodup := fun j hj => st_nodup hS (maps_get [_, _, _] (show j < inp.size + 1 by omega))
    refine CW.region [0, 1, 2, 3, 4, 5, 6] rfl ?_
    refine LW.ex rfl rfl rfl rfl (Ex.move rfl) hS.rd ?_
    refine LW.ex rfl rfl rfl rfl (Ex.load1 ti9 rfl rfl (by first | exact obT rfl | exact Rd.imm ‹_› | exact slT ‹_›)) hS.rd ?_
    refine LW.ex rfl rfl rfl rfl (Ex.lenS rfl Try.underlying9 rfl) hS.rd ?_
    refine LW.ex rfl rfl rfl rfl (Ex.indexSl Try.underlying99 ti103 rfl rfl rfl (by show inp.size < inp.size + 1; omega)) hS.rd ?_
    refine LW.ex rfl rfl rfl rfl (Ex.load1 ti103 rfl rfl (Rd.sl (k := 0) rfl (by rw [Nat.zero_add, Nat.mul_one]; exact cellsF_get hi2 hi2))) hS.rd ?_
    refine LW.ex rfl rfl rfl rfl (Ex.lenMap rfl Try.underlying103 (inp.size + 3) (maps_get [_, _, _] hi2) rfl) hS.rd ?_
    refine LW.ex rfl rfl rfl rfl (Ex.gtr rfl rfl rfl) hS.rd ?_
    refine LW.splitB (fun h4_6 => ?_) (fun h4_6 => ?_)
    · have h4_6 := of_decide_eq_true h4_6
      refine LW.nil fun aa ha => hK6 _ _ _ ?_ aa ha
      refine CW.yes rfl ?_
      refine CW.seq fun K7 hK7 => ?_
      refine CW.region [0] rfl ?_
      refine LW.ex rfl rfl rfl rfl (Ex.assign rfl) hS.rd ?_
      refine LW.nil fun aa ha => hK7 _ _ _ ?_ aa ha
      refine CW.ret fun aa ha => ?_
      refine ret_one ha Try.results19 rfl ?_
      refine ⟨_, μ, rfl, hS.below, Mem.ext.refl _ _, hS.imm, true, rfl, ⟨fun _ => ⟨hgood, .inl ?_⟩, fun _ => rfl⟩⟩
      cases hm : ms inp.size with
      | nil => rw [hm] at h4_6; simp at h4_6
      | cons p r => exact ⟨p.1, p.2, hW2.snd _ _ _ (aget_of (hnd _ (Nat.le_refl _)) (by rw [hm]; exact List.mem_cons_self ..))⟩
    · have h4_6 := of_decide_eq_false h4_6
      refine LW.nil fun aa ha => hK6 _ _ _ ?_ aa ha
      refine CW.no rfl ?_
      refine CW.skip fun aa ha => hK5 _ _ _ ?_ aa ha
      refine CW.seq fun K8 hK8 => ?_
      refine CW.seq fun K9 hK9 => ?_
      refine CW.region [0, 1] rfl ?_
      refine LW.ex rfl rfl rfl rfl (Ex.load1 ti9 rfl rfl (by first | exact obT rfl | exact Rd.imm ‹_› | exact slT ‹_›)) hS.rd ?_
      refine LW.hv rfl rfl rfl rfl (Hv.rangeStr Try.underlying9 hS rfl) fun v w29 ⟨r29, hv, hr29, hS⟩ => ?_
      subst hv
      refine LW.nil fun aa ha => hK9 _ _ _ ?_ aa ha
      refine CW.block ?_
      refine CW.loop (fun qq frm wl7 => ∃ (i : Nat), i ≤ inp.size ∧ qq = inp.size - i ∧ frm = [(2, .pointer (some ⟨b2, 0, none⟩)), (3, .pointer (some ⟨b3, 0, none⟩)), (5, .slice (some ⟨g, 0, none⟩) (inp.size + 1) (inp.size + 1)), (29, .pointer (some ⟨r29, 0, none⟩))] ∧ St w wl7 μ (Own.sit r29 inp i :: Own.sl (some ⟨g, 0, none⟩) (inp.size + 1) (inp.size + 1) 103 1 (cellsF bs (inp.size + 1) (inp.size + 1)) :: Own.obj b3 [.string inp] 9 :: Own.obj b2 [.int .i64 s.Modes, .int .u8 s.Accept.toNat, .slice a0 s.Rules.length c0] 29 :: (mapsO kmV iV bs ms (inp.size + 1) ++ [])) ∧ (∀ j, j < i → ∀ k c, Rt (xI s inp) j k c → s.Rules.any (begB inp k.val j) = false)) _ ⟨0, (by first | omega | (simp; done) | (simp; omega)), rfl, rfl, hS, fun j h => by omega⟩ ⟨rfl, rfl, rfl, rfl, trivial⟩ ?_
      clear hS
      rintro qq frm wl7 ⟨i, hi, hq, rfl, hS, hN⟩
      refine CW.seq fun K10 hK10 => ?_
      refine CW.region [0, 1] rfl ?_
      refine LW.hv rfl rfl rfl rfl (Hv.nextStr 0 hS rfl rfl (fun h => ascii hlt h)) fun v w30 ⟨bo, rest, i', hv, hF, hT, hS⟩ => ?_
      subst hv
      dsimp only [List.set] at hS
      refine LW.ex rfl rfl rfl rfl (extract0 rfl) hS.rd ?_
      refine LW.splitB (fun h7_1 => ?_) (fun h7_1 => ?_)
      · have hSl := hS
        obtain ⟨hi3, hi4, hre⟩ := hT h7_1
        subst hi4 hre
        have hS := hSl
        have hq7 := hq
        refine LW.nil fun aa ha => hK10 _ _ _ ?_ aa ha
        refine CW.seq fun K11 hK11 => ?_
        refine CW.yes rfl ?_
        refine CW.skip fun aa ha => hK11 _ _ _ ?_ aa ha
        refine CW.block ?_
        refine CW.seq fun K12 hK12 => ?_
        refine CW.region [0, 1, 2] rfl ?_
        refine LW.ex rfl rfl rfl rfl (Ex.extract (v := .int .i64 i) rfl rfl) hS.rd ?_
        refine LW.hv rfl rfl rfl rfl (Hv.alloc ti3 hS) fun v w7 ⟨b7, hv, hb7, hS⟩ => ?_
        subst hv
        refine LW.hu rfl rfl rfl (Hv.storeObj (k := 0) ti3 hS rfl rfl rfl rfl (by first | assumption | (simp; done) | omega | exact Nat.zero_lt_succ _)) fun _ w_2 hS => ?_
        dsimp only [List.set] at hS
        refine LW.nil fun aa ha => hK12 _ _ _ ?_ aa ha
        refine CW.seq fun K13 hK13 => ?_
        have hi5 : i < inp.size + 1 := by omega
        refine CW.region [0, 1, 2, 3, 4] rfl ?_
        refine LW.ex rfl rfl rfl rfl (Ex.move rfl) hS.rd ?_
        refine LW.ex rfl rfl rfl rfl (Ex.load1 ti3 rfl rfl (by first | exact obT rfl | exact Rd.imm ‹_› | exact slT ‹_›)) hS.rd ?_
        refine LW.ex rfl rfl rfl rfl (Ex.indexSl Try.underlying99 ti103 rfl rfl rfl (by show i < inp.size + 1; omega)) hS.rd ?_
        refine LW.ex rfl rfl rfl rfl (Ex.load1 ti103 rfl rfl (Rd.sl (k := 2) rfl (by rw [Nat.zero_add, Nat.mul_one]; exact cellsF_get hi5 hi5))) hS.rd ?_
        refine LW.hv rfl rfl rfl rfl (Hv.range Try.underlying103 (i + 5) hS (maps_get [_, _, _, _, _] hi5) rfl) fun v w37 ⟨r37, hv, hr37, hS⟩ => ?_
        subst hv
        have hS := st_rng0 [_, _, _, _, _] _ hi5 hS
        dsimp only [List.cons_append, List.nil_append] at hS
        refine LW.nil fun aa ha => hK13 _ _ _ ?_ aa ha
        refine CW.block ?_
        refine CW.loop (fun qq frm wl10 => ∃ (left : List (Fin 8 × Int)) (cur : Option (Fin 8 × Int)), qq = left.length ∧ frm = [(2, .pointer (some ⟨b2, 0, none⟩)), (3, .pointer (some ⟨b3, 0, none⟩)), (5, .slice (some ⟨g, 0, none⟩) (inp.size + 1) (inp.size + 1)), (7, .pointer (some ⟨b7, 0, none⟩)), (29, .pointer (some ⟨r29, 0, none⟩)), (37, .pointer (some ⟨r37, 0, none⟩))] ∧ St w wl10 μ (Own.obj b7 [.int .i64 i] 3 :: Own.sit r29 inp (i + 1) :: Own.sl (some ⟨g, 0, none⟩) (inp.size + 1) (inp.size + 1) 103 1 (cellsF bs (inp.size + 1) (inp.size + 1)) :: Own.obj b3 [.string inp] 9 :: Own.obj b2 [.int .i64 s.Modes, .int .u8 s.Accept.toNat, .slice a0 s.Rules.length c0] 29 :: ((mapsO kmV iV bs ms (inp.size + 1)).set i (Own.rng kmV iV (bs i) r37 (ms i) left cur) ++ [])) ∧ (∀ p ∈ ms i, p ∈ left ∨ s.Rules.any (begB inp p.1.val i) = false) ∧ (∀ p ∈ left, p ∈ ms i)) _ ⟨ms i, none, rfl, rfl, hS, fun p hp => .inl hp, fun p hp => hp⟩ ⟨rfl, rfl, rfl, rfl, rfl, rfl, trivial⟩ ?_
        clear hS
        rintro qq frm wl10 ⟨left, cur, hq, rfl, hS, hD, hLs⟩
        refine CW.seq fun K14 hK14 => ?_
        refine CW.region [0, 1] rfl ?_
        refine LW.hv rfl rfl rfl rfl (Hv.nextAny (i + 5) hS (rng_get [_, _, _, _, _] _ hi5) rfl) fun v w38 ⟨bo2, rest2, left', cur', hv, hF2, hT2, hS⟩ => ?_
        subst hv
        have hS := st_rng1 [_, _, _, _, _] _ _ hi5 hS
        dsimp only [List.cons_append, List.nil_append] at hS
        refine LW.ex rfl rfl rfl rfl (extract0 rfl) hS.rd ?_
        refine LW.splitB (fun h10_1 => ?_) (fun h10_1 => ?_)
        · obtain ⟨jj, p, hj, hl2, hc2⟩ := hT2 h10_1
          subst hl2 hc2
          have hq10 := hq
          have hpm := hLs p (List.mem_of_getElem? hj)
          refine LW.nil fun aa ha => hK14 _ _ _ ?_ aa ha
          refine CW.seq fun K15 hK15 => ?_
          refine CW.yes rfl ?_
          refine CW.skip fun aa ha => hK15 _ _ _ ?_ aa ha
          refine CW.block ?_
          refine CW.seq fun K16 hK16 => ?_
          refine CW.region [0, 1, 2, 3] rfl ?_
          refine LW.ex rfl rfl rfl rfl (exEq (u := .tuple #[.int .i64 (p.1.val : Nat), .int .i64 p.2]) (Ex.entry (i + 5) (rng_get [_, _, _, _, _] _ hi5) rfl) rfl) hS.rd ?_
          refine LW.ex rfl rfl rfl rfl (Ex.extract rfl rfl) hS.rd ?_
          refine LW.hv rfl rfl rfl rfl (Hv.alloc ti3 hS) fun v w8 ⟨b8, hv, hb8, hS⟩ => ?_
          subst hv
          refine LW.hu rfl rfl rfl (Hv.storeObj (k := 0) ti3 hS rfl rfl rfl rfl (by first | assumption | (simp; done) | omega | exact Nat.zero_lt_succ _)) fun _ w_3 hS => ?_
          dsimp only [List.set] at hS
          refine LW.nil fun aa ha => hK16 _ _ _ ?_ aa ha
          refine CW.seq fun K17 hK17 => ?_
          refine CW.region [0, 1] rfl ?_
          refine LW.ex rfl rfl rfl rfl (Ex.makeFunc rfl) hS.rd ?_
          refine LW.ex rfl rfl rfl rfl (Ex.assign rfl) hS.rd ?_
          refine LW.nil fun aa ha => hK17 _ _ _ ?_ aa ha
          refine CW.seq fun K18 hK18 => ?_
          have hc8 := memOf_cell (Rd.obj (k := 0) (off := 0) rfl rfl _ hS.rd)
          have hc7 := memOf_cell (Rd.obj (k := 1) (off := 0) rfl rfl _ hS.rd)
          have hc3 := memOf_cell (Rd.obj (k := 4) (off := 0) rfl rfl _ hS.rd)
          refine CW.region [0, 1, 2, 3] rfl ?_
          refine LW.ex rfl rfl rfl rfl (Ex.fieldO 2 Try.underlying29 rfl rfl ti27 rfl) hS.rd ?_
          refine LW.ex rfl rfl rfl rfl (Ex.load1 ti27 rfl rfl (by first | exact obT rfl | exact Rd.imm ‹_› | exact slT ‹_›)) hS.rd ?_
          refine LW.ex rfl rfl rfl rfl (Ex.move rfl) hS.rd ?_
          refine LW.hv rfl rfl rfl rfl (Hv.callS hS rfl rfl rfl cb44 (containsR_c s.Rules (begB inp p.1.val i) 43 _ cb43 _ _ (memOf _) _ (imm_memOf _) (h0.mono hS.imm.ext) (fun r hr w' hi => goes2_c inp p.1.val i b8 b3 b7 r (by omega) (by omega) (hok.small r hr) (memOf _) w' hi hc8 hc3 hc7))) fun v w46 ⟨hv, hS⟩ => ?_
          subst hv
          refine LW.splitB (fun h13_3 => ?_) (fun h13_3 => ?_)
          · skip
            refine LW.nil fun aa ha => hK18 _ _ _ ?_ aa ha
            refine CW.yes rfl ?_
            refine CW.seq fun K19 hK19 => ?_
            refine CW.region [0] rfl ?_
            refine LW.ex rfl rfl rfl rfl (Ex.assign rfl) hS.rd ?_
            refine LW.nil fun aa ha => hK19 _ _ _ ?_ aa ha
            refine CW.ret fun aa ha => ?_
            refine ret_one ha Try.results19 rfl ?_
            exact ⟨_, μ, rfl, hS.below, Mem.ext.refl _ _, hS.imm, true, rfl, ⟨fun _ => ⟨hgood, .inr ⟨i, hi3, p.1, p.2, hW2.snd _ _ _ (aget_of (hnd i (by omega)) hpm), h13_3⟩⟩, fun _ => rfl⟩⟩
          · skip
            refine LW.nil fun aa ha => hK18 _ _ _ ?_ aa ha
            refine CW.no rfl ?_
            refine CW.skip fun aa ha => ?_
            have hS := hS.drop 0 rfl
            dsimp only [List.eraseIdx] at hS
            refine ⟨_, _, ?m10, ⟨left.eraseIdx jj, some p, rfl, rfl, hS, fun q hq' => (hD q hq').elim (fun h => (mem_erase_idx hj h).elim (fun e => .inr (by rw [e]; exact h13_3)) .inl) .inr, fun q hq' => hLs q ((List.eraseIdx_sublist _ _).subset hq')⟩, ha.sub ⟨rfl, rfl, rfl, rfl, rfl, rfl, trivial⟩⟩
            case m10 => (rw [hq10]; exact er_lt hj)
        · have hSl := hS
          obtain ⟨hl1, hl2⟩ := hF2 h10_1
          subst hl1 hl2
          have hS := hSl
          refine LW.nil fun aa ha => hK14 _ _ _ ?_ aa ha
          refine CW.seq fun K20 hK20 => ?_
          refine CW.no rfl ?_
          refine CW.exit fun aa ha => ?_
          have hS := hS.drop 0 rfl
          dsimp only [List.eraseIdx] at hS
          have hS := st_unrngM [_, _, _, _] hi5 hS
          dsimp only [List.cons_append, List.nil_append] at hS
          refine ⟨_, _, ?m7, ⟨i + 1, (by first | omega | (simp; done) | (simp; omega)), rfl, rfl, hS, ?_⟩, ha.sub ⟨rfl, rfl, rfl, rfl, trivial⟩⟩
          case m7 => (rw [hq7]; omega)
          intro j hj k c hr
          by_cases e : j = i
          · subst e
            obtain ⟨c', h1, h2⟩ := hW2.complete hX hr (by omega)
            exact (hD (k, c') (aget_mem h2)).resolve_left (by simp)
          · exact hN j (by omega) k c hr
      · have hSl := hS
        obtain ⟨hi3, hi4⟩ := hF h7_1
        subst hi4
        have hS := hSl
        refine LW.nil fun aa ha => hK10 _ _ _ ?_ aa ha
        refine CW.seq fun K21 hK21 => ?_
        refine CW.no rfl ?_
        refine CW.exit fun aa ha => hK8 _ _ _ ?_ aa ha
        refine CW.seq fun K22 hK22 => ?_
        refine CW.region [0] rfl ?_
        refine LW.ex rfl rfl rfl rfl (Ex.assign rfl) hS.rd ?_
        refine LW.nil fun aa ha => hK22 _ _ _ ?_ aa ha
        refine CW.ret fun aa ha => ?_
        refine ret_one ha Try.results19 rfl ?_
        refine ⟨_, μ, rfl, hS.below, Mem.ext.refl _ _, hS.imm, false, rfl, ⟨(fun h => by cases h), fun h => ?_⟩⟩
        obtain ⟨_, ⟨k, c, h⟩ | ⟨j, hj, k, c, h, h2⟩⟩ := h
        · obtain ⟨c', h1, h2⟩ := hW2.complete hX h (by show inp.size ≤ _; omega)
          have hz : (ms inp.size).length = 0 := by omega
          rw [List.eq_nil_of_length_eq_zero hz] at h2; cases h2
        · rw [hN j (by omega) k c h] at h2; cases h2
  · skip
    refine LW.ex rfl rfl rfl rfl (Ex.not rfl rfl) hS.rd ?_
    refine LW.nil fun aa ha => hK3 _ _ _ ?_ aa ha
    refine CW.yes rfl ?_
    refine CW.seq fun K23 hK23 => ?_
    refine CW.region [0] rfl ?_
    refine LW.ex rfl rfl rfl rfl (Ex.assign rfl) hS.rd ?_
    refine LW.nil fun aa ha => hK23 _ _ _ ?_ aa ha
    refine CW.ret fun aa ha => ?_
    refine ret_one ha Try.results19 rfl ?_
    exact ⟨_, μ, rfl, hS.below, Mem.ext.refl _ _, hS.imm, false, rfl, ⟨(fun h => by cases h), fun h => by have := h.1; simp_all⟩⟩
end Go.Proofs.Ytgbdfgifgngijaa

/-
  Output: schemes with one mode: sound ones, and routes as lists of rules (plain Lean).
-/
namespace Go.Proofs.Ytgbdfgifgngijaa
open Go.RowKit Sy Go.Maps

theorem stepC_bit {back : Bool} {M j : Nat} {r : Rule} (h : M.testBit j = true) : (stepC back M r).testBit j = true := by
  unfold stepC
  by_cases h2 : M.testBit (if back = true then r.To else r.From).toNat = true
  · rw [if_pos h2, Nat.testBit_or, h]; rfl
  · rw [if_neg h2]; exact h
theorem fold_bit {back : Bool} {j : Nat} : ∀ (l : List Rule) (M : Nat), M.testBit j = true → (l.foldl (stepC back) M).testBit j = true
  | [], _, h => h
  | _ :: l, _, h => fold_bit l _ (stepC_bit h)
theorem close_bit {s : Sch} {back : Bool} {M j : Nat} (h : M.testBit j = true) : ∀ n, (closeR s back n M).testBit j = true
  | 0 => h
  | n + 1 => fold_bit _ _ (close_bit h n)
theorem one_rule {s : Sch} (hs : SchOk s) (h1 : s.Modes = 1) {r : Rule} (hr : r ∈ s.Rules) : r.From = 0 ∧ r.To = 0 := by
  obtain ⟨i, hi, rfl⟩ := List.getElem_of_mem hr
  have h := (hs.ru i hi).1
  unfold rightB at h
  simp only [Bool.and_eq_true, decide_eq_true_eq] at h
  omega
theorem one_acc {s : Sch} (hs : SchOk s) (h1 : s.Modes = 1) : s.Accept.toNat = 1 := by
  have h2 := hs.a0
  have h3 := hs.a1
  rw [h1] at h3
  have : ((2 : Int) ^ (1 : Int).toNat) = 2 := rfl
  omega
theorem one_snd {s : Sch} (hs : SchOk s) (h1 : s.Modes = 1) : SndP s ↔ Fed s := by
  have hl : (liveM s).testBit 0 = true := close_bit (by rw [one_acc hs h1]; rfl) _
  have hr : (reachM s).testBit 0 = true := close_bit (by rfl) _
  have zero : ∀ b a j, Chn s b a j → j = 0 := fun b a j h => by
    cases h with
    | one r hr hf ht _ => have := (one_rule hs h1 hr).2; omega
    | snoc _ r hr hf ht _ => have := (one_rule hs h1 hr).2; omega
  constructor
  · intro ⟨_, _, h⟩ r hr2
    apply Nat.le_of_not_lt
    intro h0
    apply h
    refine ⟨0, by rw [h1]; decide, hl, hr, .one r hr2 (one_rule hs h1 hr2).1 (one_rule hs h1 hr2).2 ?_⟩
    unfold fitR noIn
    rw [beqS]
    have : r.In = ⟨#[]⟩ := bl_inj (List.eq_nil_of_length_eq_zero (by rw [bl_len]; omega))
    rw [decide_eq_true this]; rfl
  · intro hf
    refine ⟨hl, fun ⟨_, j, hc, hj⟩ => ?_, fun ⟨k, _, _, _, hc⟩ => ?_⟩
    · rw [zero _ _ _ hc, hl] at hj; cases hj
    · have key : ∀ b a j, Chn s b a j → b = true → False := fun b a j h => by
        have no : ∀ r ∈ s.Rules, fitR true r = true → False := fun r hr h => by
          unfold fitR noIn at h
          rw [beqS] at h
          have h2 := of_decide_eq_true (show decide (r.In = ⟨#[]⟩) = true from h)
          have h3 := hf r hr
          rw [h2] at h3
          exact absurd h3 (by decide)
        cases h with
        | one r hr _ _ h2 => intro e; subst e; exact no r hr h2
        | snoc _ r hr _ _ h2 => intro e; subst e; exact no r hr h2
      exact key _ _ _ hc rfl

/-! ### Lists of rules -/
def inL (rs : List Rule) : List UInt8 := rs.flatMap fun r => bl r.In
def outL (rs : List Rule) : List UInt8 := rs.flatMap fun r => bl r.Out
def costL (rs : List Rule) : Int := (rs.map Rule.Cost).sum
theorem inL_snoc (rs : List Rule) (r : Rule) : inL (rs ++ [r]) = inL rs ++ bl r.In := by unfold inL; simp
theorem outL_snoc (rs : List Rule) (r : Rule) : outL (rs ++ [r]) = outL rs ++ bl r.Out := by unfold outL; simp
theorem costL_snoc (rs : List Rule) (r : Rule) : costL (rs ++ [r]) = costL rs + r.Cost := by unfold costL; simp
theorem pre_snoc {a b s : List UInt8} (h : a <+: s) : a ++ b <+: s ↔ b <+: s.drop a.length := by
  obtain ⟨t, rfl⟩ := h
  rw [List.drop_left, List.prefix_append_right_inj]
section
variable {α : Type} [DecidableEq α]
omit [DecidableEq α] in
theorem rt_list {X : WX α} (rel : List Rule → α → Prop) (h0 : rel [] X.first) (hs : ∀ rs p k c r, Rt X p k c → rel rs k → r ∈ X.rules → X.ft k r = true → rel (rs ++ [r]) (X.nv k r)) {p : Nat} {k : α} {c : Int} (h : Rt X p k c) :
    ∃ rs, (∀ r ∈ rs, r ∈ X.rules) ∧ rel rs k ∧ inL rs <+: bl X.inp ∧ p = (inL rs).length ∧ c = costL rs := by
  induction h with
  | nil => exact ⟨[], (fun r h => by cases h), h0, List.nil_prefix, rfl, rfl⟩
  | @snoc p k c h r hr hf hp ih =>
    obtain ⟨rs, h1, h2, h3, h4, h5⟩ := ih
    refine ⟨rs ++ [r], fun x hx => ?_, hs rs p k c r h h2 hr hf, ?_, ?_, ?_⟩
    · rcases List.mem_append.1 hx with hx | hx
      · exact h1 x hx
      · rw [List.mem_singleton.1 hx]; exact hr
    · rw [inL_snoc, pre_snoc h3, ← h4]
      exact List.isPrefixOf_iff_prefix.1 hp
    · rw [inL_snoc, List.length_append, ← h4, bl_len]
    · rw [costL_snoc, h5]
omit [DecidableEq α] in
theorem rt_of {X : WX α} (rel : List Rule → α → Prop) (good : List Rule → Prop) (h0 : rel [] X.first) (hg : ∀ rs r, good (rs ++ [r]) → good rs)
    (hs : ∀ rs p k c r, Rt X p k c → rel rs k → r ∈ X.rules → good (rs ++ [r]) → X.ft k r = true ∧ rel (rs ++ [r]) (X.nv k r)) :
    ∀ (qs : List Rule), (∀ r ∈ qs, r ∈ X.rules) → inL qs.reverse <+: bl X.inp → good qs.reverse → ∃ k, rel qs.reverse k ∧ Rt X (inL qs.reverse).length k (costL qs.reverse)
  | [], _, _, _ => ⟨X.first, h0, Rt.nil⟩
  | r :: qs, hm, hp, hgd => by
    rw [List.reverse_cons] at *
    have hp0 : inL qs.reverse <+: bl X.inp := by
      rw [inL_snoc] at hp
      exact (List.prefix_append _ _).trans hp
    obtain ⟨k, h1, h2⟩ := rt_of rel good h0 hg hs qs (fun x hx => hm x (List.mem_cons_of_mem _ hx)) hp0 (hg _ _ hgd)
    have hr := hm r (List.mem_cons_self ..)
    obtain ⟨h3, h4⟩ := hs _ _ _ _ r h2 h1 hr hgd
    refine ⟨_, h4, ?_⟩
    have h5 : preAt X.inp (inL qs.reverse).length r = true := by
      unfold preAt
      rw [List.isPrefixOf_iff_prefix]
      rw [inL_snoc, pre_snoc hp0] at hp
      exact hp
    have := Rt.snoc h2 r hr h3 h5
    rw [inL_snoc, costL_snoc, List.length_append, bl_len]
    exact this
end
/-- A list of rules of a scheme that takes an input. -/
def Rts (s : Sch) (inp : ByteArray) (rs : List Rule) : Prop := (∀ r ∈ rs, r ∈ s.Rules) ∧ inL rs = bl inp
theorem zeroF {z : Int} (h : z = 0) : modeF z = 0 := by subst h; rfl
theorem whole_iff {s : Sch} (hs : SchOk s) (h1 : s.Modes = 1) (hf : Fed s) {inp : ByteArray} (hin : inp.size ≤ 1000000) {t : ByteArray} {c : Int} : Whole s inp t c ↔ ∃ rs, Rts s inp rs ∧ outL rs = bl t ∧ costL rs = c := by
  have big : ∀ {p k c r}, Rt (xO s inp) p k c → r ∈ s.Rules → k.1.2.size + r.Out.size ≤ 9223372036854775807 := fun {p k c r} h hr => by
    have h2 := outSize hs hf h
    have h3 := (h.cost (takesO hs hf inp)).1
    have h4 := (hs.rule hr).2.2.2.2
    have h5 : p ≤ 1000000 := Nat.le_trans h3 hin
    omega
  have step : ∀ (rs : List Rule) p (k : KO) c r, Rt (xO s inp) p k c → (k.1.1 = 0 ∧ bl k.1.2 = outL rs) → r ∈ s.Rules → ((nvO k r).1.1 = 0 ∧ bl (nvO k r).1.2 = outL (rs ++ [r])) := fun rs p k c r h h2 hr => by
    rw [nvO_of (big h hr)]
    refine ⟨zeroF (one_rule hs h1 hr).2, ?_⟩
    show bl (k.1.2 ++ r.Out) = _
    rw [outL_snoc, ← h2.2]
    unfold bl
    rw [ByteArray.data_append, Array.toList_append]
  constructor
  · rintro ⟨k, h2, _, rfl⟩
    obtain ⟨rs, g1, g2, g3, g4, g5⟩ := rt_list (fun rs (k : KO) => k.1.1 = 0 ∧ bl k.1.2 = outL rs) ⟨rfl, rfl⟩ (fun rs p k c r h h2 hr _ => step rs p k c r h h2 hr) h2
    exact ⟨rs, ⟨g1, g3.eq_of_length (by rw [← g4, bl_len]; rfl)⟩, g2.2.symm, g5.symm⟩
  · rintro ⟨rs, ⟨g1, g2⟩, g3, rfl⟩
    obtain ⟨k, h2, h3⟩ := rt_of (X := xO s inp) (fun rs (k : KO) => k.1.1 = 0 ∧ bl k.1.2 = outL rs) (fun _ => True) ⟨rfl, rfl⟩ (fun _ _ _ => trivial) (fun rs p k c r h h2 hr _ => ⟨by
      show ftO k r = true
      unfold ftO
      rw [h2.1, (one_rule hs h1 hr).1]; rfl, step rs p k c r h h2 hr⟩) rs.reverse (fun r hr => g1 r (by simpa using hr)) (by rw [List.reverse_reverse, g2]; exact List.prefix_refl _) trivial
    rw [List.reverse_reverse] at h2 h3
    rw [g2, bl_len] at h3
    exact ⟨k, h3, by rw [h2.1, one_acc hs h1]; rfl, bl_inj (by rw [h2.2, g3])⟩
theorem has_iff {s : Sch} (hs : SchOk s) (h1 : s.Modes = 1) (hf : Fed s) {inp out : ByteArray} (ho : out.size ≤ 9223372036854775807) {c : Int} : Has s inp out c ↔ ∃ rs, Rts s inp rs ∧ outL rs = bl out ∧ costL rs = c := by
  have h0 : (fun rs (k : KP) => k.1.1 = 0 ∧ k.1.2 = (outL rs).length ∧ outL rs <+: bl out) [] startP := ⟨rfl, rfl, List.nil_prefix⟩
  have fits : ∀ (rs : List Rule) (k : KP) (r : Rule), (k.1.1 = 0 ∧ k.1.2 = (outL rs).length ∧ outL rs <+: bl out) → r ∈ s.Rules → (ftP out k r = true ↔ outL (rs ++ [r]) <+: bl out) := fun rs k r h hr => by
    rw [ftP_iff, outL_snoc, pre_snoc h.2.2]
    unfold preD
    rw [List.isPrefixOf_iff_prefix, ← h.2.1]
    exact ⟨fun h => h.2, fun h3 => ⟨by rw [h.1, (one_rule hs h1 hr).1]; rfl, h3⟩⟩
  have step : ∀ (rs : List Rule) (k : KP) r, (k.1.1 = 0 ∧ k.1.2 = (outL rs).length ∧ outL rs <+: bl out) → r ∈ s.Rules → outL (rs ++ [r]) <+: bl out → ((nvP k r).1.1 = 0 ∧ (nvP k r).1.2 = (outL (rs ++ [r])).length ∧ outL (rs ++ [r]) <+: bl out) := fun rs k r h hr h3 => by
    have hl := h3.length_le
    have he : (outL (rs ++ [r])).length = k.1.2 + r.Out.size := by rw [outL_snoc, List.length_append, bl_len, h.2.1]
    rw [bl_len] at hl
    rw [nvP_of (by omega)]
    exact ⟨zeroF (one_rule hs h1 hr).2, he.symm, h3⟩
  constructor
  · rintro ⟨k, h2, h4, _⟩
    obtain ⟨rs, g1, g2, g3, g4, g5⟩ := rt_list (X := xP s inp out) (fun rs (k : KP) => k.1.1 = 0 ∧ k.1.2 = (outL rs).length ∧ outL rs <+: bl out) h0 (fun rs p k c r h h2 hr hf => step rs k r h2 hr ((fits rs k r h2 hr).1 hf)) h2
    exact ⟨rs, ⟨g1, g3.eq_of_length (by rw [← g4, bl_len]; rfl)⟩, g2.2.2.eq_of_length (by rw [← g2.2.1, h4, bl_len]), g5.symm⟩
  · rintro ⟨rs, ⟨g1, g2⟩, g3, rfl⟩
    obtain ⟨k, h2, h3⟩ := rt_of (X := xP s inp out) (fun rs (k : KP) => k.1.1 = 0 ∧ k.1.2 = (outL rs).length ∧ outL rs <+: bl out) (fun rs => outL rs <+: bl out) h0 (fun rs r h => by rw [outL_snoc] at h; exact (List.prefix_append _ _).trans h) (fun rs p k c r h h2 hr hg => ⟨(fits rs k r h2 hr).2 hg, step rs k r h2 hr hg⟩) rs.reverse (fun r hr => g1 r (by simpa using hr)) (by rw [List.reverse_reverse, g2]; exact List.prefix_refl _) (by rw [List.reverse_reverse, g3]; exact List.prefix_refl _)
    rw [List.reverse_reverse] at h2 h3
    rw [g2, bl_len] at h3
    exact ⟨k, h3, by rw [h2.2.1, g3, bl_len], by rw [h2.1, one_acc hs h1]; rfl⟩
theorem rtI_iff {s : Sch} (hs : SchOk s) (h1 : s.Modes = 1) {inp : ByteArray} {p : Nat} {k : Fin 8} {c : Int} : Rt (xI s inp) p k c ↔ k = 0 ∧ ∃ rs, (∀ r ∈ rs, r ∈ s.Rules) ∧ inL rs <+: bl inp ∧ p = (inL rs).length ∧ c = costL rs := by
  constructor
  · intro h
    obtain ⟨rs, g1, g2, g3, g4, g5⟩ := rt_list (X := xI s inp) (fun _ (k : Fin 8) => k = 0) rfl (fun rs p k c r _ _ hr _ => zeroF (one_rule hs h1 hr).2) h
    exact ⟨g2, rs, g1, g3, g4, g5⟩
  · rintro ⟨rfl, rs, g1, g3, rfl, rfl⟩
    obtain ⟨k, h2, h3⟩ := rt_of (X := xI s inp) (fun _ (k : Fin 8) => k = 0) (fun _ => True) rfl (fun _ _ _ => trivial) (fun rs p k c r _ h2 hr _ => ⟨by
      show ftI k r = true
      unfold ftI
      rw [h2, (one_rule hs h1 hr).1]; rfl, zeroF (one_rule hs h1 hr).2⟩) rs.reverse (fun r hr => g1 r (by simpa using hr)) (by rw [List.reverse_reverse]; exact g3) trivial
    rw [List.reverse_reverse] at h3
    subst h2
    exact h3
end Go.Proofs.Ytgbdfgifgngijaa

/-
  Output: what Best, Cost and Goes answer for a scheme with one mode whose rules all take something: by going through lists of rules (plain Lean).
-/
namespace Go.Proofs.Ytgbdfgifgngijaa
open Go.RowKit Sy Go.Maps

def lsts (rules : List Rule) : Nat → List (List Rule)
  | 0 => [[]]
  | n + 1 => [] :: rules.flatMap fun r => (lsts rules n).map (r :: ·)
theorem lsts_mem {rules : List Rule} : ∀ {n : Nat} {rs : List Rule}, rs ∈ lsts rules n ↔ (∀ r ∈ rs, r ∈ rules) ∧ rs.length ≤ n
  | 0, rs => by
    constructor
    · intro h; obtain rfl := List.mem_singleton.1 h; exact ⟨(fun r h => by cases h), Nat.le_refl _⟩
    · rintro ⟨_, h⟩; obtain rfl := List.eq_nil_of_length_eq_zero (by omega : rs.length = 0); exact List.mem_singleton.2 rfl
  | n + 1, rs => by
    unfold lsts
    rw [List.mem_cons, List.mem_flatMap]
    constructor
    · rintro (rfl | ⟨r, hr, h⟩)
      · exact ⟨(fun r h => by cases h), Nat.zero_le _⟩
      · obtain ⟨qs, hq, rfl⟩ := List.mem_map.1 h
        obtain ⟨h1, h2⟩ := lsts_mem.1 hq
        refine ⟨fun x hx => ?_, by simp; omega⟩
        rcases List.mem_cons.1 hx with rfl | hx
        · exact hr
        · exact h1 x hx
    · rintro ⟨h1, h2⟩
      cases rs with
      | nil => exact .inl rfl
      | cons r qs => exact .inr ⟨r, h1 r (List.mem_cons_self ..), List.mem_map.2 ⟨qs, lsts_mem.2 ⟨fun x hx => h1 x (List.mem_cons_of_mem _ hx), by simp at h2; omega⟩, rfl⟩⟩
theorem fed_len {s : Sch} (hf : Fed s) : ∀ {rs : List Rule}, (∀ r ∈ rs, r ∈ s.Rules) → rs.length ≤ (inL rs).length
  | [], _ => Nat.zero_le _
  | r :: rs, h => by
    have h1 := fed_len hf (rs := rs) (fun x hx => h x (List.mem_cons_of_mem _ hx))
    have h2 := hf r (h r (List.mem_cons_self ..))
    have : inL (r :: rs) = bl r.In ++ inL rs := rfl
    rw [this, List.length_append, bl_len, List.length_cons]
    omega
def wholeL (s : Sch) (inp : ByteArray) : List (List UInt8 × Int) := ((lsts s.Rules inp.size).filter fun rs => inL rs == bl inp).map fun rs => (outL rs, costL rs)
theorem wholeL_iff {s : Sch} (hf : Fed s) {inp : ByteArray} {t : List UInt8} {c : Int} : (t, c) ∈ wholeL s inp ↔ ∃ rs, Rts s inp rs ∧ outL rs = t ∧ costL rs = c := by
  unfold wholeL
  rw [List.mem_map]
  constructor
  · rintro ⟨rs, h1, h2⟩
    obtain ⟨h3, h4⟩ := List.mem_filter.1 h1
    exact ⟨rs, ⟨(lsts_mem.1 h3).1, by simpa using h4⟩, congrArg Prod.fst h2, congrArg Prod.snd h2⟩
  · rintro ⟨rs, ⟨h1, h2⟩, h3, h4⟩
    refine ⟨rs, List.mem_filter.2 ⟨lsts_mem.2 ⟨h1, ?_⟩, by simpa using h2⟩, by rw [h3, h4]⟩
    have := fed_len hf h1
    rw [h2, bl_len] at this
    exact this
theorem pw_eq : ∀ {F T : List Rsl}, F.Pairwise resLt → T.Pairwise resLt → (∀ x, x ∈ F ↔ x ∈ T) → F = T
  | [], [], _, _, _ => rfl
  | [], y :: T, _, _, h => absurd ((h y).2 (List.mem_cons_self ..)) (by simp)
  | x :: F, [], _, _, h => absurd ((h x).1 (List.mem_cons_self ..)) (by simp)
  | x :: F, y :: T, h1, h2, h => by
    obtain ⟨g1, g2⟩ := List.pairwise_cons.1 h1
    obtain ⟨k1, k2⟩ := List.pairwise_cons.1 h2
    have e : x = y := by
      rcases List.mem_cons.1 ((h x).1 (List.mem_cons_self ..)) with e | e
      · exact e
      · rcases List.mem_cons.1 ((h y).2 (List.mem_cons_self ..)) with e2 | e2
        · exact e2.symm
        · exact absurd ((k1 x e).trans (g1 y e2)) (resLt.irrefl y)
    subst e
    congr 1
    refine pw_eq g2 k2 fun z => ⟨fun hz => ?_, fun hz => ?_⟩
    · rcases List.mem_cons.1 ((h z).1 (List.mem_cons_of_mem _ hz)) with e | e
      · subst e; exact absurd (g1 z hz) (resLt.irrefl z)
      · exact e
    · rcases List.mem_cons.1 ((h z).2 (List.mem_cons_of_mem _ hz)) with e | e
      · subst e; exact absurd (k1 z hz) (resLt.irrefl z)
      · exact e
theorem nodup_sub {β : Type} [DecidableEq β] : ∀ {l l' : List β}, l.Nodup → (∀ x ∈ l, x ∈ l') → l.length ≤ l'.length
  | [], _, _, _ => Nat.zero_le _
  | x :: l, l', hn, h => by
    obtain ⟨h1, h2⟩ := List.nodup_cons.1 hn
    have hx := h x (List.mem_cons_self ..)
    have h3 := nodup_sub (l := l) (l' := l'.erase x) h2 fun y hy => (List.mem_erase_of_ne (fun e => h1 (by rw [← e]; exact hy))).2 (h y (List.mem_cons_of_mem _ hy))
    rw [List.length_erase_of_mem hx] at h3
    have := List.length_pos_of_mem hx
    simp only [List.length_cons]
    omega
/-- How many pairs there may be. -/
theorem keys_len {s : Sch} (hs : SchOk s) (h1 : s.Modes = 1) (hf : Fed s) {inp : ByteArray} (hin : inp.size ≤ 1000000) {ms : Nat → List (KO × Int)} {n i : Nat} (hW : WI (xO s inp) ms n) (hn : ((ms i).map Prod.fst).Nodup) {W : List (List UInt8)}
    (hw : ∀ rs, (∀ r ∈ rs, r ∈ s.Rules) → inL rs <+: bl inp → (inL rs).length = i → outL rs ∈ W) : (ms i).length ≤ W.length := by
  have hk : ∀ q ∈ ms i, q.1.1.1 = 0 ∧ ∃ rs, (∀ r ∈ rs, r ∈ s.Rules) ∧ inL rs <+: bl inp ∧ (inL rs).length = i ∧ bl q.1.1.2 = outL rs := fun q hq => by
    have h := hW.snd _ _ _ (aget_of hn hq)
    have step : ∀ (rs : List Rule) p (k : KO) c r, Rt (xO s inp) p k c → (k.1.1 = 0 ∧ bl k.1.2 = outL rs) → r ∈ s.Rules → ((nvO k r).1.1 = 0 ∧ bl (nvO k r).1.2 = outL (rs ++ [r])) := fun rs p k c r h h2 hr => by
      have g2 := outSize hs hf h
      have g3 := (h.cost (takesO hs hf inp)).1
      have g4 := (hs.rule hr).2.2.2.2
      have g5 : p ≤ 1000000 := Nat.le_trans g3 hin
      rw [nvO_of (by omega)]
      refine ⟨zeroF (one_rule hs h1 hr).2, ?_⟩
      show bl (k.1.2 ++ r.Out) = _
      rw [outL_snoc, ← h2.2]
      unfold bl
      rw [ByteArray.data_append, Array.toList_append]
    obtain ⟨rs, g1, g2, g3, g4, g5⟩ := rt_list (fun rs (k : KO) => k.1.1 = 0 ∧ bl k.1.2 = outL rs) ⟨rfl, rfl⟩ (fun rs p k c r h h2 hr _ => step rs p k c r h h2 hr) h
    exact ⟨g2.1, rs, g1, g3, g4.symm, g2.2⟩
  have h := nodup_sub (l := (ms i).map fun q => bl q.1.1.2) (l' := W) (List.pairwise_map.2 ((List.Pairwise.and_mem.1 (List.pairwise_map.1 hn)).imp fun {a b} ⟨g1, g2, g3⟩ e => g3 (by
    have k1 := (hk a g1).1
    have k2 := (hk b g2).1
    exact Subtype.ext (Prod.ext (by rw [k1, k2]) (bl_inj e))))) (fun x hx => by
    obtain ⟨q, hq, rfl⟩ := List.mem_map.1 hx
    obtain ⟨_, rs, g1, g2, g3, g4⟩ := hk q hq
    show bl q.1.1.2 ∈ W
    rw [g4]; exact hw rs g1 g2 g3)
  rw [List.length_map] at h
  exact h
def checkT (W : List (List UInt8 × Int)) (T : List Rsl) : Bool := (T.all fun x => W.contains (bl x.Text, x.Cost) && W.all fun y => !(y.1 == bl x.Text) || decide (x.Cost ≤ y.2)) && (W.all fun y => T.any fun x => bl x.Text == y.1) && decide (T.Pairwise resLt)
theorem least_T {s : Sch} (hs : SchOk s) (h1 : s.Modes = 1) (hf : Fed s) {inp : ByteArray} (hin : inp.size ≤ 1000000) {T : List Rsl} (hc : checkT (wholeL s inp) T = true) (x : Rsl) : x ∈ T ↔ LeastW s inp x := by
  unfold checkT at hc
  simp only [Bool.and_eq_true, List.all_eq_true, List.contains_iff_mem, decide_eq_true_eq, List.any_eq_true, beq_iff_eq, Bool.or_eq_true, Bool.not_eq_true', beq_eq_false_iff_ne] at hc
  obtain ⟨⟨c1, c2⟩, c3⟩ := hc
  have get : ∀ y ∈ T, LeastW s inp y := fun y hy => ⟨(whole_iff hs h1 hf hin).2 ((wholeL_iff hf).1 (c1 y hy).1), fun c hw => by
    have h2 := (wholeL_iff hf).2 ((whole_iff hs h1 hf hin).1 hw)
    rcases (c1 y hy).2 _ h2 with h3 | h3
    · exact absurd rfl h3
    · exact h3⟩
  refine ⟨get x, fun h => ?_⟩
  have h2 := (wholeL_iff hf).2 ((whole_iff hs h1 hf hin).1 h.1)
  obtain ⟨y, hy, e⟩ := c2 _ h2
  have e' : y.Text = x.Text := bl_inj e
  have h3 := get y hy
  have g1 := h.2 y.Cost (by rw [← e']; exact h3.1)
  have g2 := h3.2 x.Cost (by rw [e']; exact h.1)
  have : x = y := by
    cases x; cases y
    simp only at e' g1 g2
    subst e'
    congr 1; omega
  rw [this]; exact hy
theorem best_fix {s : Sch} (hs : SchOk s) (h1 : s.Modes = 1) (hf : Fed s) {inp : ByteArray} (hl : lettersC inp = true) (hin : inp.size ≤ 1000000) {T : List Rsl} (hc : checkT (wholeL s inp) T = true) (hlen : (lsts s.Rules inp.size).length ≤ 2000) {k e : Int} {l : List Rsl} (hk : 1 ≤ k ∧ k ≤ 50) (hb : BestR s inp k e l) :
    e = (if T = [] then 50 else 0) ∧ l = T.take k.toNat := by
  have hg : sndB s inp = true := sndB_iff.2 ⟨hs, (one_snd hs h1).2 hf, hl⟩
  rcases hb with ⟨_, _, h⟩ | ⟨_, ⟨_, _, i, ms, hi, hW, hn, hbig⟩ | ⟨ms, hW, hn, F, hp, hm, hF⟩⟩
  · exact absurd ⟨hg, hk⟩ h
  · have h2 := keys_len hs h1 hf hin hW hn (W := (lsts s.Rules inp.size).map outL) (fun rs g1 g2 g3 => List.mem_map.2 ⟨rs, lsts_mem.2 ⟨g1, by have := fed_len hf g1; have := g2.length_le; rw [bl_len] at this; omega⟩, rfl⟩)
    rw [List.length_map] at h2
    omega
  · have hT : T.Pairwise resLt := by
      unfold checkT at hc
      rw [Bool.and_eq_true] at hc
      exact of_decide_eq_true hc.2
    have e : F = T := pw_eq hp hT fun x => (hm x).trans (least_T hs h1 hf hin hc x).symm
    subst e
    rcases hF with ⟨h2, h3, h4⟩ | ⟨h2, h3, h4⟩
    · subst h2; exact ⟨h3, by rw [h4, List.take_nil]⟩
    · rw [if_neg h2]; exact ⟨h3, h4⟩
theorem best_bad {s : Sch} {inp : ByteArray} {k e : Int} {l : List Rsl} (h : ¬ (sndB s inp = true ∧ 1 ≤ k ∧ k ≤ 50)) (hb : BestR s inp k e l) : e = 1 ∧ l = [] := by
  rcases hb with ⟨h1, h2, _⟩ | ⟨h1, _⟩
  · exact ⟨h1, h2⟩
  · exact absurd h1 h
theorem cost_fix {s : Sch} (hs : SchOk s) (h1 : s.Modes = 1) (hf : Fed s) {inp out : ByteArray} (hl : lettersC inp = true) (ho : out.size ≤ 9223372036854775807) {v z : Int} (hv : (v ≠ -1 ∧ (bl out, v) ∈ wholeL s inp ∧ ∀ y ∈ wholeL s inp, y.1 = bl out → v ≤ y.2) ∨ (v = -1 ∧ ∀ y ∈ wholeL s inp, y.1 ≠ bl out)) (hc : CostR s inp out z) : z = v := by
  have hg : sndB s inp = true := sndB_iff.2 ⟨hs, (one_snd hs h1).2 hf, hl⟩
  have hw : ∀ c, Has s inp out c ↔ (bl out, c) ∈ wholeL s inp := fun c => (has_iff hs h1 hf ho).trans (wholeL_iff hf).symm
  rcases hc with ⟨h2, _⟩ | ⟨_, ⟨h2, h3⟩ | ⟨h2, h3, h4⟩⟩
  · rw [hg] at h2; cases h2
  · rcases hv with ⟨_, h5, _⟩ | ⟨h5, _⟩
    · exact absurd ((hw v).2 h5) (h3 v)
    · rw [h2, h5]
  · rcases hv with ⟨_, h5, h6⟩ | ⟨_, h5⟩
    · have g1 := h4 v ((hw v).2 h5)
      have g2 := h6 _ ((hw z).1 h3) rfl
      simp only at g2
      omega
    · exact absurd rfl (h5 _ ((hw z).1 h3))
theorem cost_bad {s : Sch} {inp out : ByteArray} {z : Int} (h : ¬ sndB s inp = true) (hc : CostR s inp out z) : z = -1 := by
  rcases hc with ⟨_, h2⟩ | ⟨h2, _⟩
  · exact h2
  · exact absurd h2 h
theorem goes_yes {s : Sch} (hs : SchOk s) (h1 : s.Modes = 1) (hf : Fed s) {inp : ByteArray} (hl : lettersC inp = true) (hv : wholeL s inp ≠ []) : GoesP s inp := by
  obtain ⟨⟨t, c⟩, hy⟩ := List.exists_mem_of_ne_nil _ hv
  obtain ⟨rs, ⟨g1, g2⟩, _, g3⟩ := (wholeL_iff hf).1 hy
  refine ⟨sndB_iff.2 ⟨hs, (one_snd hs h1).2 hf, hl⟩, .inl ⟨0, c, (rtI_iff hs h1).2 ⟨rfl, rs, g1, by rw [g2]; exact List.prefix_refl _, by rw [g2, bl_len], g3.symm⟩⟩⟩
theorem goes_no {s : Sch} (hs : SchOk s) (h1 : s.Modes = 1) (hf : Fed s) {inp : ByteArray} (hv : wholeL s inp = []) (hb : (List.range inp.size).all (fun i => !s.Rules.any (begB inp 0 i)) = true) : ¬ GoesP s inp := by
  rintro ⟨_, ⟨k, c, h⟩ | ⟨i, hi, k, c, h, h2⟩⟩
  · obtain ⟨_, rs, g1, g2, g3, g4⟩ := (rtI_iff hs h1).1 h
    have : (outL rs, c) ∈ wholeL s inp := (wholeL_iff hf).2 ⟨rs, ⟨g1, g2.eq_of_length (by rw [← g3, bl_len])⟩, rfl, g4.symm⟩
    rw [hv] at this; cases this
  · obtain ⟨rfl, _⟩ := (rtI_iff hs h1).1 h
    rw [List.all_eq_true] at hb
    have := hb i (List.mem_range.2 hi)
    rw [show ((0 : Fin 8).val) = 0 from rfl] at h2
    rw [h2] at this; cases this
end Go.Proofs.Ytgbdfgifgngijaa

/-
  Output: the scheme of the examples (plain Lean).
-/
namespace Go.Proofs.Ytgbdfgifgngijaa
open Go.RowKit Sy Go.Maps

def bs (l : List UInt8) : ByteArray := ⟨l.toArray⟩
def sampleS : Sch := ⟨1, 1, [⟨0, 0, bs [97], bs [97], 0⟩, ⟨0, 0, bs [97], bs [65], 1⟩, ⟨0, 0, bs [97, 97], bs [66], 1⟩, ⟨0, 0, bs [98], bs [], 5⟩]⟩
theorem sample_ok : SchOk sampleS := ⟨by decide, by decide, by decide, by decide, by decide, by decide +kernel⟩
theorem sample_fed : Fed sampleS := by unfold Fed; decide +kernel
theorem sT_a : checkT (wholeL sampleS (bs [97])) [⟨bs [97], 0⟩, ⟨bs [65], 1⟩] = true := by decide +kernel
theorem sT_aa : checkT (wholeL sampleS (bs [97, 97])) [⟨bs [97, 97], 0⟩, ⟨bs [65, 97], 1⟩, ⟨bs [66], 1⟩, ⟨bs [97, 65], 1⟩, ⟨bs [65, 65], 2⟩] = true := by decide +kernel
theorem sT_ba : checkT (wholeL sampleS (bs [98, 97])) [⟨bs [97], 5⟩, ⟨bs [65], 6⟩] = true := by decide +kernel
theorem sT_e : checkT (wholeL sampleS (bs [])) [⟨bs [], 0⟩] = true := by decide +kernel
theorem sT_c : checkT (wholeL sampleS (bs [99])) [] = true := by decide +kernel
end Go.Proofs.Ytgbdfgifgngijaa

/-
  Output: the walk of the law's fixed examples.
-/
namespace Go.Proofs.Ytgbdfgifgngijaa
open Go.RowKit Sy Go.Maps

deriving instance DecidableEq for Rsl
set_option maxRecDepth 100000 in
theorem rslEq (a b : Rsl) (w : World) : (Op.equal 47 (rslV a) (rslV b)).run Try.prog w = .ok (decide (a = b)) w := by
  have h := eqStruct (P := Try.prog) (xs := #[.string a.Text, .int .i64 a.Cost]) (ys := #[.string b.Text, .int .i64 b.Cost]) Try.underlying47 (by kernel_rfl) (eqF_string rfl ti9 rfl rfl (eqF_int rfl ti3 rfl rfl eqF_nil)) w
  rw [h]; congr 1
  obtain ⟨a1, a2⟩ := a
  obtain ⟨c1, c2⟩ := b
  rw [beqS, Bool.eq_iff_iff]; simp
theorem same_c (a b : List Rsl) (ada adb : Option Addr) (ca cb : Nat) (μ : Mem) (w : World) (hμ : Imm μ w) (hla : Sl μ ada ca a) (hlb : Sl μ adb cb b) :
    Calls Try.prog 17 #[.slice ada a.length ca, .slice adb b.length cb] w (RetS w (.bool (decide (a = b)))) := by
  have ha1 := hla.1
  have ha2 := hla.2.1
  have hb1 := hlb.1
  have hb2 := hlb.2.1
  simp only [maxLen] at ha2 hb2
  have hS := St.start w μ hμ
  refine calls_start 26 [.slice ada a.length ca, .slice adb b.length cb] Try.func17 rfl Try.ntmps17 rfl rfl ?_
  refine CW.seq fun K1 hK1 => ?_
  refine CW.region [0] rfl ?_
  refine LW.ex rfl rfl rfl rfl (Ex.assign rfl) hS.rd ?_
  refine LW.nil fun aa ha => hK1 _ _ _ ?_ aa ha
  refine CW.seq fun K2 hK2 => ?_
  refine CW.seq fun K3 hK3 => ?_
  refine CW.region [0, 1, 2, 3, 4] rfl ?_
  refine LW.ex rfl rfl rfl rfl (Ex.move rfl) hS.rd ?_
  refine LW.ex rfl rfl rfl rfl (Ex.lenSl rfl Try.underlying37 rfl) hS.rd ?_
  refine LW.ex rfl rfl rfl rfl (Ex.move rfl) hS.rd ?_
  refine LW.ex rfl rfl rfl rfl (Ex.lenSl rfl Try.underlying37 rfl) hS.rd ?_
  refine LW.ex rfl rfl rfl rfl (Ex.neq rfl rfl rfl) hS.rd ?_
  refine LW.splitB (fun h1_4 => ?_) (fun h1_4 => ?_)
  · have h1_4 := of_decide_eq_true h1_4
    refine LW.nil fun aa ha => hK3 _ _ _ ?_ aa ha
    refine CW.yes rfl ?_
    refine CW.seq fun K4 hK4 => ?_
    refine CW.region [0] rfl ?_
    refine LW.ex rfl rfl rfl rfl (Ex.assign rfl) hS.rd ?_
    refine LW.nil fun aa ha => hK4 _ _ _ ?_ aa ha
    refine CW.ret fun aa ha => ?_
    refine ret_one ha Try.results17 rfl ?_
    exact hS.retB (decide_eq_false fun e => by rw [e] at h1_4; exact h1_4 rfl).symm
  · have h1_4 := of_decide_eq_false h1_4
    refine LW.nil fun aa ha => hK3 _ _ _ ?_ aa ha
    refine CW.no rfl ?_
    refine CW.skip fun aa ha => hK2 _ _ _ ?_ aa ha
    refine CW.seq fun K5 hK5 => ?_
    refine CW.seq fun K6 hK6 => ?_
    have hll : a.length = b.length := by omega
    refine CW.region [0] rfl ?_
    refine LW.ex rfl rfl rfl rfl (Ex.assign rfl) hS.rd ?_
    refine LW.nil fun aa ha => hK6 _ _ _ ?_ aa ha
    refine CW.block ?_
    refine CW.loop (fun qq frm wl4 => ∃ (i : Nat), i ≤ a.length ∧ qq = a.length - i ∧ frm = [(0, .slice ada a.length ca), (1, .slice adb b.length cb), (5, .int .i64 i)] ∧ St w wl4 μ [] ∧ (a.take i = b.take i)) _ ⟨0, (by first | omega | (simp; done) | (simp; omega)), rfl, rfl, hS, rfl⟩ ⟨rfl, rfl, rfl, trivial⟩ ?_
    clear hS
    rintro qq frm wl4 ⟨i, hi, hq, rfl, hS, he⟩
    refine CW.seq fun K7 hK7 => ?_
    refine CW.seq fun K8 hK8 => ?_
    refine CW.region [0, 1, 2, 3] rfl ?_
    refine LW.ex rfl rfl rfl rfl (Ex.move rfl) hS.rd ?_
    refine LW.ex rfl rfl rfl rfl (Ex.move rfl) hS.rd ?_
    refine LW.ex rfl rfl rfl rfl (Ex.lenSl rfl Try.underlying37 rfl) hS.rd ?_
    refine LW.ex rfl rfl rfl rfl (Ex.lss rfl rfl rfl) hS.rd ?_
    refine LW.splitB (fun h4_3 => ?_) (fun h4_3 => ?_)
    · have h4_3 := of_decide_eq_true h4_3
      refine LW.nil fun aa ha => hK8 _ _ _ ?_ aa ha
      refine CW.yes rfl ?_
      refine CW.skip fun aa ha => hK7 _ _ _ ?_ aa ha
      refine CW.seq fun K9 hK9 => ?_
      refine CW.block ?_
      refine CW.seq fun K10 hK10 => ?_
      have hi2 : i < a.length := by omega
      have hi3 : i < b.length := by omega
      obtain ⟨bl1, ol1, rfl, j0, j1⟩ := hla.at hi2
      obtain ⟨bl2, ol2, rfl, k0, k1⟩ := hlb.at hi3
      have hS := hS.drew
      refine CW.draw 9 (.ex 0 <| .ex 1 <| .ex 2 <| .ex 3 <| .ex 4 <| .ex 5 <| .ex 6 <| .ex 7 <| .ex 8 <| .done) [] (Rd _ _) mixed (by kernel_rfl) rfl rfl hS.rd ?_
      refine PW.ex rfl rfl rfl rfl (Ex.move rfl) ?_
      refine PW.ex rfl rfl rfl rfl (Ex.move rfl) ?_
      refine PW.ex rfl rfl rfl rfl (Ex.indexSl Try.underlying37 ti47 rfl rfl rfl (by omega)) ?_
      refine PW.ex rfl rfl rfl rfl (Ex.load2c ti47 rfl rfl (by first | exact obT rfl | exact Rd.imm ‹_› | exact slT ‹_›) (by first | exact obT rfl | exact Rd.imm ‹_› | exact slT ‹_›)) ?_
      refine PW.ex rfl rfl rfl rfl (Ex.move rfl) ?_
      refine PW.ex rfl rfl rfl rfl (Ex.move rfl) ?_
      refine PW.ex rfl rfl rfl rfl (Ex.indexSl Try.underlying37 ti47 rfl rfl rfl (by omega)) ?_
      refine PW.ex rfl rfl rfl rfl (Ex.load2c ti47 rfl rfl (by first | exact obT rfl | exact Rd.imm ‹_› | exact slT ‹_›) (by first | exact obT rfl | exact Rd.imm ‹_› | exact slT ‹_›)) ?_
      refine PW.ex rfl rfl rfl rfl (Ex.neqSt (by kernel_rfl) rfl rfl (rslEq a[i] b[i])) ?_
      refine PW.splitB (fun h6_8 => ?_) (fun h6_8 => ?_)
      · skip
        refine PW.nil ?_
        refine LW.nil fun aa ha => hK10 _ _ _ ?_ aa ha
        refine CW.yes rfl ?_
        refine CW.seq fun K11 hK11 => ?_
        refine CW.region [0] rfl ?_
        refine LW.ex rfl rfl rfl rfl (Ex.assign rfl) hS.rd ?_
        refine LW.nil fun aa ha => hK11 _ _ _ ?_ aa ha
        refine CW.ret fun aa ha => ?_
        refine ret_one ha Try.results17 rfl ?_
        exact hS.retB (decide_eq_false fun e => by subst e; simp at h6_8).symm
      · skip
        refine PW.nil ?_
        refine LW.nil fun aa ha => hK10 _ _ _ ?_ aa ha
        refine CW.no rfl ?_
        refine CW.skip fun aa ha => hK9 _ _ _ ?_ aa ha
        refine CW.region [0, 1, 2] rfl ?_
        refine LW.ex rfl rfl rfl rfl (Ex.move rfl) hS.rd ?_
        refine LW.ex rfl rfl rfl rfl (Ex.add rfl rfl (by first | exact inc64 (by omega) | exact addN (by omega) | exact w64 (by omega) (by omega))) hS.rd ?_
        refine LW.ex rfl rfl rfl rfl (Ex.assign rfl) hS.rd ?_
        refine LW.nil fun aa ha => ?_
        refine ⟨_, _, ?m4, ⟨i + 1, (by first | omega | (simp; done) | (simp; omega)), rfl, rfl, hS, by rw [List.take_succ_eq_append_getElem hi2, List.take_succ_eq_append_getElem hi3, he, show a[i] = b[i] by simpa using h6_8]⟩, ha.sub ⟨rfl, rfl, rfl, trivial⟩⟩
        case m4 => omega
    · have h4_3 := of_decide_eq_false h4_3
      refine LW.nil fun aa ha => hK8 _ _ _ ?_ aa ha
      refine CW.no rfl ?_
      refine CW.exit fun aa ha => hK5 _ _ _ ?_ aa ha
      refine CW.seq fun K12 hK12 => ?_
      refine CW.region [0] rfl ?_
      refine LW.ex rfl rfl rfl rfl (Ex.assign rfl) hS.rd ?_
      refine LW.nil fun aa ha => hK12 _ _ _ ?_ aa ha
      refine CW.ret fun aa ha => ?_
      refine ret_one ha Try.results17 rfl ?_
      exact hS.retB (decide_eq_true (by rw [List.take_of_length_le (by omega), List.take_of_length_le (by omega)] at he; exact he)).symm
def IsSch (s : Sch) (μ : Mem) (v : Value) : Prop := ∃ a c, v = .agg #[.int .i64 s.Modes, .int .u8 s.Accept.toNat, .slice a s.Rules.length c] ∧ Sl μ a c s.Rules
set_option maxRecDepth 100000 in
theorem sample_c (μ : Mem) (w : World) (hμ : Imm μ w) : Calls Try.prog 20 #[] w (RetV w μ (IsSch sampleS)) := by
  have hS := St.start w μ hμ
  refine calls_start 7 [] Try.func20 rfl Try.ntmps20 rfl rfl ?_
  refine CW.seq fun K13 hK13 => ?_
  refine CW.region [0] rfl ?_
  refine LW.hv rfl rfl rfl rfl (Hv.alloc ti29 hS) fun v w0 ⟨b0, hv, hb0, hS⟩ => ?_
  subst hv
  refine LW.nil fun aa ha => hK13 _ _ _ ?_ aa ha
  refine CW.seq fun K14 hK14 => ?_
  refine CW.region [0, 1, 2, 3, 4, 5, 6] rfl ?_
  refine LW.ex rfl rfl rfl rfl (Ex.buildS st58 rfl rfl rfl) hS.rd ?_
  refine LW.ex rfl rfl rfl rfl (Ex.buildS st58 rfl rfl rfl) hS.rd ?_
  refine LW.ex rfl rfl rfl rfl (Ex.buildS st58 rfl rfl rfl) hS.rd ?_
  refine LW.ex rfl rfl rfl rfl (Ex.buildS st58 rfl rfl rfl) hS.rd ?_
  refine LW.hv rfl rfl rfl rfl (Hv.buildSl hS Try.underlying27 ti58 rfl rfl rfl rfl rfl rfl) fun v w5 ⟨b5, hv, hb5, hS⟩ => ?_
  subst hv
  obtain ⟨μ2, hm2, hS, hr2⟩ := hS.shutRow (k := 0) (xs := sampleS.Rules) rfl (ruleReps _ sampleS.Rules) (by decide)
  dsimp only [List.eraseIdx] at hS
  refine LW.ex rfl rfl rfl rfl (Ex.buildS st29 rfl rfl rfl) hS.rd ?_
  refine LW.hu rfl rfl rfl (Hv.storeN (k := 0) ti29 hS rfl rfl rfl rfl (by simp [Value.oneCell'])) fun _ w_6 hS => ?_
  dsimp only [List.set] at hS
  refine LW.nil fun aa ha => hK14 _ _ _ ?_ aa ha
  refine CW.ret fun aa ha => ?_
  refine ret_cell ha Try.results20 rfl ti29 rfl (fun j v hv => Rd.objAll (k := 0) rfl hS.rd j v hv) ?_
  exact ⟨_, μ2, rfl, hS.below, hm2, hS.imm, _, _, rfl, hr2⟩
theorem finds_c (inp : ByteArray) (k : Int) (T : List Rsl) (want : List Rsl) (hl : lettersC inp = true) (hin : inp.size ≤ 40) (hc : checkT (wholeL sampleS inp) T = true) (hlen : (lsts sampleS.Rules inp.size).length ≤ 2000) (hk : 1 ≤ k ∧ k ≤ 50) (hT : T ≠ []) (hw : want = T.take k.toNat)
    (ad : Option Addr) (c : Nat) (μ : Mem) (w : World) (hμ : Imm μ w) (h0 : Sl μ ad c want) :
    Calls Try.prog 21 #[.string inp, .int .i64 k, .slice ad want.length c] w (RetS w (.bool true)) := by
  have hS := St.start w μ hμ
  refine calls_start 23 [.string inp, .int .i64 k, .slice ad want.length c] Try.func21 rfl Try.ntmps21 rfl rfl ?_
  refine CW.seq fun K15 hK15 => ?_
  refine CW.region [0] rfl ?_
  refine LW.ex rfl rfl rfl rfl (Ex.assign rfl) hS.rd ?_
  refine LW.nil fun aa ha => hK15 _ _ _ ?_ aa ha
  refine CW.seq fun K16 hK16 => ?_
  refine CW.region [0, 1, 2, 3, 4, 5, 6, 7, 8] rfl ?_
  refine LW.hv rfl rfl rfl rfl (Hv.callV hS rfl rfl rfl cb20 (sample_c μ _ hS.imm)) fun v w10 ⟨μ10, hv10, hm10, hS⟩ => ?_
  obtain ⟨as1, cs1, hv, hs1⟩ := hv10
  subst hv
  refine LW.ex rfl rfl rfl rfl (Ex.move rfl) hS.rd ?_
  refine LW.ex rfl rfl rfl rfl (Ex.move rfl) hS.rd ?_
  refine LW.hv rfl rfl rfl rfl (Hv.callV hS rfl rfl rfl cb13 (best_c sampleS sample_ok.small inp hin k (by omega) (fun _ => sample_fed) _ _ μ10 _ hS.imm hs1)) fun v w13 ⟨μ13, hv13, hm13, hS⟩ => ?_
  obtain ⟨l, e, ad13, c13, hv, hs13, hb⟩ := hv13
  subst hv
  obtain ⟨rfl, rfl⟩ := best_fix sample_ok rfl sample_fed hl (by omega) hc hlen hk hb
  refine LW.ex rfl rfl rfl rfl (Ex.move rfl) hS.rd ?_
  refine LW.ex rfl rfl rfl rfl (Ex.extract rfl rfl) hS.rd ?_
  refine LW.ex rfl rfl rfl rfl (Ex.extract rfl rfl) hS.rd ?_
  refine LW.ex rfl rfl rfl rfl (Ex.assign rfl) hS.rd ?_
  refine LW.ex rfl rfl rfl rfl (Ex.assign rfl) hS.rd ?_
  refine LW.nil fun aa ha => hK16 _ _ _ ?_ aa ha
  refine CW.seq fun K17 hK17 => ?_
  refine CW.region [0, 1, 2, 3, 4, 5, 6, 7] rfl ?_
  refine LW.ex rfl rfl rfl rfl (Ex.move rfl) hS.rd ?_
  refine LW.ex rfl rfl rfl rfl (Ex.eql rfl rfl rfl) hS.rd ?_
  refine LW.splitB (fun h2_1 => ?_) (fun h2_1 => ?_)
  · have h2_1 := of_decide_eq_true h2_1
    refine LW.ex rfl rfl rfl rfl (Ex.move rfl) hS.rd ?_
    refine LW.ex rfl rfl rfl rfl (Ex.move rfl) hS.rd ?_
    refine LW.ex rfl rfl rfl rfl (Ex.move rfl) hS.rd ?_
    refine LW.hv rfl rfl rfl rfl (Hv.callS hS rfl rfl rfl cb17 (same_c (T.take k.toNat) want _ _ _ _ _ _ hS.imm hs13 ((h0.mono hm10).mono hm13))) fun v w21 ⟨hv, hS⟩ => ?_
    subst hv
    refine LW.ex rfl rfl rfl rfl (by first | exact Ex.pick_yes rfl rfl | exact Ex.pick_no rfl rfl) hS.rd ?_
    refine LW.ex rfl rfl rfl rfl (Ex.assign rfl) hS.rd ?_
    refine LW.nil fun aa ha => hK17 _ _ _ ?_ aa ha
    refine CW.ret fun aa ha => ?_
    refine ret_one ha Try.results21 rfl ?_
    exact hS.retB (decide_eq_true hw.symm)
  · have h2_1 := of_decide_eq_false h2_1
    exact absurd (if_neg hT) h2_1
def IsErr (e : Int) (_ : Mem) (v : Value) : Prop := ∃ ad c, v = .tuple #[.slice ad 0 c, .int .i64 e]
theorem bestE_c (s : Sch) (hs : SSmall s) (inp : ByteArray) (hin : inp.size ≤ 40) (k : Int) (hk : -9223372036854775808 ≤ k ∧ k ≤ 9223372036854775807) (hbad : ¬ (sndB s inp = true ∧ 1 ≤ k ∧ k ≤ 50)) (hf : sndB s inp = true → Fed s) (a0 : Option Addr) (c0 : Nat) (μ : Mem) (w : World) (hμ : Imm μ w) (h0 : Sl μ a0 c0 s.Rules) :
    Calls Try.prog 13 #[.agg #[.int .i64 s.Modes, .int .u8 s.Accept.toNat, .slice a0 s.Rules.length c0], .string inp, .int .i64 k] w (RetV w μ (IsErr 1)) :=
  (best_c s hs inp hin k hk hf a0 c0 μ w hμ h0).mono fun e w' ⟨v, μ', h1, h2, h3, h4, l, e, ad, c, h5, h6, h7⟩ => by
    obtain ⟨rfl, rfl⟩ := best_bad hbad h7
    exact ⟨v, μ', h1, h2, h3, h4, ad, c, h5⟩
theorem bestN_c (inp : ByteArray) (hin : inp.size ≤ 40) (k : Int) (hk : 1 ≤ k ∧ k ≤ 50) (hl : lettersC inp = true) (hc : checkT (wholeL sampleS inp) [] = true) (hlen : (lsts sampleS.Rules inp.size).length ≤ 2000) (a0 : Option Addr) (c0 : Nat) (μ : Mem) (w : World) (hμ : Imm μ w) (h0 : Sl μ a0 c0 sampleS.Rules) :
    Calls Try.prog 13 #[.agg #[.int .i64 1, .int .u8 1, .slice a0 4 c0], .string inp, .int .i64 k] w (RetV w μ (IsErr 50)) :=
  (best_c sampleS sample_ok.small inp hin k (by omega) (fun _ => sample_fed) a0 c0 μ w hμ h0).mono fun e w' ⟨v, μ', h1, h2, h3, h4, l, e, ad, c, h5, h6, h7⟩ => by
    obtain ⟨rfl, rfl⟩ := best_fix sample_ok rfl sample_fed hl (by omega) hc hlen hk h7
    exact ⟨v, μ', h1, h2, h3, h4, ad, c, by rw [h5, if_pos rfl]; rw [List.take_nil]; rfl⟩
def IsInt (z : Int) (_ : Mem) (v : Value) : Prop := v = .int .i64 z
theorem costS_c (inp out : ByteArray) (hin : inp.size ≤ 40) (ho : out.size ≤ 1000000) (v : Int) (hv : ∀ z, CostR sampleS inp out z → z = v) (a0 : Option Addr) (c0 : Nat) (μ : Mem) (w : World) (hμ : Imm μ w) (h0 : Sl μ a0 c0 sampleS.Rules) :
    Calls Try.prog 12 #[.agg #[.int .i64 1, .int .u8 1, .slice a0 4 c0], .string inp, .string out] w (RetV w μ (IsInt v)) :=
  (cost_c sampleS sample_ok.small inp out hin ho (fun _ => sample_fed) a0 c0 μ w hμ h0).mono fun e w' ⟨u, μ', h1, h2, h3, h4, z, h5, h6⟩ => by
    obtain rfl := hv z h6
    exact ⟨u, μ', h1, h2, h3, h4, h5⟩
def IsBool (b : Bool) (_ : Mem) (v : Value) : Prop := v = .bool b
theorem goesS_c (inp : ByteArray) (hin : inp.size ≤ 40) (b : Bool) (hv : b = true ↔ GoesP sampleS inp) (a0 : Option Addr) (c0 : Nat) (μ : Mem) (w : World) (hμ : Imm μ w) (h0 : Sl μ a0 c0 sampleS.Rules) :
    Calls Try.prog 19 #[.agg #[.int .i64 1, .int .u8 1, .slice a0 4 c0], .string inp] w (RetV w μ (IsBool b)) :=
  (goes_c sampleS sample_ok.small inp hin (fun _ => sample_fed) a0 c0 μ w hμ h0).mono fun e w' ⟨u, μ', h1, h2, h3, h4, z, h5, h6⟩ => by
    have : z = b := by rw [Bool.eq_iff_iff]; exact h6.trans hv.symm
    subst this
    exact ⟨u, μ', h1, h2, h3, h4, h5⟩
theorem noSnd {s : Sch} {inp : ByteArray} (h : ¬ SchOk s ∨ lettersC inp = false) : ¬ sndB s inp = true := fun e => by
  have h2 := sndB_iff.1 e
  rcases h with h | h
  · exact h h2.1
  · rw [h2.2.2] at h; cases h
theorem zero_no : ¬ SchOk ⟨0, 0, []⟩ := fun h => by have := h.m1; simp only at this; omega
theorem cost_aa : ∀ z, CostR sampleS (bs [97, 97]) (bs [97, 65]) z → z = 1 := fun z h => cost_fix sample_ok rfl sample_fed (by decide +kernel) (by decide) (.inl ⟨by decide, by decide +kernel, by decide +kernel⟩) h
theorem cost_ab : ∀ z, CostR sampleS (bs [97]) (bs [98]) z → z = -1 := fun z h => cost_fix sample_ok rfl sample_fed (by decide +kernel) (by decide) (.inr ⟨rfl, by decide +kernel⟩) h
theorem cost_A : ∀ z, CostR sampleS (bs [65]) (bs [65]) z → z = -1 := fun z h => cost_bad (noSnd (.inr (by decide +kernel))) h
theorem goes_ab : true = true ↔ GoesP sampleS (bs [97, 98]) := ⟨fun _ => goes_yes sample_ok rfl sample_fed (by decide +kernel) (by decide +kernel), fun _ => rfl⟩
theorem goes_ac : false = true ↔ GoesP sampleS (bs [97, 99]) := ⟨(fun h => by cases h), fun h => absurd h (goes_no sample_ok rfl sample_fed (by decide +kernel) (by decide +kernel))⟩
set_option maxRecDepth 100000 in
set_option maxHeartbeats 2000000 in
theorem sanity_c (w : World) : Calls Try.prog 8 #[] w (RetS w (.bool true)) := by
  have hS := St.start w (fun _ => none) (fun _ _ h => by cases h)
  refine calls_start 96 [] Try.func8 rfl Try.ntmps8 rfl rfl ?_
  refine CW.seq fun K18 hK18 => ?_
  refine CW.region [0] rfl ?_
  refine LW.ex rfl rfl rfl rfl (Ex.assign rfl) hS.rd ?_
  refine LW.nil fun aa ha => hK18 _ _ _ ?_ aa ha
  refine CW.seq fun K19 hK19 => ?_
  refine CW.region [0, 1, 2] rfl ?_
  refine LW.hv rfl rfl rfl rfl (Hv.callV hS rfl rfl rfl cb20 (sample_c _ _ hS.imm)) fun v w12 ⟨μ12, hv12, hm12, hS⟩ => ?_
  obtain ⟨as1, cs1, hv, hs1⟩ := hv12
  subst hv
  refine LW.hv rfl rfl rfl rfl (Hv.alloc ti29 hS) fun v w1 ⟨b1, hv, hb1, hS⟩ => ?_
  subst hv
  refine LW.hu rfl rfl rfl (Hv.storeN (k := 0) ti29 hS rfl rfl rfl rfl (by simp [Value.oneCell'])) fun _ w_2 hS => ?_
  dsimp only [List.set] at hS
  refine LW.nil fun aa ha => hK19 _ _ _ ?_ aa ha
  refine CW.seq fun K20 hK20 => ?_
  refine CW.region [0, 1, 2, 3, 4, 5, 6] rfl ?_
  refine LW.ex rfl rfl rfl rfl (Ex.load3c ti29 rfl rfl (by first | exact obT rfl | exact Rd.imm ‹_› | exact slT ‹_›) (by first | exact obT rfl | exact Rd.imm ‹_› | exact slT ‹_›) (by first | exact obT rfl | exact Rd.imm ‹_› | exact slT ‹_›)) hS.rd ?_
  refine LW.hv rfl rfl rfl rfl (Hv.callV hS rfl rfl rfl cb13 (bestN_c (bs [99]) (by decide) 5 (by decide) (by decide +kernel) sT_c (by decide +kernel) _ _ _ _ hS.imm hs1)) fun v w15 ⟨μ15, hv15, hm15, hS⟩ => ?_
  obtain ⟨p15, q15, hv⟩ := hv15
  subst hv
  have hs1 := hs1.mono hm15
  refine LW.ex rfl rfl rfl rfl (Ex.move rfl) hS.rd ?_
  refine LW.ex rfl rfl rfl rfl (Ex.extract rfl rfl) hS.rd ?_
  refine LW.ex rfl rfl rfl rfl (Ex.extract rfl rfl) hS.rd ?_
  refine LW.ex rfl rfl rfl rfl (Ex.assign rfl) hS.rd ?_
  refine LW.ex rfl rfl rfl rfl (Ex.assign rfl) hS.rd ?_
  refine LW.nil fun aa ha => hK20 _ _ _ ?_ aa ha
  refine CW.seq fun K21 hK21 => ?_
  refine CW.region [0, 1, 2, 3, 4, 5, 6] rfl ?_
  refine LW.ex rfl rfl rfl rfl (Ex.load3c ti29 rfl rfl (by first | exact obT rfl | exact Rd.imm ‹_› | exact slT ‹_›) (by first | exact obT rfl | exact Rd.imm ‹_› | exact slT ‹_›) (by first | exact obT rfl | exact Rd.imm ‹_› | exact slT ‹_›)) hS.rd ?_
  refine LW.hv rfl rfl rfl rfl (Hv.callV hS rfl rfl rfl cb13 (bestE_c sampleS sample_ok.small (bs [65]) (by decide) 5 (by decide) (fun h => noSnd (.inr (by decide +kernel)) h.1) (fun _ => sample_fed) _ _ _ _ hS.imm hs1)) fun v w20 ⟨μ20, hv20, hm20, hS⟩ => ?_
  obtain ⟨p20, q20, hv⟩ := hv20
  subst hv
  have hs1 := hs1.mono hm20
  refine LW.ex rfl rfl rfl rfl (Ex.move rfl) hS.rd ?_
  refine LW.ex rfl rfl rfl rfl (Ex.extract rfl rfl) hS.rd ?_
  refine LW.ex rfl rfl rfl rfl (Ex.extract rfl rfl) hS.rd ?_
  refine LW.ex rfl rfl rfl rfl (Ex.assign rfl) hS.rd ?_
  refine LW.ex rfl rfl rfl rfl (Ex.assign rfl) hS.rd ?_
  refine LW.nil fun aa ha => hK21 _ _ _ ?_ aa ha
  refine CW.seq fun K22 hK22 => ?_
  refine CW.region [0, 1, 2, 3, 4, 5, 6] rfl ?_
  refine LW.ex rfl rfl rfl rfl (Ex.load3c ti29 rfl rfl (by first | exact obT rfl | exact Rd.imm ‹_› | exact slT ‹_›) (by first | exact obT rfl | exact Rd.imm ‹_› | exact slT ‹_›) (by first | exact obT rfl | exact Rd.imm ‹_› | exact slT ‹_›)) hS.rd ?_
  refine LW.hv rfl rfl rfl rfl (Hv.callV hS rfl rfl rfl cb13 (bestE_c sampleS sample_ok.small (bs [97]) (by decide) 0 (by decide) (fun h => by have := h.2; omega) (fun _ => sample_fed) _ _ _ _ hS.imm hs1)) fun v w25 ⟨μ25, hv25, hm25, hS⟩ => ?_
  obtain ⟨p25, q25, hv⟩ := hv25
  subst hv
  have hs1 := hs1.mono hm25
  refine LW.ex rfl rfl rfl rfl (Ex.move rfl) hS.rd ?_
  refine LW.ex rfl rfl rfl rfl (Ex.extract rfl rfl) hS.rd ?_
  refine LW.ex rfl rfl rfl rfl (Ex.extract rfl rfl) hS.rd ?_
  refine LW.ex rfl rfl rfl rfl (Ex.assign rfl) hS.rd ?_
  refine LW.ex rfl rfl rfl rfl (Ex.assign rfl) hS.rd ?_
  refine LW.nil fun aa ha => hK22 _ _ _ ?_ aa ha
  refine CW.seq fun K23 hK23 => ?_
  refine CW.region [0, 1, 2, 3, 4, 5, 6] rfl ?_
  refine LW.ex rfl rfl rfl rfl (Ex.buildS st29 rfl rfl rfl) hS.rd ?_
  refine LW.hv rfl rfl rfl rfl (Hv.callV hS rfl rfl rfl cb13 (bestE_c ⟨0, 0, []⟩ (fun r h => by cases h) (bs [97]) (by decide) 5 (by decide) (fun h => noSnd (.inl zero_no) h.1) (fun h => absurd h (noSnd (.inl zero_no))) _ _ _ _ hS.imm (Sl.nil _ _ _ (by simp [maxLen])))) fun v w30 ⟨μ30, hv30, hm30, hS⟩ => ?_
  obtain ⟨p30, q30, hv⟩ := hv30
  subst hv
  have hs1 := hs1.mono hm30
  refine LW.ex rfl rfl rfl rfl (Ex.move rfl) hS.rd ?_
  refine LW.ex rfl rfl rfl rfl (Ex.extract rfl rfl) hS.rd ?_
  refine LW.ex rfl rfl rfl rfl (Ex.extract rfl rfl) hS.rd ?_
  refine LW.ex rfl rfl rfl rfl (Ex.assign rfl) hS.rd ?_
  refine LW.ex rfl rfl rfl rfl (Ex.assign rfl) hS.rd ?_
  refine LW.nil fun aa ha => hK23 _ _ _ ?_ aa ha
  refine CW.seq fun K24 hK24 => ?_
  refine CW.region [0, 1, 2, 3, 4, 5, 6, 7, 8, 9, 10, 11, 12, 13, 14, 15, 16, 17, 18, 19, 20, 21] rfl ?_
  refine LW.ex rfl rfl rfl rfl (Ex.buildS st47 rfl rfl rfl) hS.rd ?_
  refine LW.ex rfl rfl rfl rfl (Ex.buildS st47 rfl rfl rfl) hS.rd ?_
  refine LW.hv rfl rfl rfl rfl (Hv.buildSl hS Try.underlying37 ti47 rfl rfl rfl rfl rfl rfl) fun v w35 ⟨b35, hv, hb35, hS⟩ => ?_
  subst hv
  refine LW.hv rfl rfl rfl rfl (Hv.callS hS rfl rfl rfl cb21 (finds_c (bs [97]) 5 _ [⟨bs [97], 0⟩, ⟨bs [65], 1⟩] (by decide +kernel) (by decide) sT_a (by decide +kernel) (by decide) (by simp) rfl _ _ (memOf _) _ (imm_memOf _) (hS.lend_obj (k := 0) rfl (rslReps _ [⟨bs [97], 0⟩, ⟨bs [65], 1⟩]) (by decide)))) fun v w36 ⟨hv, hS⟩ => ?_
  subst hv
  refine LW.ex rfl rfl rfl rfl (Ex.move rfl) hS.rd ?_
  refine LW.ex rfl rfl rfl rfl (Ex.buildS st47 rfl rfl rfl) hS.rd ?_
  refine LW.ex rfl rfl rfl rfl (Ex.buildS st47 rfl rfl rfl) hS.rd ?_
  refine LW.ex rfl rfl rfl rfl (Ex.buildS st47 rfl rfl rfl) hS.rd ?_
  refine LW.hv rfl rfl rfl rfl (Hv.buildSl hS Try.underlying37 ti47 rfl rfl rfl rfl rfl rfl) fun v w41 ⟨b41, hv, hb41, hS⟩ => ?_
  subst hv
  refine LW.hv rfl rfl rfl rfl (Hv.callS hS rfl rfl rfl cb21 (finds_c (bs [97, 97]) 3 _ [⟨bs [97, 97], 0⟩, ⟨bs [65, 97], 1⟩, ⟨bs [66], 1⟩] (by decide +kernel) (by decide) sT_aa (by decide +kernel) (by decide) (by simp) rfl _ _ (memOf _) _ (imm_memOf _) (hS.lend_obj (k := 0) rfl (rslReps _ [⟨bs [97, 97], 0⟩, ⟨bs [65, 97], 1⟩, ⟨bs [66], 1⟩]) (by decide)))) fun v w42 ⟨hv, hS⟩ => ?_
  subst hv
  refine LW.ex rfl rfl rfl rfl (by first | exact Ex.pick_yes rfl rfl | exact Ex.pick_no rfl rfl) hS.rd ?_
  refine LW.ex rfl rfl rfl rfl (Ex.move rfl) hS.rd ?_
  refine LW.ex rfl rfl rfl rfl (Ex.buildS st47 rfl rfl rfl) hS.rd ?_
  refine LW.hv rfl rfl rfl rfl (Hv.buildSl hS Try.underlying37 ti47 rfl rfl rfl rfl rfl rfl) fun v w46 ⟨b46, hv, hb46, hS⟩ => ?_
  subst hv
  refine LW.hv rfl rfl rfl rfl (Hv.callS hS rfl rfl rfl cb21 (finds_c (bs [98, 97]) 1 _ [⟨bs [97], 5⟩] (by decide +kernel) (by decide) sT_ba (by decide +kernel) (by decide) (by simp) rfl _ _ (memOf _) _ (imm_memOf _) (hS.lend_obj (k := 0) rfl (rslReps _ [⟨bs [97], 5⟩]) (by decide)))) fun v w47 ⟨hv, hS⟩ => ?_
  subst hv
  refine LW.ex rfl rfl rfl rfl (by first | exact Ex.pick_yes rfl rfl | exact Ex.pick_no rfl rfl) hS.rd ?_
  refine LW.ex rfl rfl rfl rfl (Ex.move rfl) hS.rd ?_
  refine LW.ex rfl rfl rfl rfl (Ex.buildS st47 rfl rfl rfl) hS.rd ?_
  refine LW.hv rfl rfl rfl rfl (Hv.buildSl hS Try.underlying37 ti47 rfl rfl rfl rfl rfl rfl) fun v w51 ⟨b51, hv, hb51, hS⟩ => ?_
  subst hv
  refine LW.hv rfl rfl rfl rfl (Hv.callS hS rfl rfl rfl cb21 (finds_c (bs []) 9 _ [⟨bs [], 0⟩] (by decide +kernel) (by decide) sT_e (by decide +kernel) (by decide) (by simp) rfl _ _ (memOf _) _ (imm_memOf _) (hS.lend_obj (k := 0) rfl (rslReps _ [⟨bs [], 0⟩]) (by decide)))) fun v w52 ⟨hv, hS⟩ => ?_
  subst hv
  refine LW.ex rfl rfl rfl rfl (by first | exact Ex.pick_yes rfl rfl | exact Ex.pick_no rfl rfl) hS.rd ?_
  refine LW.ex rfl rfl rfl rfl (Ex.assign rfl) hS.rd ?_
  refine LW.nil fun aa ha => hK24 _ _ _ ?_ aa ha
  refine CW.seq fun K25 hK25 => ?_
  refine CW.region [0, 1, 2, 3, 4, 5, 6, 7, 8, 9, 10, 11, 12, 13, 14] rfl ?_
  refine LW.ex rfl rfl rfl rfl (Ex.move rfl) hS.rd ?_
  refine LW.ex rfl rfl rfl rfl (Ex.eql rfl rfl rfl) hS.rd ?_
  refine LW.splitB (fun h7_1 => ?_) (fun h7_1 => ?_)
  · have h7_1 := of_decide_eq_true h7_1
    refine LW.ex rfl rfl rfl rfl (Ex.move rfl) hS.rd ?_
    refine LW.ex rfl rfl rfl rfl (Ex.move rfl) hS.rd ?_
    refine LW.ex rfl rfl rfl rfl (Ex.eql rfl rfl rfl) hS.rd ?_
    refine LW.splitB (fun h7_4 => ?_) (fun h7_4 => ?_)
    · have h7_4 := of_decide_eq_true h7_4
      refine LW.ex rfl rfl rfl rfl (by first | exact Ex.pick_yes rfl rfl | exact Ex.pick_no rfl rfl) hS.rd ?_
      refine LW.ex rfl rfl rfl rfl (Ex.move rfl) hS.rd ?_
      refine LW.ex rfl rfl rfl rfl (Ex.move rfl) hS.rd ?_
      refine LW.ex rfl rfl rfl rfl (Ex.eql rfl rfl rfl) hS.rd ?_
      refine LW.splitB (fun h7_8 => ?_) (fun h7_8 => ?_)
      · have h7_8 := of_decide_eq_true h7_8
        refine LW.ex rfl rfl rfl rfl (by first | exact Ex.pick_yes rfl rfl | exact Ex.pick_no rfl rfl) hS.rd ?_
        refine LW.ex rfl rfl rfl rfl (Ex.move rfl) hS.rd ?_
        refine LW.ex rfl rfl rfl rfl (Ex.move rfl) hS.rd ?_
        refine LW.ex rfl rfl rfl rfl (Ex.eql rfl rfl rfl) hS.rd ?_
        refine LW.splitB (fun h7_12 => ?_) (fun h7_12 => ?_)
        · have h7_12 := of_decide_eq_true h7_12
          refine LW.ex rfl rfl rfl rfl (by first | exact Ex.pick_yes rfl rfl | exact Ex.pick_no rfl rfl) hS.rd ?_
          refine LW.ex rfl rfl rfl rfl (Ex.assign rfl) hS.rd ?_
          refine LW.nil fun aa ha => hK25 _ _ _ ?_ aa ha
          refine CW.seq fun K26 hK26 => ?_
          refine CW.region [0, 1, 2, 3, 4, 5, 6, 7, 8, 9, 10, 11, 12, 13, 14, 15, 16, 17, 18, 19, 20, 21, 22, 23, 24, 25, 26, 27, 28] rfl ?_
          refine LW.ex rfl rfl rfl rfl (Ex.move rfl) hS.rd ?_
          refine LW.ex rfl rfl rfl rfl (Ex.move rfl) hS.rd ?_
          refine LW.ex rfl rfl rfl rfl (Ex.move rfl) hS.rd ?_
          refine LW.ex rfl rfl rfl rfl (by first | exact Ex.pick_yes rfl rfl | exact Ex.pick_no rfl rfl) hS.rd ?_
          refine LW.ex rfl rfl rfl rfl (Ex.move rfl) hS.rd ?_
          refine LW.ex rfl rfl rfl rfl (Ex.load3c ti29 rfl rfl (by first | exact obT rfl | exact Rd.imm ‹_› | exact slT ‹_›) (by first | exact obT rfl | exact Rd.imm ‹_› | exact slT ‹_›) (by first | exact obT rfl | exact Rd.imm ‹_› | exact slT ‹_›)) hS.rd ?_
          refine LW.hv rfl rfl rfl rfl (Hv.callV hS rfl rfl rfl cb12 (costS_c (bs [97, 97]) (bs [97, 65]) (by decide) (by decide) 1 cost_aa _ _ _ _ hS.imm hs1)) fun v w74 ⟨μ74, hv74, hm74, hS⟩ => ?_
          unfold IsInt at hv74
          subst hv74
          have hs1 := hs1.mono hm74
          refine LW.ex rfl rfl rfl rfl (Ex.eql rfl rfl rfl) hS.rd ?_
          refine LW.splitB (fun h8_7 => ?_) (fun h8_7 => ?_)
          · have h8_7 := of_decide_eq_true h8_7
            refine LW.ex rfl rfl rfl rfl (by first | exact Ex.pick_yes rfl rfl | exact Ex.pick_no rfl rfl) hS.rd ?_
            refine LW.ex rfl rfl rfl rfl (Ex.move rfl) hS.rd ?_
            refine LW.ex rfl rfl rfl rfl (Ex.load3c ti29 rfl rfl (by first | exact obT rfl | exact Rd.imm ‹_› | exact slT ‹_›) (by first | exact obT rfl | exact Rd.imm ‹_› | exact slT ‹_›) (by first | exact obT rfl | exact Rd.imm ‹_› | exact slT ‹_›)) hS.rd ?_
            refine LW.hv rfl rfl rfl rfl (Hv.callV hS rfl rfl rfl cb12 (costS_c (bs [97]) (bs [98]) (by decide) (by decide) (-1) cost_ab _ _ _ _ hS.imm hs1)) fun v w79 ⟨μ79, hv79, hm79, hS⟩ => ?_
            unfold IsInt at hv79
            subst hv79
            have hs1 := hs1.mono hm79
            refine LW.ex rfl rfl rfl rfl (Ex.eql rfl rfl rfl) hS.rd ?_
            refine LW.splitB (fun h8_12 => ?_) (fun h8_12 => ?_)
            · have h8_12 := of_decide_eq_true h8_12
              refine LW.ex rfl rfl rfl rfl (by first | exact Ex.pick_yes rfl rfl | exact Ex.pick_no rfl rfl) hS.rd ?_
              refine LW.ex rfl rfl rfl rfl (Ex.move rfl) hS.rd ?_
              refine LW.ex rfl rfl rfl rfl (Ex.load3c ti29 rfl rfl (by first | exact obT rfl | exact Rd.imm ‹_› | exact slT ‹_›) (by first | exact obT rfl | exact Rd.imm ‹_› | exact slT ‹_›) (by first | exact obT rfl | exact Rd.imm ‹_› | exact slT ‹_›)) hS.rd ?_
              refine LW.hv rfl rfl rfl rfl (Hv.callV hS rfl rfl rfl cb12 (costS_c (bs [65]) (bs [65]) (by decide) (by decide) (-1) cost_A _ _ _ _ hS.imm hs1)) fun v w84 ⟨μ84, hv84, hm84, hS⟩ => ?_
              unfold IsInt at hv84
              subst hv84
              have hs1 := hs1.mono hm84
              refine LW.ex rfl rfl rfl rfl (Ex.eql rfl rfl rfl) hS.rd ?_
              refine LW.splitB (fun h8_17 => ?_) (fun h8_17 => ?_)
              · have h8_17 := of_decide_eq_true h8_17
                refine LW.ex rfl rfl rfl rfl (by first | exact Ex.pick_yes rfl rfl | exact Ex.pick_no rfl rfl) hS.rd ?_
                refine LW.ex rfl rfl rfl rfl (Ex.move rfl) hS.rd ?_
                refine LW.ex rfl rfl rfl rfl (Ex.load3c ti29 rfl rfl (by first | exact obT rfl | exact Rd.imm ‹_› | exact slT ‹_›) (by first | exact obT rfl | exact Rd.imm ‹_› | exact slT ‹_›) (by first | exact obT rfl | exact Rd.imm ‹_› | exact slT ‹_›)) hS.rd ?_
                refine LW.hv rfl rfl rfl rfl (Hv.callV hS rfl rfl rfl cb19 (goesS_c (bs [97, 98]) (by decide) true goes_ab _ _ _ _ hS.imm hs1)) fun v w89 ⟨μ89, hv89, hm89, hS⟩ => ?_
                unfold IsBool at hv89
                subst hv89
                have hs1 := hs1.mono hm89
                refine LW.ex rfl rfl rfl rfl (by first | exact Ex.pick_yes rfl rfl | exact Ex.pick_no rfl rfl) hS.rd ?_
                refine LW.ex rfl rfl rfl rfl (Ex.move rfl) hS.rd ?_
                refine LW.ex rfl rfl rfl rfl (Ex.load3c ti29 rfl rfl (by first | exact obT rfl | exact Rd.imm ‹_› | exact slT ‹_›) (by first | exact obT rfl | exact Rd.imm ‹_› | exact slT ‹_›) (by first | exact obT rfl | exact Rd.imm ‹_› | exact slT ‹_›)) hS.rd ?_
                refine LW.hv rfl rfl rfl rfl (Hv.callV hS rfl rfl rfl cb19 (goesS_c (bs [97, 99]) (by decide) false goes_ac _ _ _ _ hS.imm hs1)) fun v w93 ⟨μ93, hv93, hm93, hS⟩ => ?_
                unfold IsBool at hv93
                subst hv93
                have hs1 := hs1.mono hm93
                refine LW.ex rfl rfl rfl rfl (Ex.not rfl rfl) hS.rd ?_
                refine LW.ex rfl rfl rfl rfl (by first | exact Ex.pick_yes rfl rfl | exact Ex.pick_no rfl rfl) hS.rd ?_
                refine LW.ex rfl rfl rfl rfl (Ex.assign rfl) hS.rd ?_
                refine LW.nil fun aa ha => hK26 _ _ _ ?_ aa ha
                refine CW.ret fun aa ha => ?_
                refine ret_one ha Try.results8 rfl ?_
                exact hS.retS
              · have h8_17 := of_decide_eq_false h8_17
                exact absurd rfl h8_17
            · have h8_12 := of_decide_eq_false h8_12
              exact absurd rfl h8_12
          · have h8_7 := of_decide_eq_false h8_7
            exact absurd rfl h8_7
        · have h7_12 := of_decide_eq_false h7_12
          exact absurd rfl h7_12
      · have h7_8 := of_decide_eq_false h7_8
        exact absurd rfl h7_8
    · have h7_4 := of_decide_eq_false h7_4
      exact absurd rfl h7_4
  · have h7_1 := of_decide_eq_false h7_1
    exact absurd rfl h7_1
end Go.Proofs.Ytgbdfgifgngijaa

/-
  Output: schemes with some outputs for one letter: how many pairs there are (plain Lean).
-/
namespace Go.Proofs.Ytgbdfgifgngijaa
open Go.RowKit Sy Go.Maps

def abcde : ByteArray := bs [97, 98, 99, 100, 101]
def limR (i : Nat) : Rule := ⟨0, 0, bs [97], abcde.extract i (i + 1), i⟩
def limS (o : Nat) : Sch := ⟨1, 1, (List.range o).map limR⟩
def aS (n : Nat) : ByteArray := bs (List.replicate n 97)
theorem aS_bl (n : Nat) : bl (aS n) = List.replicate n 97 := by unfold bl aS bs; simp
theorem aS_size (n : Nat) : (aS n).size = n := by rw [← bl_len, aS_bl, List.length_replicate]
theorem aS_succ (n : Nat) : aS n ++ bs [97] = aS (n + 1) := by
  apply bl_inj
  rw [aS_bl]
  unfold bl
  rw [ByteArray.data_append, Array.toList_append]
  show bl (aS n) ++ [97] = _
  rw [aS_bl, List.replicate_succ']
theorem limS_ok {o : Nat} (h : 2 ≤ o ∧ o ≤ 5) : SchOk (limS o) := by
  have : o = 2 ∨ o = 3 ∨ o = 4 ∨ o = 5 := by omega
  rcases this with rfl | rfl | rfl | rfl
  · exact ⟨by decide, by decide, by decide, by decide, by decide, by decide +kernel⟩
  · exact ⟨by decide, by decide, by decide, by decide, by decide, by decide +kernel⟩
  · exact ⟨by decide, by decide, by decide, by decide, by decide, by decide +kernel⟩
  · exact ⟨by decide, by decide, by decide, by decide, by decide, by decide +kernel⟩
theorem limS_mem {o : Nat} {r : Rule} : r ∈ (limS o).Rules ↔ ∃ i, i < o ∧ r = limR i := by
  unfold limS
  simp only [List.mem_map, List.mem_range]
  exact ⟨fun ⟨i, h1, h2⟩ => ⟨i, h1, h2.symm⟩, fun ⟨i, h1, h2⟩ => ⟨i, h1, h2.symm⟩⟩
theorem limS_fed (o : Nat) : Fed (limS o) := fun r hr => by
  obtain ⟨i, _, rfl⟩ := limS_mem.1 hr
  exact Nat.le_refl _
theorem aS_letters {n : Nat} (h : n < 15) : lettersC (aS n) = true := by
  have : ∀ n < 15, lettersC (aS n) = true := by decide +kernel
  exact this n h
def let5 (i : Nat) : UInt8 := UInt8.ofNat (97 + i)
theorem limR_out {i : Nat} (h : i < 5) : bl (limR i).Out = [let5 i] := by
  have : ∀ i < 5, bl (limR i).Out = [let5 i] := by decide +kernel
  exact this i h
def words (o : Nat) : Nat → List (List UInt8)
  | 0 => [[]]
  | n + 1 => (List.range o).flatMap fun i => (words o n).map (let5 i :: ·)
theorem words_len (o : Nat) : ∀ n, (words o n).length = o ^ n
  | 0 => rfl
  | n + 1 => by
    unfold words
    rw [List.length_flatMap]
    simp only [List.length_map, words_len o n]
    rw [show (fun _ : Nat => o ^ n) = Function.const Nat (o ^ n) from rfl, List.map_const, List.sum_replicate_nat, List.length_range, Nat.pow_succ, Nat.mul_comm]
theorem words_mem {o : Nat} (ho : o ≤ 5) : ∀ (rs : List Rule), (∀ r ∈ rs, r ∈ (limS o).Rules) → inL rs = List.replicate rs.length 97 ∧ outL rs ∈ words o rs.length ∧ 0 ≤ costL rs ∧ (costL rs = 0 → outL rs = List.replicate rs.length 97)
  | [], _ => ⟨rfl, List.mem_singleton.2 rfl, Int.le_refl _, fun _ => rfl⟩
  | r :: rs, h => by
    obtain ⟨h1, h2, h3, h4⟩ := words_mem ho rs fun x hx => h x (List.mem_cons_of_mem _ hx)
    obtain ⟨i, hi, rfl⟩ := limS_mem.1 (h r (List.mem_cons_self ..))
    have e1 : inL (limR i :: rs) = 97 :: inL rs := rfl
    have e2 : outL (limR i :: rs) = let5 i :: outL rs := by
      show bl (limR i).Out ++ outL rs = _
      rw [limR_out (by omega)]; rfl
    have e3 : costL (limR i :: rs) = (i : Int) + costL rs := by unfold costL; rw [List.map_cons, List.sum_cons]; rfl
    refine ⟨by rw [e1, h1]; rfl, ?_, by rw [e3]; omega, fun h0 => ?_⟩
    · rw [e2]
      show _ ∈ (List.range o).flatMap fun i => (words o rs.length).map (let5 i :: ·)
      exact List.mem_flatMap.2 ⟨i, List.mem_range.2 hi, List.mem_map.2 ⟨_, h2, rfl⟩⟩
    · rw [e3] at h0
      have : i = 0 := by omega
      subst this
      rw [e2, h4 (by omega)]; rfl
theorem words_of {o : Nat} (ho : o ≤ 5) : ∀ (n : Nat) (t : List UInt8), t ∈ words o n → ∃ rs, (∀ r ∈ rs, r ∈ (limS o).Rules) ∧ rs.length = n ∧ outL rs = t
  | 0, t, h => ⟨[], (fun r h => by cases h), rfl, (List.mem_singleton.1 h).symm⟩
  | n + 1, t, h => by
    obtain ⟨i, hi, h2⟩ := List.mem_flatMap.1 h
    obtain ⟨u, hu, rfl⟩ := List.mem_map.1 h2
    obtain ⟨rs, h3, h4, h5⟩ := words_of ho n u hu
    have hi := List.mem_range.1 hi
    refine ⟨limR i :: rs, fun x hx => ?_, by rw [List.length_cons, h4], ?_⟩
    · rcases List.mem_cons.1 hx with rfl | hx
      · exact limS_mem.2 ⟨i, hi, rfl⟩
      · exact h3 x hx
    · show bl (limR i).Out ++ outL rs = _
      rw [limR_out (by omega), h5]; rfl
theorem let5_inj {i j : Nat} (hi : i < 5) (hj : j < 5) (h : let5 i = let5 j) : i = j := by
  have : ∀ i < 5, ∀ j < 5, let5 i = let5 j → i = j := by decide +kernel
  exact this i hi j hj h
theorem words_nodup {o : Nat} (ho : o ≤ 5) : ∀ n, (words o n).Nodup
  | 0 => List.pairwise_singleton _ _
  | n + 1 => by
    refine List.pairwise_flatMap.2 ⟨fun i _ => List.pairwise_map.2 ((words_nodup ho n).imp fun {a b} h e => h (by injection e)), ?_⟩
    refine (List.Pairwise.and_mem.1 List.nodup_range).imp fun {a b} ⟨h1, h2, h3⟩ x hx y hy e => h3 ?_
    obtain ⟨u, _, rfl⟩ := List.mem_map.1 hx
    obtain ⟨v, _, rfl⟩ := List.mem_map.1 hy
    have := List.mem_range.1 h1
    have := List.mem_range.1 h2
    injection e with e1 _
    exact let5_inj (by omega) (by omega) e1
/-- Routes reach what lists of rules put out. -/
theorem rt_word {s : Sch} (hs : SchOk s) (h1 : s.Modes = 1) (hf : Fed s) {inp : ByteArray} (hin : inp.size ≤ 1000000) {rs : List Rule} (g1 : ∀ r ∈ rs, r ∈ s.Rules) (g2 : inL rs <+: bl inp) : ∃ k : KO, k.1.1 = 0 ∧ bl k.1.2 = outL rs ∧ Rt (xO s inp) (inL rs).length k (costL rs) := by
  have big : ∀ {p k c r}, Rt (xO s inp) p k c → r ∈ s.Rules → k.1.2.size + r.Out.size ≤ 9223372036854775807 := fun {p k c r} h hr => by
    have h2 := outSize hs hf h
    have h3 := (h.cost (takesO hs hf inp)).1
    have h4 := (hs.rule hr).2.2.2.2
    have h5 : p ≤ 1000000 := Nat.le_trans h3 hin
    omega
  have step : ∀ (rs : List Rule) p (k : KO) c r, Rt (xO s inp) p k c → (k.1.1 = 0 ∧ bl k.1.2 = outL rs) → r ∈ s.Rules → ((nvO k r).1.1 = 0 ∧ bl (nvO k r).1.2 = outL (rs ++ [r])) := fun rs p k c r h h2 hr => by
    rw [nvO_of (big h hr)]
    refine ⟨zeroF (one_rule hs h1 hr).2, ?_⟩
    show bl (k.1.2 ++ r.Out) = _
    rw [outL_snoc, ← h2.2]
    unfold bl
    rw [ByteArray.data_append, Array.toList_append]
  obtain ⟨k, h2, h3⟩ := rt_of (X := xO s inp) (fun rs (k : KO) => k.1.1 = 0 ∧ bl k.1.2 = outL rs) (fun _ => True) ⟨rfl, rfl⟩ (fun _ _ _ => trivial) (fun rs p k c r h h2 hr _ => ⟨by
      show ftO k r = true
      unfold ftO
      rw [h2.1, (one_rule hs h1 hr).1]; rfl, step rs p k c r h h2 hr⟩) rs.reverse (fun r hr => g1 r (by simpa using hr)) (by rw [List.reverse_reverse]; exact g2) trivial
  rw [List.reverse_reverse] at h2 h3
  exact ⟨k, h2.1, h2.2, h3⟩
theorem lim_len {o n i : Nat} (ho : 2 ≤ o ∧ o ≤ 5) (hn : n ≤ 14) (hi : i ≤ n) {ms : Nat → List (KO × Int)} {q : Nat} (hq : i ≤ q) (hW : WI (xO (limS o) (aS n)) ms q) (hnd : ((ms i).map Prod.fst).Nodup) : (ms i).length = o ^ i := by
  have hs := limS_ok ho
  have hf := limS_fed o
  have hin : (aS n).size ≤ 1000000 := by rw [aS_size]; omega
  apply Nat.le_antisymm
  · have h := keys_len hs rfl hf hin hW hnd (W := words o i) fun rs g1 g2 g3 => by
      obtain ⟨k1, k2, _⟩ := words_mem ho.2 rs g1
      rw [k1, List.length_replicate] at g3
      rw [← g3]; exact k2
    rw [words_len] at h
    exact h
  · rw [← words_len o i, ← List.length_map (f := fun q : KO × Int => bl q.1.1.2)]
    refine nodup_sub (words_nodup ho.2 i) fun t ht => ?_
    obtain ⟨rs, g1, g2, g3⟩ := words_of ho.2 i t ht
    have e := (words_mem ho.2 rs g1).1
    have e2 : (inL rs).length = i := by rw [e, List.length_replicate, g2]
    obtain ⟨k, k1, k2, k3⟩ := rt_word hs rfl hf hin g1 (by
      rw [e, aS_bl, g2]
      refine ⟨List.replicate (n - i) 97, ?_⟩
      rw [List.replicate_append_replicate]; congr 1; omega)
    rw [e2] at k3
    obtain ⟨c', _, h5⟩ := hW.complete (takesO hs hf _) k3 hq
    exact List.mem_map.2 ⟨(k, c'), aget_mem h5, by show bl k.1.2 = t; rw [k2, g3]⟩
theorem cost_zero : ∀ n, costL (List.replicate n (limR 0)) = 0
  | 0 => rfl
  | n + 1 => by
    have := cost_zero n
    have e : costL (List.replicate (n + 1) (limR 0)) = 0 + costL (List.replicate n (limR 0)) := by unfold costL; rw [List.replicate_succ, List.map_cons, List.sum_cons]; rfl
    rw [e, this]; rfl
theorem lim_best {o n : Nat} (ho : 2 ≤ o ∧ o ≤ 5) (hn : n ≤ 14) {e : Int} {l : List Rsl} (hb : BestR (limS o) (aS n) 1 e l) : if 2000 < o ^ n then e = 2 ∧ l = [] else e = 0 ∧ l = [⟨aS n, 0⟩] := by
  have hs := limS_ok ho
  have hf := limS_fed o
  have hin : (aS n).size ≤ 1000000 := by rw [aS_size]; omega
  have hg : sndB (limS o) (aS n) = true := sndB_iff.2 ⟨hs, (one_snd hs rfl).2 hf, aS_letters (by omega)⟩
  rcases hb with ⟨_, _, h⟩ | ⟨_, ⟨h1, h2, i, ms, hi, hW, hnd, hbig⟩ | ⟨ms, hW, hnd, F, hp, hm, hF⟩⟩
  · exact absurd ⟨hg, by decide, by decide⟩ h
  · rw [aS_size] at hi
    rw [lim_len ho hn hi (Nat.le_refl _) hW hnd] at hbig
    have : o ^ i ≤ o ^ n := Nat.pow_le_pow_right (by omega) hi
    rw [if_pos (by omega)]
    exact ⟨h1, h2⟩
  · have h0 := hnd n (by rw [aS_size]; exact Nat.le_refl _)
    rw [aS_size] at hW
    have h1 := h0.2
    rw [lim_len ho hn (Nat.le_refl _) (Nat.le_succ _) hW h0.1] at h1
    rw [if_neg (by omega)]
    have hx : (⟨aS n, 0⟩ : Rsl) ∈ F := by
      refine (hm _).2 ⟨(whole_iff hs rfl hf hin).2 ⟨List.replicate n (limR 0), ⟨fun r hr => limS_mem.2 ⟨0, by omega, (List.mem_replicate.1 hr).2⟩, ?_⟩, ?_, ?_⟩, fun c hc => ?_⟩
      · have h := (words_mem ho.2 (List.replicate n (limR 0)) (fun r hr => limS_mem.2 ⟨0, by omega, (List.mem_replicate.1 hr).2⟩)).1
        rw [h, List.length_replicate, aS_bl]
      · have h := (words_mem ho.2 (List.replicate n (limR 0)) (fun r hr => limS_mem.2 ⟨0, by omega, (List.mem_replicate.1 hr).2⟩)).2.2.2 (by
          exact cost_zero n)
        rw [h, List.length_replicate, aS_bl]
      · exact cost_zero n
      · obtain ⟨rs, ⟨g1, _⟩, _, rfl⟩ := (whole_iff hs rfl hf hin).1 hc
        exact (words_mem ho.2 rs g1).2.2.1
    rcases hF with ⟨h2, _, _⟩ | ⟨_, h3, h4⟩
    · rw [h2] at hx; cases hx
    · refine ⟨h3, ?_⟩
      cases F with
      | nil => cases hx
      | cons y F =>
        rw [h4]
        show [y] = _
        congr 1
        rcases List.mem_cons.1 hx with e | e
        · exact e.symm
        · have h5 := (List.pairwise_cons.1 hp).1 _ e
          obtain ⟨rs, ⟨g1, g2⟩, g3, g4⟩ := (whole_iff hs rfl hf hin).1 ((hm y).1 (List.mem_cons_self ..)).1
          obtain ⟨k1, k2, k3, k4⟩ := words_mem ho.2 rs g1
          have hc : y.Cost = 0 := by
            rcases h5 with h5 | h5
            · simp only at h5; omega
            · exact h5.1
          have h6 := k4 (by omega)
          have h7 : rs.length = n := by
            have := congrArg List.length (k1.symm.trans g2)
            rw [List.length_replicate, aS_bl, List.length_replicate] at this
            exact this
          have : y.Text = aS n := bl_inj (by rw [← g3, h6, h7, aS_bl])
          cases y
          simp only at this hc
          subst this hc
          rfl
end Go.Proofs.Ytgbdfgifgngijaa

/-
  Output: the walk of OutputLimits.
-/
namespace Go.Proofs.Ytgbdfgifgngijaa
open Go.RowKit Sy Go.Maps

theorem remK {a k : Nat} {z : Int} (h : z = (k : Int)) : (a : Int).tmod z = ((a % k : Nat) : Int) := by rw [h]; rfl
theorem own_cells1 {w0 w : World} {μ : Mem} {L : List Own} {e0 : Own} {ad : Option Addr} {l c k : Nat} {E : TypeId} {us vs : List Value} (hS : St w0 w μ (e0 :: Own.sl ad l c E k us :: L)) (e : us = vs) : St w0 w μ (e0 :: Own.sl ad l c E k vs :: L) := e ▸ hS
theorem mulP {o j : Nat} (ho : o ≤ 5) (h : o ^ j ≤ 2000) : IntKind.i64.wrap (((o ^ j : Nat) : Int) * (o : Int)) = ((o ^ (j + 1) : Nat) : Int) := by
  rw [Nat.pow_succ, Int.natCast_mul]
  have h2 := Nat.mul_le_mul h ho
  rw [← Int.natCast_mul]
  exact Sy.w64 (by omega) (by omega)
theorem lim_snoc (i : Nat) : ((List.range i).map limR).flatMap ruleL ++ ruleL (limR i) = ((List.range (i + 1)).map limR).flatMap ruleL := by
  rw [List.range_succ, List.map_append, List.flatMap_append]; rfl
theorem bestL_c (i j : Nat) (ho : 2 ≤ i ∧ i ≤ 5) (hj : j ≤ 14) (a0 : Option Addr) (c0 : Nat) (μ : Mem) (w : World) (hμ : Imm μ w) (h0 : Sl μ a0 c0 (limS i).Rules) :
    Calls Try.prog 13 #[.agg #[.int .i64 1, .int .u8 1, .slice a0 i c0], .string (aS j), .int .i64 1] w (RetV w μ (IsBest (limS i) (aS j) 1)) := by
  have h := best_c (limS i) (limS_ok ho).small (aS j) (by rw [aS_size]; omega) 1 (by omega) (fun _ => limS_fed i) a0 c0 μ w hμ h0
  rw [show (limS i).Rules.length = i by unfold limS; simp] at h
  exact h
theorem pow_small {o i n : Nat} (ho : o ≤ 5) (h : o ^ i ≤ 2000) (hi : n = i ∨ n = i + 1) : o ^ n ≤ 10000 := by
  rcases hi with rfl | rfl
  · omega
  · rw [Nat.pow_succ]
    have := Nat.mul_le_mul h ho
    omega
set_option maxRecDepth 100000 in
set_option maxHeartbeats 2000000 in
theorem law_limits (m n : UInt8) (w : World) : Calls Try.prog 7 #[.int .u8 m.toNat, .int .u8 n.toNat] w (RetS w (.bool true)) := by
  have hm := m.toNat_lt
  have hn := n.toNat_lt
  obtain ⟨o, ho⟩ : ∃ o, o = 2 + m.toNat % 4 := ⟨_, rfl⟩
  obtain ⟨N, hN⟩ : ∃ N, N = n.toNat % 15 := ⟨_, rfl⟩
  have ho5 : 2 ≤ o ∧ o ≤ 5 := by omega
  have hN14 : N ≤ 14 := by omega
  have hS := St.start w (fun _ => none) (fun _ _ h => by cases h)
  refine calls_start 82 [.int .u8 m.toNat, .int .u8 n.toNat] Try.func7 rfl Try.ntmps7 rfl rfl ?_
  refine CW.seq fun K1 hK1 => ?_
  refine CW.region [0] rfl ?_
  refine LW.ex rfl rfl rfl rfl (Ex.assign rfl) hS.rd ?_
  refine LW.nil fun aa ha => hK1 _ _ _ ?_ aa ha
  refine CW.seq fun K2 hK2 => ?_
  refine CW.region [0, 1] rfl ?_
  refine LW.hv rfl rfl rfl rfl (Hv.callS hS rfl rfl rfl cb8 (sanity_c _)) fun v w14 ⟨hv, hS⟩ => ?_
  subst hv
  refine LW.ex rfl rfl rfl rfl (Ex.assign rfl) hS.rd ?_
  refine LW.nil fun aa ha => hK2 _ _ _ ?_ aa ha
  refine CW.seq fun K3 hK3 => ?_
  refine CW.region [0, 1, 2, 3, 4, 5, 6] rfl ?_
  refine LW.ex rfl rfl rfl rfl (Ex.move rfl) hS.rd ?_
  refine LW.ex rfl rfl rfl rfl (Ex.rem (r := ((m.toNat % 4 : Nat) : Int)) rfl rfl (by omega) (remK (k := 4) rfl)) hS.rd ?_
  refine LW.ex rfl rfl rfl rfl (Ex.conv Try.underlying5 Try.underlying3 rfl (Sy.w64 (by omega) (by omega))) hS.rd ?_
  refine LW.ex rfl rfl rfl rfl (Ex.add (r := (o : Int)) rfl rfl (by rw [Sy.w64 (by omega) (by omega)]; omega)) hS.rd ?_
  refine LW.ex rfl rfl rfl rfl (Ex.assign rfl) hS.rd ?_
  refine LW.ex rfl rfl rfl rfl (Ex.assign rfl) hS.rd ?_
  refine LW.ex rfl rfl rfl rfl (Ex.assign rfl) hS.rd ?_
  refine LW.nil fun aa ha => hK3 _ _ _ ?_ aa ha
  refine CW.seq fun K4 hK4 => ?_
  refine CW.region [0, 1, 2] rfl ?_
  refine LW.ex rfl rfl rfl rfl (Ex.buildS st29 rfl rfl rfl) hS.rd ?_
  refine LW.hv rfl rfl rfl rfl (Hv.alloc ti29 hS) fun v w9 ⟨b9, hv, hb9, hS⟩ => ?_
  subst hv
  refine LW.hu rfl rfl rfl (Hv.storeN (k := 0) ti29 hS rfl rfl rfl rfl (by simp [Value.oneCell'])) fun _ w_2 hS => ?_
  dsimp only [List.set] at hS
  refine LW.nil fun aa ha => hK4 _ _ _ ?_ aa ha
  refine CW.seq fun K5 hK5 => ?_
  refine CW.seq fun K6 hK6 => ?_
  refine CW.region [0] rfl ?_
  refine LW.ex rfl rfl rfl rfl (Ex.assign rfl) hS.rd ?_
  refine LW.nil fun aa ha => hK6 _ _ _ ?_ aa ha
  refine CW.block ?_
  have hS := nil_sl 58 5 hS
  have hS := hS.swap
  refine CW.loop (fun qq frm wl5 => ∃ (i : Nat) (ad : Option Addr) (c : Nat), i ≤ o ∧ qq = o - i ∧ frm = [(1, .int .u8 n.toNat), (5, .bool true), (6, .int .i64 o), (7, .string ⟨#[]⟩), (8, .int .i64 1), (9, .pointer (some ⟨b9, 0, none⟩)), (10, .int .i64 i)] ∧ St w wl5 (fun _ => none) [Own.obj b9 [.int .i64 1, .int .u8 1, .slice ad i c] 29, Own.sl ad i c 58 5 (((List.range i).map limR).flatMap ruleL)]) _ ⟨0, none, 0, (by first | omega | (simp; done) | (simp; omega)), rfl, rfl, hS⟩ ⟨rfl, rfl, rfl, rfl, rfl, rfl, rfl, trivial⟩ ?_
  clear hS
  rintro qq frm wl5 ⟨i, ad, c, hi, hq, rfl, hS⟩
  refine CW.seq fun K7 hK7 => ?_
  refine CW.seq fun K8 hK8 => ?_
  refine CW.region [0, 1, 2] rfl ?_
  refine LW.ex rfl rfl rfl rfl (Ex.move rfl) hS.rd ?_
  refine LW.ex rfl rfl rfl rfl (Ex.move rfl) hS.rd ?_
  refine LW.ex rfl rfl rfl rfl (Ex.lss rfl rfl rfl) hS.rd ?_
  refine LW.splitB (fun h5_2 => ?_) (fun h5_2 => ?_)
  · have h5_2 := of_decide_eq_true h5_2
    refine LW.nil fun aa ha => hK8 _ _ _ ?_ aa ha
    refine CW.yes rfl ?_
    refine CW.skip fun aa ha => hK7 _ _ _ ?_ aa ha
    refine CW.seq fun K9 hK9 => ?_
    refine CW.block ?_
    have hS := hS.drew
    refine CW.draw 9 (.ex 0 <| .ex 1 <| .ex 2 <| .ex 3 <| .ex 4 <| .ex 5 <| .ex 6 <| .ex 7 <| .one 8 <| .done) [9, 10, 11] (Rd _ _) mixed (by kernel_rfl) rfl rfl hS.rd ?_
    refine PW.ex rfl rfl rfl rfl (Ex.fieldO 2 Try.underlying29 rfl rfl ti27 rfl) ?_
    refine PW.ex rfl rfl rfl rfl (Ex.load1 ti27 rfl rfl (by first | exact obT rfl | exact Rd.imm ‹_› | exact slT ‹_›)) ?_
    refine PW.ex rfl rfl rfl rfl (Ex.move rfl) ?_
    refine PW.ex rfl rfl rfl rfl (Ex.move rfl) ?_
    refine PW.ex rfl rfl rfl rfl (Ex.add rfl rfl (by first | exact inc64 (by omega) | exact addN (by omega) | exact w64 (by omega) (by omega))) ?_
    refine PW.ex rfl rfl rfl rfl (Ex.sliceStr (i := i) (j := i + 1) Try.underlying9 rfl rfl rfl rfl (by omega) (by omega) (by show i + 1 ≤ 5; omega)) ?_
    refine PW.ex rfl rfl rfl rfl (Ex.move rfl) ?_
    refine PW.ex rfl rfl rfl rfl (Ex.buildS st58 rfl rfl rfl) ?_
    refine PW.hv rfl rfl rfl rfl (Hv.buildSl hS Try.underlying27 ti58 rfl rfl rfl rfl rfl rfl) (fun _ _ ⟨_, _, _, h⟩ => h.rd.tail) fun v w33 ⟨b33, hv, hb33, hS⟩ => ?_
    subst hv
    refine PW.nil ?_
    refine LW.hv rfl rfl rfl rfl (Hv.append (k := 2) rfl Try.underlying27 ti58 rfl hS rfl rfl rfl rfl (Rd.objAll (k := 0) rfl hS.rd) (by simp [Value.oneCell']) (by unfold maxLen; omega) (by omega)) fun v w34 ⟨ad34, c34, hv, hS⟩ => ?_
    subst hv
    dsimp only [List.set] at hS
    have hS := hS.drop 0 rfl
    dsimp only [List.eraseIdx] at hS
    have hS := own_cells1 hS (lim_snoc i)
    refine LW.ex rfl rfl rfl rfl (Ex.fieldO 2 Try.underlying29 rfl rfl ti27 rfl) hS.rd ?_
    refine LW.hu rfl rfl rfl (Hv.storeObj (k := 0) ti27 hS rfl rfl rfl rfl (by first | assumption | (simp; done) | omega | exact Nat.zero_lt_succ _)) fun _ w_11 hS => ?_
    dsimp only [List.set] at hS
    refine LW.nil fun aa ha => hK9 _ _ _ ?_ aa ha
    refine CW.region [0, 1, 2] rfl ?_
    refine LW.ex rfl rfl rfl rfl (Ex.move rfl) hS.rd ?_
    refine LW.ex rfl rfl rfl rfl (Ex.add rfl rfl (by first | exact inc64 (by omega) | exact addN (by omega) | exact w64 (by omega) (by omega))) hS.rd ?_
    refine LW.ex rfl rfl rfl rfl (Ex.assign rfl) hS.rd ?_
    refine LW.nil fun aa ha => ?_
    refine ⟨_, _, ?m5, ⟨i + 1, ad34, c34, (by first | omega | (simp; done) | (simp; omega)), rfl, rfl, hS⟩, ha.sub ⟨rfl, rfl, rfl, rfl, rfl, rfl, rfl, trivial⟩⟩
    case m5 => omega
  · have h5_2 := of_decide_eq_false h5_2
    refine LW.nil fun aa ha => hK8 _ _ _ ?_ aa ha
    refine CW.no rfl ?_
    refine CW.exit fun aa ha => hK5 _ _ _ ?_ aa ha
    refine CW.seq fun K10 hK10 => ?_
    refine CW.seq fun K11 hK11 => ?_
    have hio : i = o := by omega
    subst hio
    obtain ⟨bs1, μ2, hm2, hS, hφ⟩ := hS.shut 1 rfl
    dsimp only [List.eraseIdx] at hS
    have hR : Sl μ2 ad c (limS i).Rules := Sl.of_own hφ (ruleReps _ _) (by unfold limS; simp)
    refine CW.region [0] rfl ?_
    refine LW.ex rfl rfl rfl rfl (Ex.assign rfl) hS.rd ?_
    refine LW.nil fun aa ha => hK11 _ _ _ ?_ aa ha
    refine CW.block ?_
    refine CW.loop (fun qq frm wl9 => ∃ (j : Nat), j ≤ N ∧ qq = N - j ∧ frm = [(1, .int .u8 n.toNat), (5, .bool true), (6, .int .i64 i), (7, .string (aS j)), (8, .int .i64 (i ^ j : Nat)), (9, .pointer (some ⟨b9, 0, none⟩)), (11, .int .i64 j)] ∧ St w wl9 μ2 [Own.obj b9 [.int .i64 1, .int .u8 1, .slice ad i c] 29] ∧ (i ^ j ≤ 10000)) _ ⟨0, (by first | omega | (simp; done) | (simp; omega)), rfl, rfl, hS, by simp⟩ ⟨rfl, rfl, rfl, rfl, rfl, rfl, rfl, trivial⟩ ?_
    clear hS
    rintro qq frm wl9 ⟨j, hj, hq, rfl, hS, hpw⟩
    refine CW.seq fun K12 hK12 => ?_
    refine CW.seq fun K13 hK13 => ?_
    refine CW.region [0, 1, 2, 3, 4, 5, 6, 7, 8] rfl ?_
    refine LW.ex rfl rfl rfl rfl (Ex.move rfl) hS.rd ?_
    refine LW.ex rfl rfl rfl rfl (Ex.move rfl) hS.rd ?_
    refine LW.ex rfl rfl rfl rfl (Ex.rem (r := (N : Int)) rfl rfl (by omega) (by rw [hN]; exact remK (k := 15) rfl)) hS.rd ?_
    refine LW.ex rfl rfl rfl rfl (Ex.conv Try.underlying5 Try.underlying3 rfl (Sy.w64 (by omega) (by omega))) hS.rd ?_
    refine LW.ex rfl rfl rfl rfl (Ex.lss rfl rfl rfl) hS.rd ?_
    refine LW.splitB (fun h9_4 => ?_) (fun h9_4 => ?_)
    · have h9_4 := of_decide_eq_true h9_4
      refine LW.ex rfl rfl rfl rfl (Ex.move rfl) hS.rd ?_
      refine LW.ex rfl rfl rfl rfl (Ex.move rfl) hS.rd ?_
      refine LW.ex rfl rfl rfl rfl (Ex.leq rfl rfl rfl) hS.rd ?_
      refine LW.splitB (fun h9_7 => ?_) (fun h9_7 => ?_)
      · have h9_7 := of_decide_eq_true h9_7
        refine LW.ex rfl rfl rfl rfl (by first | exact Ex.pick_yes rfl rfl | exact Ex.pick_no rfl rfl) hS.rd ?_
        refine LW.nil fun aa ha => hK13 _ _ _ ?_ aa ha
        refine CW.yes rfl ?_
        refine CW.skip fun aa ha => hK12 _ _ _ ?_ aa ha
        refine CW.seq fun K14 hK14 => ?_
        refine CW.block ?_
        refine CW.seq fun K15 hK15 => ?_
        refine CW.region [0, 1, 2] rfl ?_
        refine LW.ex rfl rfl rfl rfl (Ex.move rfl) hS.rd ?_
        refine LW.ex rfl rfl rfl rfl (exEq (u := .string (aS (j + 1))) (Ex.addS rfl rfl (by rw [aS_size]; show j + 1 ≤ _; omega)) (by rw [← aS_succ]; rfl)) hS.rd ?_
        refine LW.ex rfl rfl rfl rfl (Ex.assign rfl) hS.rd ?_
        refine LW.nil fun aa ha => hK15 _ _ _ ?_ aa ha
        refine CW.region [0, 1, 2, 3] rfl ?_
        refine LW.ex rfl rfl rfl rfl (Ex.move rfl) hS.rd ?_
        refine LW.ex rfl rfl rfl rfl (Ex.move rfl) hS.rd ?_
        refine LW.ex rfl rfl rfl rfl (Ex.mul rfl rfl (mulP ho5.2 (by omega))) hS.rd ?_
        refine LW.ex rfl rfl rfl rfl (Ex.assign rfl) hS.rd ?_
        refine LW.nil fun aa ha => hK14 _ _ _ ?_ aa ha
        refine CW.region [0, 1, 2] rfl ?_
        refine LW.ex rfl rfl rfl rfl (Ex.move rfl) hS.rd ?_
        refine LW.ex rfl rfl rfl rfl (Ex.add rfl rfl (by first | exact inc64 (by omega) | exact addN (by omega) | exact w64 (by omega) (by omega))) hS.rd ?_
        refine LW.ex rfl rfl rfl rfl (Ex.assign rfl) hS.rd ?_
        refine LW.nil fun aa ha => ?_
        refine ⟨_, _, ?m9, ⟨j + 1, (by first | omega | (simp; done) | (simp; omega)), rfl, rfl, hS, pow_small ho5.2 (i := j) (by omega) (.inr rfl)⟩, ha.sub ⟨rfl, rfl, rfl, rfl, rfl, rfl, rfl, trivial⟩⟩
        case m9 => omega
      · have h9_7 := of_decide_eq_false h9_7
        refine LW.ex rfl rfl rfl rfl (by first | exact Ex.pick_yes rfl rfl | exact Ex.pick_no rfl rfl) hS.rd ?_
        refine LW.nil fun aa ha => hK13 _ _ _ ?_ aa ha
        refine CW.no rfl ?_
        refine CW.exit fun aa ha => hK10 _ _ _ ?_ aa ha
        refine CW.seq fun K16 hK16 => ?_
        refine CW.region [0, 1, 2, 3, 4, 5, 6, 7] rfl ?_
        refine LW.ex rfl rfl rfl rfl (Ex.load3c ti29 rfl rfl (by first | exact obT rfl | exact Rd.imm ‹_› | exact slT ‹_›) (by first | exact obT rfl | exact Rd.imm ‹_› | exact slT ‹_›) (by first | exact obT rfl | exact Rd.imm ‹_› | exact slT ‹_›)) hS.rd ?_
        refine LW.ex rfl rfl rfl rfl (Ex.move rfl) hS.rd ?_
        refine LW.hv rfl rfl rfl rfl (Hv.callV hS rfl rfl rfl cb13 (bestL_c i j ho5 (by omega) _ _ μ2 _ hS.imm hR)) fun v w55 ⟨μ55, hv55, hm55, hS⟩ => ?_
        obtain ⟨l, e, ad55, c55, hv, hs55, hb⟩ := hv55
        subst hv
        have hb2 := lim_best ho5 (by omega) hb
        refine LW.ex rfl rfl rfl rfl (Ex.move rfl) hS.rd ?_
        refine LW.ex rfl rfl rfl rfl (Ex.extract rfl rfl) hS.rd ?_
        refine LW.ex rfl rfl rfl rfl (Ex.extract rfl rfl) hS.rd ?_
        refine LW.ex rfl rfl rfl rfl (Ex.assign rfl) hS.rd ?_
        refine LW.ex rfl rfl rfl rfl (Ex.assign rfl) hS.rd ?_
        refine LW.nil fun aa ha => hK16 _ _ _ ?_ aa ha
        refine CW.seq fun K17 hK17 => ?_
        refine CW.seq fun K18 hK18 => ?_
        refine CW.region [0, 1] rfl ?_
        refine LW.ex rfl rfl rfl rfl (Ex.move rfl) hS.rd ?_
        refine LW.ex rfl rfl rfl rfl (Ex.gtr rfl rfl rfl) hS.rd ?_
        refine LW.splitB (fun h14_1 => ?_) (fun h14_1 => ?_)
        · have h14_1 := of_decide_eq_true h14_1
          rw [if_pos (by omega)] at hb2
          obtain ⟨rfl, rfl⟩ := hb2
          refine LW.nil fun aa ha => hK18 _ _ _ ?_ aa ha
          refine CW.yes rfl ?_
          refine CW.seq fun K19 hK19 => ?_
          refine CW.region [0, 1, 2, 3, 4, 5, 6, 7, 8, 9, 10] rfl ?_
          refine LW.ex rfl rfl rfl rfl (Ex.move rfl) hS.rd ?_
          refine LW.ex rfl rfl rfl rfl (Ex.eql rfl rfl rfl) hS.rd ?_
          refine LW.splitB (fun h15_1 => ?_) (fun h15_1 => ?_)
          · have h15_1 := of_decide_eq_true h15_1
            refine LW.ex rfl rfl rfl rfl (Ex.move rfl) hS.rd ?_
            refine LW.ex rfl rfl rfl rfl (Ex.move rfl) hS.rd ?_
            refine LW.ex rfl rfl rfl rfl (Ex.lenSl rfl Try.underlying37 rfl) hS.rd ?_
            refine LW.ex rfl rfl rfl rfl (Ex.eql rfl rfl rfl) hS.rd ?_
            refine LW.splitB (fun h15_5 => ?_) (fun h15_5 => ?_)
            · have h15_5 := of_decide_eq_true h15_5
              refine LW.ex rfl rfl rfl rfl (by first | exact Ex.pick_yes rfl rfl | exact Ex.pick_no rfl rfl) hS.rd ?_
              refine LW.ex rfl rfl rfl rfl (Ex.move rfl) hS.rd ?_
              refine LW.ex rfl rfl rfl rfl (Ex.move rfl) hS.rd ?_
              refine LW.ex rfl rfl rfl rfl (by first | exact Ex.pick_yes rfl rfl | exact Ex.pick_no rfl rfl) hS.rd ?_
              refine LW.ex rfl rfl rfl rfl (Ex.assign rfl) hS.rd ?_
              refine LW.nil fun aa ha => hK19 _ _ _ ?_ aa ha
              refine CW.ret fun aa ha => ?_
              refine ret_one ha Try.results7 rfl ?_
              exact hS.retS
            · have h15_5 := of_decide_eq_false h15_5
              exact absurd rfl h15_5
          · have h15_1 := of_decide_eq_false h15_1
            exact absurd rfl h15_1
        · have h14_1 := of_decide_eq_false h14_1
          rw [if_neg (by omega)] at hb2
          obtain ⟨rfl, rfl⟩ := hb2
          refine LW.nil fun aa ha => hK18 _ _ _ ?_ aa ha
          refine CW.no rfl ?_
          refine CW.skip fun aa ha => hK17 _ _ _ ?_ aa ha
          refine CW.seq fun K20 hK20 => ?_
          refine CW.region [0, 1, 2, 3, 4, 5, 6, 7, 8, 9, 10, 11, 12] rfl ?_
          refine LW.ex rfl rfl rfl rfl (Ex.move rfl) hS.rd ?_
          refine LW.ex rfl rfl rfl rfl (Ex.eql rfl rfl rfl) hS.rd ?_
          refine LW.splitB (fun h16_1 => ?_) (fun h16_1 => ?_)
          · have h16_1 := of_decide_eq_true h16_1
            refine LW.ex rfl rfl rfl rfl (Ex.move rfl) hS.rd ?_
            refine LW.ex rfl rfl rfl rfl (Ex.move rfl) hS.rd ?_
            refine LW.ex rfl rfl rfl rfl (Ex.move rfl) hS.rd ?_
            refine LW.ex rfl rfl rfl rfl (Ex.buildS st47 rfl rfl rfl) hS.rd ?_
            refine LW.hv rfl rfl rfl rfl (Hv.buildSl hS Try.underlying37 ti47 rfl rfl rfl rfl rfl rfl) fun v w76 ⟨b76, hv, hb76, hS⟩ => ?_
            subst hv
            refine LW.hv rfl rfl rfl rfl (Hv.callS hS rfl rfl rfl cb17 (same_c [⟨aS j, 0⟩] [⟨aS j, 0⟩] _ _ _ _ (memOf _) _ (imm_memOf _) (hs55.mono hS.imm.ext) (hS.lend_obj (k := 0) rfl (rslReps _ [⟨aS j, 0⟩]) (by simp [maxLen])))) fun v w77 ⟨hv, hS⟩ => ?_
            subst hv
            refine LW.splitB (fun h16_7 => ?_) (fun h16_7 => ?_)
            · skip
              refine LW.ex rfl rfl rfl rfl (by first | exact Ex.pick_yes rfl rfl | exact Ex.pick_no rfl rfl) hS.rd ?_
              refine LW.ex rfl rfl rfl rfl (Ex.move rfl) hS.rd ?_
              refine LW.ex rfl rfl rfl rfl (Ex.move rfl) hS.rd ?_
              refine LW.ex rfl rfl rfl rfl (by first | exact Ex.pick_yes rfl rfl | exact Ex.pick_no rfl rfl) hS.rd ?_
              refine LW.ex rfl rfl rfl rfl (Ex.assign rfl) hS.rd ?_
              refine LW.nil fun aa ha => hK20 _ _ _ ?_ aa ha
              refine CW.ret fun aa ha => ?_
              refine ret_one ha Try.results7 rfl ?_
              exact hS.retS
            · simp at h16_7
          · have h16_1 := of_decide_eq_false h16_1
            exact absurd rfl h16_1
    · have h9_4 := of_decide_eq_false h9_4
      refine LW.ex rfl rfl rfl rfl (Ex.move rfl) hS.rd ?_
      refine LW.skip rfl rfl rfl rfl ?_
      refine LW.skip rfl rfl rfl rfl ?_
      refine LW.ex rfl rfl rfl rfl (by first | exact Ex.pick_yes rfl rfl | exact Ex.pick_no rfl rfl) hS.rd ?_
      refine LW.nil fun aa ha => hK13 _ _ _ ?_ aa ha
      refine CW.no rfl ?_
      refine CW.exit fun aa ha => hK10 _ _ _ ?_ aa ha
      refine CW.seq fun K21 hK21 => ?_
      refine CW.region [0, 1, 2, 3, 4, 5, 6, 7] rfl ?_
      refine LW.ex rfl rfl rfl rfl (Ex.load3c ti29 rfl rfl (by first | exact obT rfl | exact Rd.imm ‹_› | exact slT ‹_›) (by first | exact obT rfl | exact Rd.imm ‹_› | exact slT ‹_›) (by first | exact obT rfl | exact Rd.imm ‹_› | exact slT ‹_›)) hS.rd ?_
      refine LW.ex rfl rfl rfl rfl (Ex.move rfl) hS.rd ?_
      refine LW.hv rfl rfl rfl rfl (Hv.callV hS rfl rfl rfl cb13 (bestL_c i j ho5 (by omega) _ _ μ2 _ hS.imm hR)) fun v w55 ⟨μ55, hv55, hm55, hS⟩ => ?_
      obtain ⟨l, e, ad55, c55, hv, hs55, hb⟩ := hv55
      subst hv
      have hb2 := lim_best ho5 (by omega) hb
      refine LW.ex rfl rfl rfl rfl (Ex.move rfl) hS.rd ?_
      refine LW.ex rfl rfl rfl rfl (Ex.extract rfl rfl) hS.rd ?_
      refine LW.ex rfl rfl rfl rfl (Ex.extract rfl rfl) hS.rd ?_
      refine LW.ex rfl rfl rfl rfl (Ex.assign rfl) hS.rd ?_
      refine LW.ex rfl rfl rfl rfl (Ex.assign rfl) hS.rd ?_
      refine LW.nil fun aa ha => hK21 _ _ _ ?_ aa ha
      refine CW.seq fun K22 hK22 => ?_
      refine CW.seq fun K23 hK23 => ?_
      refine CW.region [0, 1] rfl ?_
      refine LW.ex rfl rfl rfl rfl (Ex.move rfl) hS.rd ?_
      refine LW.ex rfl rfl rfl rfl (Ex.gtr rfl rfl rfl) hS.rd ?_
      refine LW.splitB (fun h14_1 => ?_) (fun h14_1 => ?_)
      · have h14_1 := of_decide_eq_true h14_1
        rw [if_pos (by omega)] at hb2
        obtain ⟨rfl, rfl⟩ := hb2
        refine LW.nil fun aa ha => hK23 _ _ _ ?_ aa ha
        refine CW.yes rfl ?_
        refine CW.seq fun K24 hK24 => ?_
        refine CW.region [0, 1, 2, 3, 4, 5, 6, 7, 8, 9, 10] rfl ?_
        refine LW.ex rfl rfl rfl rfl (Ex.move rfl) hS.rd ?_
        refine LW.ex rfl rfl rfl rfl (Ex.eql rfl rfl rfl) hS.rd ?_
        refine LW.splitB (fun h15_1 => ?_) (fun h15_1 => ?_)
        · have h15_1 := of_decide_eq_true h15_1
          refine LW.ex rfl rfl rfl rfl (Ex.move rfl) hS.rd ?_
          refine LW.ex rfl rfl rfl rfl (Ex.move rfl) hS.rd ?_
          refine LW.ex rfl rfl rfl rfl (Ex.lenSl rfl Try.underlying37 rfl) hS.rd ?_
          refine LW.ex rfl rfl rfl rfl (Ex.eql rfl rfl rfl) hS.rd ?_
          refine LW.splitB (fun h15_5 => ?_) (fun h15_5 => ?_)
          · have h15_5 := of_decide_eq_true h15_5
            refine LW.ex rfl rfl rfl rfl (by first | exact Ex.pick_yes rfl rfl | exact Ex.pick_no rfl rfl) hS.rd ?_
            refine LW.ex rfl rfl rfl rfl (Ex.move rfl) hS.rd ?_
            refine LW.ex rfl rfl rfl rfl (Ex.move rfl) hS.rd ?_
            refine LW.ex rfl rfl rfl rfl (by first | exact Ex.pick_yes rfl rfl | exact Ex.pick_no rfl rfl) hS.rd ?_
            refine LW.ex rfl rfl rfl rfl (Ex.assign rfl) hS.rd ?_
            refine LW.nil fun aa ha => hK24 _ _ _ ?_ aa ha
            refine CW.ret fun aa ha => ?_
            refine ret_one ha Try.results7 rfl ?_
            exact hS.retS
          · have h15_5 := of_decide_eq_false h15_5
            exact absurd rfl h15_5
        · have h15_1 := of_decide_eq_false h15_1
          exact absurd rfl h15_1
      · have h14_1 := of_decide_eq_false h14_1
        rw [if_neg (by omega)] at hb2
        obtain ⟨rfl, rfl⟩ := hb2
        refine LW.nil fun aa ha => hK23 _ _ _ ?_ aa ha
        refine CW.no rfl ?_
        refine CW.skip fun aa ha => hK22 _ _ _ ?_ aa ha
        refine CW.seq fun K25 hK25 => ?_
        refine CW.region [0, 1, 2, 3, 4, 5, 6, 7, 8, 9, 10, 11, 12] rfl ?_
        refine LW.ex rfl rfl rfl rfl (Ex.move rfl) hS.rd ?_
        refine LW.ex rfl rfl rfl rfl (Ex.eql rfl rfl rfl) hS.rd ?_
        refine LW.splitB (fun h16_1 => ?_) (fun h16_1 => ?_)
        · have h16_1 := of_decide_eq_true h16_1
          refine LW.ex rfl rfl rfl rfl (Ex.move rfl) hS.rd ?_
          refine LW.ex rfl rfl rfl rfl (Ex.move rfl) hS.rd ?_
          refine LW.ex rfl rfl rfl rfl (Ex.move rfl) hS.rd ?_
          refine LW.ex rfl rfl rfl rfl (Ex.buildS st47 rfl rfl rfl) hS.rd ?_
          refine LW.hv rfl rfl rfl rfl (Hv.buildSl hS Try.underlying37 ti47 rfl rfl rfl rfl rfl rfl) fun v w76 ⟨b76, hv, hb76, hS⟩ => ?_
          subst hv
          refine LW.hv rfl rfl rfl rfl (Hv.callS hS rfl rfl rfl cb17 (same_c [⟨aS j, 0⟩] [⟨aS j, 0⟩] _ _ _ _ (memOf _) _ (imm_memOf _) (hs55.mono hS.imm.ext) (hS.lend_obj (k := 0) rfl (rslReps _ [⟨aS j, 0⟩]) (by simp [maxLen])))) fun v w77 ⟨hv, hS⟩ => ?_
          subst hv
          refine LW.splitB (fun h16_7 => ?_) (fun h16_7 => ?_)
          · skip
            refine LW.ex rfl rfl rfl rfl (by first | exact Ex.pick_yes rfl rfl | exact Ex.pick_no rfl rfl) hS.rd ?_
            refine LW.ex rfl rfl rfl rfl (Ex.move rfl) hS.rd ?_
            refine LW.ex rfl rfl rfl rfl (Ex.move rfl) hS.rd ?_
            refine LW.ex rfl rfl rfl rfl (by first | exact Ex.pick_yes rfl rfl | exact Ex.pick_no rfl rfl) hS.rd ?_
            refine LW.ex rfl rfl rfl rfl (Ex.assign rfl) hS.rd ?_
            refine LW.nil fun aa ha => hK25 _ _ _ ?_ aa ha
            refine CW.ret fun aa ha => ?_
            refine ret_one ha Try.results7 rfl ?_
            exact hS.retS
          · simp at h16_7
        · have h16_1 := of_decide_eq_false h16_1
          exact absurd rfl h16_1
end Go.Proofs.Ytgbdfgifgngijaa
