import Derived.Test.YtgbdfgifgngijaaL7
import Derived.Conc.LoneCalls

/-
  Channels in one goroutine, where nothing waits: regions with a send or a receive, code around them, a channel as an own object.
-/
namespace Go.Proofs.Ytgbdfgifgngijaa.Sy
open Go.RowKit Go.Conc

/-! ### Code of an ordinary call -/
def Wn (P : Program) (c : Code) (Q : Exit → Act → World → Prop) (a : Act) (w : World) : Prop :=
  ∀ (b : Frame) (k : List Item) (cs : List Frame), b.kind = .normal → ∃ e a' w', Q e a' w' ∧ Arrives P (lone (b.at a (.code c :: k)) cs w) b k cs e a' w'
def CN (P : Program) (c : Code) (Q : Exit → Act → World → Prop) (n : Nat) (m : List (Nat × Value)) (w : World) : Prop := ∀ a, Fr a n m → Wn P c Q a w

section
variable {P : Program} {Q : Exit → Act → World → Prop} {n : Nat} {m : List (Nat × Value)} {w : World} {c x y : Code}

theorem CN.of (h : CW P c Q n m w) : CN P c Q n m w := fun a ha b k cs _ => h a ha b k cs
theorem CN.sub (m' : List (Nat × Value)) (hs : Sub m m') (k : CN P c Q n m' w) : CN P c Q n m w := fun a ha => k a (ha.sub hs)
theorem CN.seq (h : ∀ K : Act → World → Prop, (∀ n' m' w', CN P y Q n' m' w' → KW K n' m' w') → CN P x (Exit.then K Q) n m w) : CN P (x.seq y) Q n m w := fun a ha b k cs hb => by
  obtain ⟨e, a₁, w₁, hq, harr⟩ := h (Wn P y Q) (fun _ _ w' hc a' ha' => hc a' ha') a ha b (.code y :: k) cs hb
  cases e with
  | normal =>
    obtain ⟨e₂, a₂, w₂, hq₂, harr₂⟩ := hq b k cs hb
    exact ⟨e₂, a₂, w₂, hq₂, .of_steps (.head step_seq harr) harr₂⟩
  | _ => exact ⟨_, a₁, w₁, hq, .of_steps (.one step_seq) (.pass (x := .code y) rfl (fun _ _ => .inl (by simp)) harr)⟩
theorem CN.region {id : Nat} {ops : Array Oper} (l : List Nat) (hl : List.range ops.size = l) (h : LW P ops Q l n m w) : CN P (.region id ops false) Q n m w := .of (.region l hl h)
theorem CN.draw {id : Nat} {ops : Array Oper} (k : Nat) (pl : Plan) (tail : List Nat) (S : World → Prop) (hm : P.follows .mixedOrders = true) (hB : planB ops k pl = true) (hk : planLen pl k = true)
    (ht : List.range' k (ops.size - k) = tail) (hS : S w.drew) (h : PW P ops (NoPanic Q) S tail pl n m w.drew) : CN P (.region id ops true) Q n m w := .of (.draw k pl tail S hm hB hk ht hS h)
theorem CN.ret (h : ∀ a, Fr a n m → Q .ret a w) : CN P .ret Q n m w := .of (.ret h)
theorem CN.skip (h : ∀ a, Fr a n m → Q .normal a w) : CN P .skip Q n m w := .of (.skip h)
theorem CN.exit {id : Nat} (h : ∀ a, Fr a n m → Q (.exit id) a w) : CN P (.exit id) Q n m w := .of (.exit h)
theorem CN.block {id : Nat} (h : CN P c (Exit.inBlock id Q) n m w) : CN P (.block id c) Q n m w := fun a ha b k cs hb => by
  obtain ⟨e, a₁, w₁, hq, harr⟩ := h a ha b (.inBlock id :: k) cs hb
  cases e with
  | normal => exact ⟨.normal, a₁, w₁, hq, .head step_block (Steps.trans harr (.one step_inBlock))⟩
  | exit id' =>
    by_cases hid : id' = id
    · simp only [Exit.inBlock, hid, if_true] at hq
      exact ⟨.normal, a₁, w₁, hq, .head step_block (harr k (by simp [exitTo, hid]))⟩
    · simp only [Exit.inBlock, hid, if_false] at hq
      refine ⟨.exit id', a₁, w₁, hq, fun k' hk => .head step_block (harr k' ?_)⟩
      have : (id == id') = false := by simpa using fun h => hid h.symm
      simp [exitTo, this, hk]
  | goto l => exact ⟨_, a₁, w₁, hq, fun k' hk => .head step_block (harr k' (by simp [gotoIn, hk]))⟩
  | ret => exact ⟨_, a₁, w₁, hq, .of_steps (.one step_block) harr⟩
  | panic ch => exact ⟨_, a₁, w₁, hq, .of_steps (.one step_block) harr⟩
  | outgrown => exact ⟨_, a₁, w₁, hq, .of_steps (b := b) (k := k) (cs := cs) (e := .outgrown) (.one step_block) harr⟩
theorem CN.yes {x0 : Operand} (hc : ev m x0 = some (.bool true)) (h : CN P x Q n m w) : CN P (.cond x0 x y) Q n m w := fun a ha b k cs hb =>
  let ⟨e, a', w', q, r⟩ := h a ha b k cs hb; ⟨e, a', w', q, .of_steps (.one (step_cond (ha.eval hc))) r⟩
theorem CN.no {x0 : Operand} (hc : ev m x0 = some (.bool false)) (h : CN P y Q n m w) : CN P (.cond x0 x y) Q n m w := fun a ha b k cs hb =>
  let ⟨e, a', w', q, r⟩ := h a ha b k cs hb; ⟨e, a', w', q, .of_steps (.one (step_cond (ha.eval hc))) r⟩
theorem CN.loop (I : Nat → List (Nat × Value) → World → Prop) (k0 : Nat) {m0 : List (Nat × Value)} (h0 : I k0 m0 w) (hs : Sub m m0)
    (round : ∀ k m w, I k m w → CN P c (Exit.then (fun a w' => ∃ k' m', k' < k ∧ I k' m' w' ∧ Fr a n m') Q) n m w) : CN P (.loop c) Q n m w := fun a ha => by
  have key : ∀ k m w a, I k m w → Fr a n m → ∀ b kk cs, b.kind = .normal → ∃ e a' w', Q e a' w' ∧ Arrives P (lone (b.at a (.code c :: .inLoop c :: kk)) cs w) b kk cs e a' w' := by
    intro k
    induction k using Nat.strongRecOn with
    | _ k ih =>
      intro m w a hI ha b kk cs hb
      obtain ⟨e, a₁, w₁, hq, harr⟩ := round k m w hI a ha b (.inLoop c :: kk) cs hb
      cases e with
      | normal =>
        obtain ⟨k', m', hlt, hI', ha'⟩ := hq
        obtain ⟨e₂, a₂, w₂, hq₂, harr₂⟩ := ih k' hlt m' w₁ a₁ hI' ha' b kk cs hb
        exact ⟨e₂, a₂, w₂, hq₂, .of_steps (Steps.trans harr (.one step_inLoop)) harr₂⟩
      | _ => exact ⟨_, a₁, w₁, hq, .pass (x := .inLoop c) rfl (fun _ _ => .inl (by simp)) harr⟩
  intro b kk cs hb
  obtain ⟨e, a', w', hq, harr⟩ := key k0 m0 w a h0 (ha.sub hs) b kk cs hb
  exact ⟨e, a', w', hq, .of_steps (.one step_loop) harr⟩

theorem calls_startN {f : FuncId} {fn : Func} {args : Array Value} {R : Ending → World → Prop} (n : Nat) (l : List Value)
    (hf : P.funcs[f]? = some fn) (hbd : fn.body = some c) (hn : fn.ntmps = n) (ha : args = l.toArray) (hl : Nat.ble l.length n = true) (h : CN P c (bodyPost P fn R) n (slots 0 l) w) : Calls P f args w R := by
  subst ha
  intro cs
  obtain ⟨b, hb⟩ : ∃ b : Frame, b = { (default : Frame) with fn := f, kind := .normal } := ⟨_, rfl⟩
  have hbk : b.kind = .normal := by rw [hb]
  have hbf : b.fn = f := by rw [hb]
  have henter : Frame.enter P f l.toArray .normal = b.at { tmps := l.toArray ++ Array.replicate (fn.ntmps - l.toArray.size) undef, defers := [] } [.code c] := by
    simp [Frame.enter, Frame.at, hf, hbd, hb]
  obtain ⟨e, a', w', hq, harr⟩ := h _ (by have := Fr.start l n (Nat.le_of_ble_eq_true hl); rw [← hn] at this ⊢; exact this) b [] cs hbk
  rw [← henter] at harr
  cases e with
  | normal =>
    obtain ⟨hd, v, hr, hR⟩ := hq
    exact ⟨.returned v, w', _, hR, Steps.trans harr (.one step_end), hbf, rfl, hd, hbk, fn, by rw [show (b.at a' []).fn = f from hbf]; exact hf, hr⟩
  | ret =>
    obtain ⟨hd, v, hr, hR⟩ := hq
    obtain ⟨todo, hs⟩ := harr
    exact ⟨.returned v, w', _, hR, hs, hbf, rfl, hd, hbk, fn, by rw [show (b.at a' todo).fn = f from hbf]; exact hf, hr⟩
  | panic chain =>
    obtain ⟨hd, hR⟩ := hq
    obtain ⟨todo, hs⟩ := harr
    exact ⟨.panicked chain, w', _, hR, hs, hbf, rfl, hd, fn, by rw [show (b.at a' todo).fn = f from hbf]; exact hf⟩
  | exit id => exact hq.elim
  | goto l => exact hq.elim
  | outgrown => exact ⟨.outgrown, w', b, hq, harr.resolve_left (by rw [hbk]; simp), hbf, trivial⟩
end

/-! ### Regions with a send or a receive -/
def SO (P : Program) (ops : Array Oper) (Q : Exit → Act → World → Prop) (l : List Nat) (a : Act) (w : World) : Prop :=
  ∀ (b : Frame) (k : List Item) (cs : List Frame), b.kind = .normal → ∃ e a' w', Q e a' w' ∧ Arrives P (lone (b.at a (.inRegion ops l :: k)) cs w) b k cs e a' w'
def LS (P : Program) (ops : Array Oper) (Q : Exit → Act → World → Prop) (l : List Nat) (n : Nat) (m : List (Nat × Value)) (w : World) : Prop := ∀ a, Fr a n m → SO P ops Q l a w

section
variable {P : Program} {ops : Array Oper} {Q : Exit → Act → World → Prop} {n : Nat} {m : List (Nat × Value)} {w : World} {rest : List Nat} {i : Nat} {o : Oper}

theorem CN.regionS {id : Nat} (l : List Nat) (hl : List.range ops.size = l) (h : LS P ops Q l n m w) : CN P (.region id ops false) Q n m w := fun a ha b k cs hb => by
  obtain ⟨e, a', w', hq, harr⟩ := h a ha b k cs hb
  rw [← hl] at harr
  exact ⟨e, a', w', hq, .of_steps (.one step_region) harr⟩
theorem LS.nil (h : ∀ a, Fr a n m → Q .normal a w) : LS P ops Q [] n m w := fun a ha b k cs _ => ⟨.normal, a, w, h a ha, .one step_region_end⟩
/-- What is not a communication yields; the region goes on. -/
theorem so_op {a : Act} (hi : ops[i]? = some o) (hw : Region.wanted o (yielded ops a.tmps) = true) (h : o.wp P a w (SO P ops Q rest) (fun _ _ _ => False)) : SO P ops Q (i :: rest) a w := by
  intro b k cs hb
  have hg := stepG_op (P := P) (b := b) (k := k) (cs := cs) (w := w) (rest := rest) hi hw
  have hfin : ∀ v, (b.at a (.inRegion ops (i :: rest) :: k)).finish v = b.at (a.put o.dst v) (.inRegion ops rest :: k) := fun v => by rw [Frame.finish_at, hi]; rfl
  have go : ∀ v w', step P (lone (b.at a (.inRegion ops (i :: rest) :: k)) cs w) = .next (lone ((b.at a (.inRegion ops (i :: rest) :: k)).finish v) cs w') → SO P ops Q rest (a.put o.dst v) w' →
      ∃ e a' w', Q e a' w' ∧ Arrives P (lone (b.at a (.inRegion ops (i :: rest) :: k)) cs w) b k cs e a' w' := fun v w' hs hn => by
    obtain ⟨e, a', w'', hq, harr⟩ := hn b k cs hb
    rw [hfin] at hs
    exact ⟨e, a', w'', hq, .of_steps (.one hs) harr⟩
  unfold Oper.wp at h
  cases hr : (execOp a.eval o).run P w with
  | halt x w' =>
    rw [hr] at h
    cases x <;> exact h.elim
  | ok nx w' =>
    rw [hr] at h
    cases nx with
    | value v => exact go v w' (step_lone_go (by rw [hg]; simp [stepG.apply, hr])) h
    | skip => exact go undef w' (step_lone_go (by rw [hg]; simp [stepG.apply, hr])) h
    | enter f args =>
      obtain ⟨e, w'', fr, hR, hsteps, _, hleave⟩ := h (b.at a (.inRegion ops (i :: rest) :: k) :: cs)
      have henter : step P (lone (b.at a (.inRegion ops (i :: rest) :: k)) cs w) = .next (lone (Frame.enter P f args .normal) (b.at a (.inRegion ops (i :: rest) :: k) :: cs) w') :=
        step_lone_go (by rw [hg]; simp [stepG.apply, hr, Frame.at])
      cases e with
      | returned v =>
        obtain ⟨e, a', w₃, hq, harr⟩ := hR b k cs hb
        refine ⟨e, a', w₃, hq, .of_steps (.head henter (hsteps.trans (.one ?_))) harr⟩
        rw [← hfin]; exact step_leave_returned hleave
      | panicked chain => exact hR.elim
      | outgrown => obtain ⟨_, _, hq⟩ := hR; exact hq.elim
    | row r args =>
      obtain ⟨v, w'', hR, hsteps⟩ := h (b.at a (.inRegion ops (i :: rest) :: k)) cs
      have henter : step P (lone (b.at a (.inRegion ops (i :: rest) :: k)) cs w) = .next (lone (Frame.ofRow P r args .normal) (b.at a (.inRegion ops (i :: rest) :: k) :: cs) w') :=
        step_lone_go (by rw [hg]; simp [stepG.apply, hr, Frame.at])
      obtain ⟨e, a', w₃, hq, harr⟩ := hR b k cs hb
      refine ⟨e, a', w₃, hq, .of_steps (.head henter ?_) harr⟩
      rw [← hfin]; exact hsteps
    | defer d =>
      obtain ⟨e, a', w'', hq, harr⟩ := h b k cs hb
      refine ⟨e, a', w'', hq, .of_steps (.one (step_lone_go ?_)) harr⟩
      have h2 := Frame.finish_at b { a with defers := d :: a.defers } ops i rest k undef
      rw [hi] at h2
      rw [hg]; simp only [stepG.apply, Sem.runT_eq, hr, GStep.bare_after]
      exact congrArg (fun fr => GStep.go { frame := fr, callers := cs, status := .running, dying := none } w') h2
    | _ => exact h.elim
theorem LS.ex {d : Nat} {v : Value} {S : World → Prop} (hi : ops[i]? = some o) (hd : o.dst = some d) (hn : Nat.ble (d + 1) n = true) (hg : guarded ops m o = some true) (h : Ex P S m o.op v) (hS : S w)
    (k : LS P ops Q rest n ((d, v) :: m) w) : LS P ops Q (i :: rest) n m w := fun a ha => by
  refine so_op hi (wanted_of ha hg) ?_
  unfold Oper.wp
  rw [h a.eval ha.ev w hS o rfl, Oper.upon_value, hd]
  exact k _ (ha.put (Nat.le_of_ble_eq_true hn) v)
theorem LS.hv {d : Nat} {Φ : Value → World → Prop} (hi : ops[i]? = some o) (hd : o.dst = some d) (hn : Nat.ble (d + 1) n = true) (hg : guarded ops m o = some true) (h : Hv P m o.op w Φ)
    (k : ∀ v w', Φ v w' → LS P ops Q rest n ((d, v) :: m) w') : LS P ops Q (i :: rest) n m w := fun a ha => by
  refine so_op hi (wanted_of ha hg) (h a ha.ev o rfl _ _ fun v w' hv => ?_)
  rw [hd]
  exact k v w' hv _ (ha.put (Nat.le_of_ble_eq_true hn) v)
theorem LS.hu {Φ : Value → World → Prop} (hi : ops[i]? = some o) (hd : o.dst = none) (hg : guarded ops m o = some true) (h : Hv P m o.op w Φ)
    (k : ∀ v w', Φ v w' → LS P ops Q rest n m w') : LS P ops Q (i :: rest) n m w := fun a ha => by
  refine so_op hi (wanted_of ha hg) (h a ha.ev o rfl _ _ fun v w' hv => ?_)
  rw [hd]
  exact k v w' hv _ (ha.put_none v)

/-! ### A channel of the call's own -/
def Own.chn (c cap : Nat) (buf : List Value) : Own :=
  ⟨fun bs h => bs = [c] ∧ ∃ s r, h c = some (.chan cap buf.toArray false s r false), fun bs h h' ⟨e, s, r, hc⟩ hh => ⟨e, s, r, by rw [hh c (by simp [e])]; exact hc⟩⟩
theorem st_chan {w0 w : World} {μ : Mem} {L : List Own} {k c cap : Nat} {buf : List Value} (hS : St w0 w μ L) (hk : L[k]? = some (Own.chn c cap buf)) (buf' : List Value) (s r : Nat) :
    St w0 (w.setChan c cap buf'.toArray false s r false) μ (L.set k (Own.chn c cap buf')) := by
  obtain ⟨bs, ⟨rfl, s0, r0, hb⟩, hnd, _, hstep⟩ := hS.turn hk
  have hlt := (Array.getElem?_eq_some_iff.1 (show w.heap[c]? = some _ from hb)).1
  refine hstep _ _ [c] rfl rfl rfl (Nat.le_refl _) (by rw [size_setChan]; exact Nat.le_refl _) (fun b _ hne => ?_) ⟨rfl, s, r, heap_setChan w c cap buf'.toArray false s r false hlt⟩ hnd (fun x hx => .inl hx)
  have hne' : c ≠ b := fun e => hne (by simp [e])
  simp only [World.setChan]
  rw [Array.getElem?_setIfInBounds_ne hne']
theorem LS.send {w0 : World} {μ : Mem} {L : List Own} {k c cap : Nat} {buf : List Value} {x y : Operand} {v : Value} (hi : ops[i]? = some o) (hd : o.dst = none) (hop : o.op = .send x y) (hg : guarded ops m o = some true)
    (hS : St w0 w μ L) (hk : L[k]? = some (Own.chn c cap buf)) (hx : ev m x = some (.chan (some c))) (hy : ev m y = some v) (hroom : buf.length < cap)
    (next : ∀ w', St w0 w' μ (L.set k (Own.chn c cap (buf ++ [v]))) → LS P ops Q rest n m w') : LS P ops Q (i :: rest) n m w := fun a ha b kk cs hb => by
  obtain ⟨bs, rfl, s, r, hc⟩ := hS.rd.get hk
  have hc' : w.heap[c]? = some (.chan cap buf.toArray false s r false) := hc
  have hr0 : ∀ ρ, Ev m ρ → (execOp ρ o).run P w = .ok (.comm #[scase c v (.tuple #[])] true .send) w := fun ρ hρ => by
    simp [execOp, hop, hρ _ _ hx, hρ _ _ hy, scase, go_sem]
  have hr := hr0 _ ha.ev
  have hg2 := stepG_comm (P := P) (main := true) (b := b) (k := kk) (cs := cs) (rest := rest) hi (wanted_of ha hg) (by rw [hb]; simp) hr
  have hst := step_lone_send_room hg2 hc' (by simpa using hroom)
  rw [show buf.toArray.push v = (buf ++ [v]).toArray by simp, Frame.finish_at, hi] at hst
  obtain ⟨e, a', w', hq, harr⟩ := next _ (st_chan hS hk (buf ++ [v]) (s + 1) r) a ha b kk cs hb
  refine ⟨e, a', w', hq, .of_steps (.one ?_) harr⟩
  simp only [Option.bind_some, hd, Act.put] at hst
  exact hst
theorem LS.recv {w0 : World} {μ : Mem} {L : List Own} {k c cap d : Nat} {buf : List Value} {x : Operand} {v : Value} {t E : TypeId} {dd : TypeDesc} {z : Value} {sz by_ : Nat} {dir : ChanDir} (hi : ops[i]? = some o) (hd : o.dst = some d) (hn : Nat.ble (d + 1) n = true)
    (hop : o.op = .recv t x false) (hg : guarded ops m o = some true) (ht : P.underlying t = some (.chan dir E)) (hE : TI P E dd z sz by_)
    (hS : St w0 w μ L) (hk : L[k]? = some (Own.chn c cap (v :: buf))) (hx : ev m x = some (.chan (some c)))
    (next : ∀ w', St w0 w' μ (L.set k (Own.chn c cap buf)) → LS P ops Q rest n ((d, v) :: m) w') : LS P ops Q (i :: rest) n m w := fun a ha b kk cs hb => by
  obtain ⟨bs, rfl, s, r, hc⟩ := hS.rd.get hk
  have hc' : w.heap[c]? = some (.chan cap (v :: buf).toArray false s r false) := hc
  have e1 : ∀ w, (Go.underlying t).run P w = .ok (.chan dir E) w := fun w => by simp [Go.underlying, program, Sem.run, ht, go_sem]
  have hr0 : ∀ ρ, Ev m ρ → (execOp ρ o).run P w = .ok (.comm #[rcase c z] true (.recv false)) w := fun ρ hρ => by
    simp [execOp, hop, hρ _ _ hx, rcase, e1, hE.zeroValue w, go_sem]
  have hr := hr0 _ ha.ev
  have hg2 := stepG_comm (P := P) (main := true) (b := b) (k := kk) (cs := cs) (rest := rest) hi (wanted_of ha hg) (by rw [hb]; simp) hr
  have hst := step_lone_recv_buf false hg2 hc' (by simp)
  rw [show ((v :: buf).toArray.extract 1 (v :: buf).toArray.size) = buf.toArray by simp, Frame.finish_at, hi] at hst
  obtain ⟨e, a', w', hq, harr⟩ := next _ (st_chan hS hk buf s (r + 1)) _ (ha.put (Nat.le_of_ble_eq_true hn) v) b kk cs hb
  refine ⟨e, a', w', hq, .of_steps (.one ?_) harr⟩
  simp only [Option.bind_some, hd, got] at hst
  exact hst
end
theorem Hv.makeChan {P : Program} {m : List (Nat × Value)} {t E : TypeId} {dd : TypeDesc} {z : Value} {sz by_ n : Nat} {dir : ChanDir} {y : Operand} {kl : IntKind} {w0 w : World} {μ : Mem} {L : List Own} (ht : P.underlying t = some (.chan dir E)) (hE : TI P E dd z sz by_) (hS : St w0 w μ L)
    (hy : ev m y = some (.int kl n)) (hb : by_ * n ≤ 281474976710544) (hn : n ≤ maxLen) : Hv P m (.makeChan t y) w (fun u w' => ∃ c, u = .chan (some c) ∧ w.heap.size ≤ c ∧ St w0 w' μ (Own.chn c n [] :: L)) :=
  .of_run fun ρ ha o ho => by
    obtain ⟨i, hi, h1, h2, h3⟩ := hE.info
    subst h3
    have e1 : (Go.underlying t).run P w = .ok (.chan dir E) w := by simp [Go.underlying, program, Sem.run, ht, go_sem]
    have hm := hn
    simp only [maxLen] at hm
    have e4 : (i.bytes : Int) * (n : Int) ≤ 281474976710544 := by
      have : ((i.bytes * n : Nat) : Int) = (i.bytes : Int) * (n : Int) := Int.natCast_mul _ _
      omega
    have e3 : (n : Int) ≤ 9223372036854775807 := by omega
    have e0 : ¬ ((n : Int) < 0 ∨ (n : Int) > IntKind.i64.max ∨ (i.bytes : Int) * (n : Int) > 2 ^ 48 - 112) := by
      have : IntKind.i64.max = 9223372036854775807 := rfl
      omega
    have hr : (Instr.makeChan t (.int kl n)).run P w = .ok (.chan (some w.heap.size)) (w.alloc (.chan n #[] false 0 0 false)) := by
      simp only [Instr.makeChan, asInt, asIntOf, Sem.run_bind, Sem.run_pure, Result.andThen_ok, e1, typeInfo]
      simp [hi, newObj, go_sem, Sem.run]
      first | exact e0 | omega
    refine ⟨.chan (some w.heap.size), w.alloc (.chan n #[] false 0 0 false), by simp [execOp, ho, ha _ _ hy, hr, go_sem], w.heap.size, rfl, Nat.le_refl _, ?_⟩
    exact hS.add ((Bel.refl _ _).alloc (Nat.le_refl _) _) (Own.chn w.heap.size n []) (bs := [w.heap.size]) ⟨rfl, 0, 0, heap_alloc w _⟩ (by simp) (fun b hb => by
      obtain rfl : b = w.heap.size := by simpa using hb
      rw [size_alloc]; omega)
theorem Ex.lenCh {P : Program} {m : List (Nat × Value)} {μ : Mem} {L : List Own} {t E : TypeId} {dir : ChanDir} {o' : Call} {x : Operand} {c cap k : Nat} {buf : List Value} (ho' : o' = { callee := .builtin .len, args := #[x], argTypes := #[t] }) (ht : P.underlying t = some (.chan dir E))
    (hk : L[k]? = some (Own.chn c cap buf)) (hx : ev m x = some (.chan (some c))) : Ex P (Rd μ L) m (.call o') (.int .i64 buf.length) := fun ρ ha w hR o ho => by
  subst ho'
  obtain ⟨bs, rfl, s, r, hc⟩ := hR.get hk
  have hc' : w.heap[c]? = some (.chan cap buf.toArray false s r false) := hc
  have e1 : (Go.underlying t).run P w = .ok (.chan dir E) w := by simp [Go.underlying, program, Sem.run, ht, go_sem]
  simp [execOp, ho, resolve, invoke, builtin, Builtin.len_, ha _ _ hx, e1, getObj, hc', goInt, go_sem, Sem.run]
end Go.Proofs.Ytgbdfgifgngijaa.Sy

/-
  Output: sets of modes: the walks of has, closure, reached, live and dead of package flaw.
-/
namespace Go.Proofs.Ytgbdfgifgngijaa
open Go.RowKit Sy

theorem fit8 {a : Nat} (h : a < 256) : IntKind.u8.wrap (a : Int) = a := by rw [IntKind.wrap_u8]; omega
theorem of8 {a : Nat} (h : a < 256) : (BitVec.ofInt 8 (a : Int)).toNat = a := by
  rw [BitVec.toNat_ofInt]; omega
section
variable {P : Program} {S : World → Prop} {m : List (Nat × Value)} {t t' : TypeId} {x y : Operand} {a b : Nat}
theorem and8 (hx : ev m x = some (.int .u8 a)) (hy : ev m y = some (.int .u8 b)) (ha0 : a < 256) (hb0 : b < 256) : Ex P S m (.binOp .and t x y t') (.int .u8 ((a &&& b : Nat) : Int)) := fun ρ ha w _ o ho => by
  have e : Op.intBits .and .u8 a b = pure (.int .u8 ((a &&& b : Nat) : Int)) := by
    have h1 : a &&& b < 256 := Nat.lt_of_le_of_lt Nat.and_le_left ha0
    show (pure (Value.int IntKind.u8 (IntKind.u8.wrap ((BitVec.ofInt 8 (a : Int) &&& BitVec.ofInt 8 (b : Int)).toNat : Int))) : Sem Value) = _
    rw [BitVec.toNat_and, of8 ha0, of8 hb0, fit8 h1]
  simp [execOp, ho, ha _ _ hx, ha _ _ hy, eqGuard, binOp, e, go_sem]
theorem or8 (hx : ev m x = some (.int .u8 a)) (hy : ev m y = some (.int .u8 b)) (ha0 : a < 256) (hb0 : b < 256) : Ex P S m (.binOp .or t x y t') (.int .u8 ((a ||| b : Nat) : Int)) := fun ρ ha w _ o ho => by
  have e : Op.intBits .or .u8 a b = pure (.int .u8 ((a ||| b : Nat) : Int)) := by
    have h1 : a ||| b < 2 ^ 8 := Nat.or_lt_two_pow ha0 hb0
    show (pure (Value.int IntKind.u8 (IntKind.u8.wrap ((BitVec.ofInt 8 (a : Int) ||| BitVec.ofInt 8 (b : Int)).toNat : Int))) : Sem Value) = _
    rw [BitVec.toNat_or, of8 ha0, of8 hb0, fit8 h1]
  simp [execOp, ho, ha _ _ hx, ha _ _ hy, eqGuard, binOp, e, go_sem]
theorem shr8 {j : Nat} (hx : ev m x = some (.int .u8 a)) (hy : ev m y = some (.int .i64 j)) (hj : j ≤ 8) : Ex P S m (.binOp .shr t x y t') (.int .u8 ((a / 2 ^ j : Nat) : Int)) := by
  refine Ex.shr hx hy (by omega) (by show (j : Int).toNat ≤ 8; omega) ?_
  rw [Int.toNat_natCast, Int.fdiv_eq_ediv_of_nonneg _ (by exact_mod_cast Nat.zero_le _), Int.natCast_ediv, Int.natCast_pow]; rfl
theorem shl8 {j : Nat} (hx : ev m x = some (.int .u8 1)) (hy : ev m y = some (.int .i64 j)) (hj : j < 8) : Ex P S m (.binOp .shl t x y t') (.int .u8 ((2 ^ j : Nat) : Int)) := by
  refine Ex.shl hx hy (by omega) (by show (j : Int).toNat ≤ 8; omega) ?_
  have h1 : 2 ^ j < 256 := Nat.pow_lt_pow_of_lt (a := 2) (by omega) (m := 8) hj
  rw [Int.toNat_natCast, Int.one_mul, ← fit8 h1, Int.natCast_pow]; rfl
end
theorem bit_has (M j : Nat) : decide ((((M / 2 ^ j) &&& 1 : Nat) : Int) = 1) = M.testBit j := by
  rw [Nat.testBit_eq_decide_div_mod_eq, Nat.and_one_is_mod]
  exact decide_eq_decide.2 (by omega)
theorem has8_c (M j : Nat) (hM : M < 256) (hj : j ≤ 8) (w : World) : Calls Try.prog 72 #[.int .u8 M, .int .i64 j] w (RetS w (.bool (M.testBit j))) := by
  have hd : M / 2 ^ j < 256 := Nat.lt_of_le_of_lt (Nat.div_le_self _ _) hM
  have hS := St.start w (fun _ => none) (fun _ _ h => by cases h)
  refine calls_start 10 [.int .u8 M, .int .i64 j] Try.func72 rfl Try.ntmps72 rfl rfl ?_
  refine CW.seq fun K1 hK1 => ?_
  refine CW.region [0] rfl ?_
  refine LW.ex rfl rfl rfl rfl (Ex.assign rfl) hS.rd ?_
  refine LW.nil fun aa ha => hK1 _ _ _ ?_ aa ha
  refine CW.seq fun K2 hK2 => ?_
  refine CW.region [0, 1, 2, 3, 4, 5] rfl ?_
  refine LW.ex rfl rfl rfl rfl (Ex.move rfl) hS.rd ?_
  refine LW.ex rfl rfl rfl rfl (Ex.move rfl) hS.rd ?_
  refine LW.ex rfl rfl rfl rfl (shr8 rfl rfl hj) hS.rd ?_
  refine LW.ex rfl rfl rfl rfl (and8 (b := 1) rfl rfl hd (by omega)) hS.rd ?_
  refine LW.ex rfl rfl rfl rfl (Ex.eql rfl rfl (by first | exact decide_eq_true (by omega) | exact decide_eq_false (by omega) | rfl)) hS.rd ?_
  refine LW.ex rfl rfl rfl rfl (Ex.assign rfl) hS.rd ?_
  refine LW.nil fun aa ha => hK2 _ _ _ ?_ aa ha
  refine CW.ret fun aa ha => ?_
  refine ret_one ha Try.results72 rfl ?_
  exact hS.retB (bit_has M j)

/-! ### Closures -/
def stepC (back : Bool) (M : Nat) (r : Rule) : Nat := if M.testBit (if back then r.To else r.From).toNat then M ||| 2 ^ (if back then r.From else r.To).toNat else M
def roundC (s : Sch) (back : Bool) (M : Nat) : Nat := s.Rules.foldl (stepC back) M
def closeR (s : Sch) (back : Bool) : Nat → Nat → Nat
  | 0, M => M
  | n + 1, M => roundC s back (closeR s back n M)
theorem stepC_lt {back : Bool} {M : Nat} {r : Rule} {modes : Int} (hr : rightB r modes = true) (hm : modes ≤ 8) (h : M < 256) : stepC back M r < 256 := by
  unfold rightB at hr
  simp only [Bool.and_eq_true, decide_eq_true_eq] at hr
  unfold stepC
  by_cases h2 : M.testBit (if back = true then r.To else r.From).toNat = true
  · rw [if_pos h2]
    refine Nat.or_lt_two_pow (n := 8) h (Nat.pow_lt_pow_of_lt (a := 2) (by omega) ?_)
    split <;> omega
  · rw [if_neg h2]; exact h
theorem fold_lt {s : Sch} (hs : SchOk s) (back : Bool) : ∀ (l : List Rule), (∀ r ∈ l, r ∈ s.Rules) → ∀ M, M < 256 → l.foldl (stepC back) M < 256
  | [], _, _, h => h
  | r :: l, hl, M, h => by
    obtain ⟨i, hi, e⟩ := List.getElem_of_mem (hl r (List.mem_cons_self ..))
    exact fold_lt hs back l (fun z hz => hl z (List.mem_cons_of_mem _ hz)) _ (stepC_lt (by rw [← e]; exact (hs.ru i hi).1) hs.m2 h)
theorem close_lt {s : Sch} (hs : SchOk s) (back : Bool) (M : Nat) (h : M < 256) : ∀ n, closeR s back n M < 256
  | 0 => h
  | n + 1 => fold_lt hs back s.Rules (fun _ h => h) _ (close_lt hs back M h n)
theorem fold_take {s : Sch} {back : Bool} {M i : Nat} (hi : i < s.Rules.length) : (s.Rules.take (i + 1)).foldl (stepC back) M = stepC back ((s.Rules.take i).foldl (stepC back) M) s.Rules[i] := by
  rw [List.take_succ_eq_append_getElem hi, List.foldl_append]; rfl
theorem rightN {r : Rule} {modes : Int} (hr : rightB r modes = true) (hm : modes ≤ 8) : ∃ f t : Nat, r.From = f ∧ r.To = t ∧ f < 8 ∧ t < 8 ∧ (f : Int) < modes ∧ (t : Int) < modes := by
  unfold rightB at hr
  simp only [Bool.and_eq_true, decide_eq_true_eq] at hr
  exact ⟨r.From.toNat, r.To.toNat, by omega, by omega, by omega, by omega, by omega, by omega⟩
set_option maxRecDepth 100000 in
theorem closure_c (s : Sch) (hs : SchOk s) (M : Nat) (hM : M < 256) (back : Bool) (a0 : Option Addr) (c0 : Nat) (μ : Mem) (w : World) (hμ : Imm μ w) (h0 : Sl μ a0 c0 s.Rules) :
    Calls Try.prog 94 #[.agg #[.int .i64 s.Modes, .int .u8 s.Accept.toNat, .slice a0 s.Rules.length c0], .int .u8 M, .bool back] w (RetS w (.int .u8 (closeR s back s.Modes.toNat M : Nat))) := by
  obtain ⟨N, hN⟩ : ∃ N : Nat, s.Modes = N := ⟨s.Modes.toNat, by have := hs.m1; omega⟩
  have hm2 := hs.m2
  have hm1 := hs.m1
  have hrl := hs.rl
  have hS := St.start w μ hμ
  refine calls_start 39 [.agg #[.int .i64 s.Modes, .int .u8 s.Accept.toNat, .slice a0 s.Rules.length c0], .int .u8 M, .bool back] Try.func94 rfl Try.ntmps94 rfl rfl ?_
  refine CW.seq fun K3 hK3 => ?_
  refine CW.region [0, 1] rfl ?_
  refine LW.hv rfl rfl rfl rfl (Hv.boxS hS rfl rfl) fun v w3 ⟨b3, hv, hb3, hS⟩ => ?_
  subst hv
  refine LW.ex rfl rfl rfl rfl (Ex.assign rfl) hS.rd ?_
  refine LW.nil fun aa ha => hK3 _ _ _ ?_ aa ha
  refine CW.seq fun K4 hK4 => ?_
  refine CW.seq fun K5 hK5 => ?_
  refine CW.region [0, 1, 2] rfl ?_
  refine LW.ex rfl rfl rfl rfl (Ex.fieldO 0 Try.underlying29 rfl rfl ti3 rfl) hS.rd ?_
  refine LW.ex rfl rfl rfl rfl (Ex.load1 ti3 rfl rfl (by first | exact obT rfl | exact Rd.imm ‹_› | exact slT ‹_›)) hS.rd ?_
  refine LW.ex rfl rfl rfl rfl (Ex.move rfl) hS.rd ?_
  refine LW.nil fun aa ha => hK5 _ _ _ ?_ aa ha
  refine CW.block ?_
  have hcl := close_lt hs back M hM
  refine CW.loop (fun qq frm wl2 => ∃ (k : Nat), k ≤ N ∧ qq = N - k ∧ frm = [(1, .int .u8 (closeR s back k M : Nat)), (2, .bool back), (3, .pointer (some ⟨b3, 0, none⟩)), (12, .int .i64 s.Modes), (13, .int .i64 k)] ∧ St w wl2 μ [Own.obj b3 [.int .i64 s.Modes, .int .u8 s.Accept.toNat, .slice a0 s.Rules.length c0] 29]) _ ⟨0, (by first | omega | (simp; done) | (simp; omega)), rfl, rfl, hS⟩ ⟨rfl, rfl, rfl, rfl, rfl, trivial⟩ ?_
  clear hS
  rintro qq frm wl2 ⟨k, hk, hq, rfl, hS⟩
  refine CW.seq fun K6 hK6 => ?_
  refine CW.region [0] rfl ?_
  refine LW.ex rfl rfl rfl rfl (Ex.lss rfl rfl rfl) hS.rd ?_
  refine LW.splitB (fun h2_0 => ?_) (fun h2_0 => ?_)
  · have h2_0 := of_decide_eq_true h2_0
    refine LW.nil fun aa ha => hK6 _ _ _ ?_ aa ha
    refine CW.seq fun K7 hK7 => ?_
    refine CW.yes rfl ?_
    refine CW.skip fun aa ha => hK7 _ _ _ ?_ aa ha
    refine CW.seq fun K8 hK8 => ?_
    refine CW.block ?_
    refine CW.seq fun K9 hK9 => ?_
    refine CW.region [0, 1, 2, 3] rfl ?_
    refine LW.ex rfl rfl rfl rfl (Ex.fieldO 2 Try.underlying29 rfl rfl ti27 rfl) hS.rd ?_
    refine LW.ex rfl rfl rfl rfl (Ex.load1 ti27 rfl rfl (by first | exact obT rfl | exact Rd.imm ‹_› | exact slT ‹_›)) hS.rd ?_
    refine LW.ex rfl rfl rfl rfl (Ex.lenSl rfl Try.underlying27 rfl) hS.rd ?_
    refine LW.ex rfl rfl rfl rfl (Ex.move rfl) hS.rd ?_
    refine LW.nil fun aa ha => hK9 _ _ _ ?_ aa ha
    refine CW.block ?_
    refine CW.loop (fun qq frm wl4 => ∃ (i : Nat), i ≤ s.Rules.length ∧ qq = s.Rules.length - i ∧ frm = [(1, .int .u8 ((s.Rules.take i).foldl (stepC back) (closeR s back k M) : Nat)), (2, .bool back), (3, .pointer (some ⟨b3, 0, none⟩)), (12, .int .i64 s.Modes), (13, .int .i64 k), (16, .slice a0 s.Rules.length c0), (17, .int .i64 s.Rules.length), (18, .int .i64 i)] ∧ St w wl4 μ [Own.obj b3 [.int .i64 s.Modes, .int .u8 s.Accept.toNat, .slice a0 s.Rules.length c0] 29]) _ ⟨0, (by first | omega | (simp; done) | (simp; omega)), rfl, rfl, hS⟩ ⟨rfl, rfl, rfl, rfl, rfl, rfl, rfl, rfl, trivial⟩ ?_
    clear hS
    rintro qq frm wl4 ⟨i, hi, hq, rfl, hS⟩
    refine CW.seq fun K10 hK10 => ?_
    refine CW.region [0] rfl ?_
    refine LW.ex rfl rfl rfl rfl (Ex.lss rfl rfl rfl) hS.rd ?_
    refine LW.splitB (fun h4_0 => ?_) (fun h4_0 => ?_)
    · have h4_0 := of_decide_eq_true h4_0
      refine LW.nil fun aa ha => hK10 _ _ _ ?_ aa ha
      refine CW.seq fun K11 hK11 => ?_
      refine CW.yes rfl ?_
      refine CW.skip fun aa ha => hK11 _ _ _ ?_ aa ha
      refine CW.seq fun K12 hK12 => ?_
      refine CW.block ?_
      refine CW.seq fun K13 hK13 => ?_
      have hi2 : i < s.Rules.length := by omega
      have hri := (hs.ru i hi2).1
      have hSl := hS
      obtain ⟨bl', ol, rfl, k0, k1, k2, k3, k4⟩ := h0.at hi2
      have hS := hSl
      have hft := fold_take (M := closeR s back k M) (back := back) hi2
      have hlt := fold_lt hs back (s.Rules.take i) (fun r hr => List.mem_of_mem_take hr) _ (hcl k)
      obtain ⟨Z, hZ⟩ : ∃ Z, Z = (s.Rules.take i).foldl (stepC back) (closeR s back k M) := ⟨_, rfl⟩
      rw [← hZ] at hft hlt ⊢
      obtain ⟨f, t, hf, ht, hf8, ht8, _, _⟩ := rightN hri hm2
      rw [hf] at k0
      rw [ht] at k1
      refine CW.region [0, 1, 2, 3] rfl ?_
      refine LW.ex rfl rfl rfl rfl (Ex.indexSl Try.underlying27 ti58 rfl rfl rfl (by omega)) hS.rd ?_
      refine LW.ex rfl rfl rfl rfl (Ex.load5c ti58 rfl rfl (by first | exact obT rfl | exact Rd.imm ‹_› | exact slT ‹_›) (by first | exact obT rfl | exact Rd.imm ‹_› | exact slT ‹_›) (by first | exact obT rfl | exact Rd.imm ‹_› | exact slT ‹_›) (by first | exact obT rfl | exact Rd.imm ‹_› | exact slT ‹_›) (by first | exact obT rfl | exact Rd.imm ‹_› | exact slT ‹_›)) hS.rd ?_
      refine LW.hv rfl rfl rfl rfl (Hv.alloc ti58 hS) fun v w8 ⟨b8, hv, hb8, hS⟩ => ?_
      subst hv
      refine LW.hu rfl rfl rfl (Hv.storeN (k := 0) ti58 hS rfl rfl rfl rfl (by simp [Value.oneCell'])) fun _ w_3 hS => ?_
      dsimp only [List.set] at hS
      refine LW.nil fun aa ha => hK13 _ _ _ ?_ aa ha
      refine CW.seq fun K14 hK14 => ?_
      have hS := hS.drew
      refine CW.draw 6 (.ex 0 <| .ex 1 <| .ex 2 <| .ex 3 <| .ex 4 <| .ex 5 <| .done) [] (Rd _ _) mixed (by kernel_rfl) rfl rfl hS.rd ?_
      refine PW.ex rfl rfl rfl rfl (Ex.fieldO 0 Try.underlying58 rfl rfl ti3 rfl) ?_
      refine PW.ex rfl rfl rfl rfl (Ex.load1 ti3 rfl rfl (by first | exact obT rfl | exact Rd.imm ‹_› | exact slT ‹_›)) ?_
      refine PW.ex rfl rfl rfl rfl (Ex.fieldO 1 Try.underlying58 rfl rfl ti3 rfl) ?_
      refine PW.ex rfl rfl rfl rfl (Ex.load1 ti3 rfl rfl (by first | exact obT rfl | exact Rd.imm ‹_› | exact slT ‹_›)) ?_
      refine PW.ex rfl rfl rfl rfl (Ex.assign rfl) ?_
      refine PW.ex rfl rfl rfl rfl (Ex.assign rfl) ?_
      refine PW.nil ?_
      refine LW.nil fun aa ha => hK14 _ _ _ ?_ aa ha
      refine CW.seq fun K15 hK15 => ?_
      have hJ7 : ∀ (wj : World) (u v : Nat), St w wj μ [Own.obj b8 [.int .i64 f, .int .i64 t, .string s.Rules[i].In, .string s.Rules[i].Out, .int .i64 s.Rules[i].Cost] 58, Own.obj b3 [.int .i64 s.Modes, .int .u8 s.Accept.toNat, .slice (some ⟨bl', ol, none⟩) s.Rules.length c0] 29] → (u = (if back then t else f)) → (v = (if back then f else t)) → KW K15 39 [(1, .int .u8 (Z : Nat)), (2, .bool back), (3, .pointer (some ⟨b3, 0, none⟩)), (9, .int .i64 u), (10, .int .i64 v), (12, .int .i64 s.Modes), (13, .int .i64 k), (16, .slice (some ⟨bl', ol, none⟩) s.Rules.length c0), (17, .int .i64 s.Rules.length), (18, .int .i64 i)] wj := by
        intro wj u v hS hu hv2
        refine hK15 _ _ _ ?_
        refine CW.seq fun K16 hK16 => ?_
        have hu8 : u < 8 := by rw [hu]; split <;> omega
        have hv8 : v < 8 := by rw [hv2]; split <;> omega
        have hft2 : (s.Rules.take (i + 1)).foldl (stepC back) (closeR s back k M) = if Z.testBit u = true then Z ||| 2 ^ v else Z := by
          rw [hft]
          show (if Z.testBit (if back = true then s.Rules[i].To else s.Rules[i].From).toNat = true then Z ||| 2 ^ (if back = true then s.Rules[i].From else s.Rules[i].To).toNat else Z) = _
          rw [hf, ht, hu, hv2]
          cases back <;> simp
        refine CW.region [0, 1, 2] rfl ?_
        refine LW.ex rfl rfl rfl rfl (Ex.move rfl) hS.rd ?_
        refine LW.ex rfl rfl rfl rfl (Ex.move rfl) hS.rd ?_
        refine LW.hv rfl rfl rfl rfl (Hv.callS hS rfl rfl rfl cb72 (has8_c Z u hlt (by omega) _)) fun v w31 ⟨hv, hS⟩ => ?_
        subst hv
        refine LW.splitB (fun h9_2 => ?_) (fun h9_2 => ?_)
        · skip
          refine LW.nil fun aa ha => hK16 _ _ _ ?_ aa ha
          refine CW.yes rfl ?_
          refine CW.region [0, 1, 2, 3, 4] rfl ?_
          refine LW.ex rfl rfl rfl rfl (Ex.move rfl) hS.rd ?_
          refine LW.ex rfl rfl rfl rfl (Ex.move rfl) hS.rd ?_
          refine LW.ex rfl rfl rfl rfl (shl8 rfl rfl hv8) hS.rd ?_
          refine LW.ex rfl rfl rfl rfl (or8 rfl rfl hlt (Nat.pow_lt_pow_of_lt (a := 2) (by omega) (m := 8) hv8)) hS.rd ?_
          refine LW.ex rfl rfl rfl rfl (Ex.assign rfl) hS.rd ?_
          refine LW.nil fun aa ha => hK12 _ _ _ ?_ aa ha
          refine CW.region [0, 1] rfl ?_
          refine LW.ex rfl rfl rfl rfl (Ex.add rfl rfl (by first | exact inc64 (by omega) | exact addN (by omega) | exact w64 (by omega) (by omega))) hS.rd ?_
          refine LW.ex rfl rfl rfl rfl (Ex.move rfl) hS.rd ?_
          refine LW.nil fun aa ha => ?_
          have hS := hS.drop 0 rfl
          dsimp only [List.eraseIdx] at hS
          rw [if_pos h9_2] at hft2
          rw [← hft2] at ha
          refine ⟨_, _, ?m4, ⟨i + 1, (by first | omega | (simp; done) | (simp; omega)), rfl, rfl, hS⟩, ha.sub ⟨rfl, rfl, rfl, rfl, rfl, rfl, rfl, rfl, trivial⟩⟩
          case m4 => omega
        · skip
          refine LW.nil fun aa ha => hK16 _ _ _ ?_ aa ha
          refine CW.no rfl ?_
          refine CW.skip fun aa ha => hK12 _ _ _ ?_ aa ha
          refine CW.region [0, 1] rfl ?_
          refine LW.ex rfl rfl rfl rfl (Ex.add rfl rfl (by first | exact inc64 (by omega) | exact addN (by omega) | exact w64 (by omega) (by omega))) hS.rd ?_
          refine LW.ex rfl rfl rfl rfl (Ex.move rfl) hS.rd ?_
          refine LW.nil fun aa ha => ?_
          have hS := hS.drop 0 rfl
          dsimp only [List.eraseIdx] at hS
          rw [if_neg (by rw [h9_2]; decide)] at hft2
          rw [← hft2] at ha
          refine ⟨_, _, ?m4, ⟨i + 1, (by first | omega | (simp; done) | (simp; omega)), rfl, rfl, hS⟩, ha.sub ⟨rfl, rfl, rfl, rfl, rfl, rfl, rfl, rfl, trivial⟩⟩
          case m4 => omega
      refine CW.seq fun K17 hK17 => ?_
      refine CW.region [0] rfl ?_
      refine LW.ex rfl rfl rfl rfl (Ex.move rfl) hS.rd ?_
      refine LW.splitB (fun h7_0 => ?_) (fun h7_0 => ?_)
      · skip
        refine LW.nil fun aa ha => hK17 _ _ _ ?_ aa ha
        refine CW.yes rfl ?_
        refine CW.region [0, 1, 2, 3] rfl ?_
        refine LW.ex rfl rfl rfl rfl (Ex.move rfl) hS.rd ?_
        refine LW.ex rfl rfl rfl rfl (Ex.move rfl) hS.rd ?_
        refine LW.ex rfl rfl rfl rfl (Ex.assign rfl) hS.rd ?_
        refine LW.ex rfl rfl rfl rfl (Ex.assign rfl) hS.rd ?_
        refine LW.nil fun aa ha => ?_
        refine hJ7 _ (t) (f) hS (by rw [h7_0]; rfl) (by rw [h7_0]; rfl) aa (ha.sub ⟨rfl, rfl, rfl, rfl, rfl, rfl, rfl, rfl, rfl, rfl, trivial⟩)
      · skip
        refine LW.nil fun aa ha => hK17 _ _ _ ?_ aa ha
        refine CW.no rfl ?_
        refine CW.skip fun aa ha => ?_
        refine hJ7 _ (f) (t) hS (by rw [h7_0]; rfl) (by rw [h7_0]; rfl) aa (ha.sub ⟨rfl, rfl, rfl, rfl, rfl, rfl, rfl, rfl, rfl, rfl, trivial⟩)
    · have h4_0 := of_decide_eq_false h4_0
      refine LW.nil fun aa ha => hK10 _ _ _ ?_ aa ha
      refine CW.seq fun K18 hK18 => ?_
      refine CW.no rfl ?_
      refine CW.exit fun aa ha => hK8 _ _ _ ?_ aa ha
      refine CW.region [0, 1] rfl ?_
      refine LW.ex rfl rfl rfl rfl (Ex.add rfl rfl (by first | exact inc64 (by omega) | exact addN (by omega) | exact w64 (by omega) (by omega))) hS.rd ?_
      refine LW.ex rfl rfl rfl rfl (Ex.move rfl) hS.rd ?_
      refine LW.nil fun aa ha => ?_
      have hfin : (s.Rules.take i).foldl (stepC back) (closeR s back k M) = closeR s back (k + 1) M := by rw [List.take_of_length_le (by omega)]; rfl
      rw [hfin] at ha
      refine ⟨_, _, ?m2, ⟨k + 1, (by first | omega | (simp; done) | (simp; omega)), rfl, rfl, hS⟩, ha.sub ⟨rfl, rfl, rfl, rfl, rfl, trivial⟩⟩
      case m2 => omega
  · have h2_0 := of_decide_eq_false h2_0
    refine LW.nil fun aa ha => hK6 _ _ _ ?_ aa ha
    refine CW.seq fun K19 hK19 => ?_
    refine CW.no rfl ?_
    refine CW.exit fun aa ha => hK4 _ _ _ ?_ aa ha
    refine CW.seq fun K20 hK20 => ?_
    refine CW.region [0, 1] rfl ?_
    refine LW.ex rfl rfl rfl rfl (Ex.move rfl) hS.rd ?_
    refine LW.ex rfl rfl rfl rfl (Ex.assign rfl) hS.rd ?_
    refine LW.nil fun aa ha => hK20 _ _ _ ?_ aa ha
    refine CW.ret fun aa ha => ?_
    refine ret_one ha Try.results94 rfl ?_
    have hkN : s.Modes.toNat = k := by omega
    rw [hkN]
    exact hS.retS
end Go.Proofs.Ytgbdfgifgngijaa

/-
  The walks of cmp.isNaN, cmp.Compare and cmp.Or.
-/
namespace Go.Proofs.Ytgbdfgifgngijaa
open Go.RowKit Sy

def cmpI (a b : Int) : Int := if a < b then -1 else if b < a then 1 else 0
theorem nan_c (a : Int) (w : World) : Calls Try.prog 60 #[.int .i64 a] w (RetS w (.bool false)) := by
  have hS := St.start w (fun _ => none) (fun _ _ h => by cases h)
  refine calls_start 6 [.int .i64 a] Try.func60 rfl Try.ntmps60 rfl rfl ?_
  refine CW.seq fun K0 hK0 => ?_
  refine CW.region [0] rfl ?_
  refine LW.ex rfl rfl rfl rfl (Ex.assign rfl) hS.rd ?_
  refine LW.nil fun aa ha => hK0 _ _ _ ?_ aa ha
  refine CW.seq fun K1 hK1 => ?_
  refine CW.region [0, 1, 2, 3] rfl ?_
  refine LW.ex rfl rfl rfl rfl (Ex.move rfl) hS.rd ?_
  refine LW.ex rfl rfl rfl rfl (Ex.move rfl) hS.rd ?_
  refine LW.ex rfl rfl rfl rfl (Ex.neq rfl rfl (by first | exact decide_eq_true (by omega) | exact decide_eq_false (by omega) | rfl)) hS.rd ?_
  refine LW.ex rfl rfl rfl rfl (Ex.assign rfl) hS.rd ?_
  refine LW.nil fun aa ha => hK1 _ _ _ ?_ aa ha
  refine CW.ret fun aa ha => ?_
  exact ret_one ha Try.results60 rfl hS.retS
theorem cmp_c (a b : Int) (w : World) : Calls Try.prog 37 #[.int .i64 a, .int .i64 b] w (RetS w (.int .i64 (cmpI a b))) := by
  have hS := St.start w (fun _ => none) (fun _ _ h => by cases h)
  refine calls_start 20 [.int .i64 a, .int .i64 b] Try.func37 rfl Try.ntmps37 rfl rfl ?_
  refine CW.seq fun K0 hK0 => ?_
  refine CW.region [0] rfl ?_
  refine LW.ex rfl rfl rfl rfl (Ex.assign rfl) hS.rd ?_
  refine LW.nil fun aa ha => hK0 _ _ _ ?_ aa ha
  refine CW.seq fun K1 hK1 => ?_
  refine CW.region [0, 1, 2] rfl ?_
  refine LW.ex rfl rfl rfl rfl (Ex.move rfl) hS.rd ?_
  refine LW.hv rfl rfl rfl rfl (Hv.callS hS rfl rfl rfl cb60 (nan_c _ _)) fun v w8 ⟨hv, hS⟩ => ?_
  subst hv
  refine LW.ex rfl rfl rfl rfl (Ex.assign rfl) hS.rd ?_
  refine LW.nil fun aa ha => hK1 _ _ _ ?_ aa ha
  refine CW.seq fun K2 hK2 => ?_
  refine CW.region [0, 1, 2] rfl ?_
  refine LW.ex rfl rfl rfl rfl (Ex.move rfl) hS.rd ?_
  refine LW.hv rfl rfl rfl rfl (Hv.callS hS rfl rfl rfl cb60 (nan_c _ _)) fun v w10 ⟨hv, hS⟩ => ?_
  subst hv
  refine LW.ex rfl rfl rfl rfl (Ex.assign rfl) hS.rd ?_
  refine LW.nil fun aa ha => hK2 _ _ _ ?_ aa ha
  refine CW.seq fun K3o hK3o => ?_
  refine CW.seq fun K3 hK3 => ?_
  refine CW.region [0] rfl ?_
  refine LW.ex rfl rfl rfl rfl (Ex.move rfl) hS.rd ?_
  refine LW.nil fun aa ha => hK3 _ _ _ ?_ aa ha
  refine CW.no rfl (CW.skip fun aa ha => hK3o _ _ _ ?_ aa ha)
  refine CW.seq fun K7o hK7o => ?_
  refine CW.seq fun K7 hK7 => ?_
  refine CW.region [0] rfl ?_
  refine LW.ex rfl rfl rfl rfl (Ex.move rfl) hS.rd ?_
  refine LW.nil fun aa ha => hK7 _ _ _ ?_ aa ha
  refine CW.no rfl (CW.skip fun aa ha => hK7o _ _ _ ?_ aa ha)
  by_cases h1 : a < b
  · skip
    refine CW.seq fun K9o hK9o => ?_
    refine CW.seq fun K9 hK9 => ?_
    refine CW.region [0, 1, 2] rfl ?_
    refine LW.ex rfl rfl rfl rfl (Ex.move rfl) hS.rd ?_
    refine LW.ex rfl rfl rfl rfl (Ex.move rfl) hS.rd ?_
    refine LW.ex rfl rfl rfl rfl (Ex.lss rfl rfl (by first | exact decide_eq_true (by omega) | exact decide_eq_false (by omega) | rfl)) hS.rd ?_
    refine LW.nil fun aa ha => hK9 _ _ _ ?_ aa ha
    refine CW.yes rfl ?_
    refine CW.seq fun K10 hK10 => ?_
    refine CW.region [0] rfl ?_
    refine LW.ex rfl rfl rfl rfl (Ex.assign rfl) hS.rd ?_
    refine LW.nil fun aa ha => hK10 _ _ _ ?_ aa ha
    refine CW.ret fun aa ha => ?_
    refine ret_one ha Try.results37 rfl ?_
    rw [show cmpI a b = -1 by simp [cmpI, h1]]; exact hS.retS
  · skip
    refine CW.seq fun K9o hK9o => ?_
    refine CW.seq fun K9 hK9 => ?_
    refine CW.region [0, 1, 2] rfl ?_
    refine LW.ex rfl rfl rfl rfl (Ex.move rfl) hS.rd ?_
    refine LW.ex rfl rfl rfl rfl (Ex.move rfl) hS.rd ?_
    refine LW.ex rfl rfl rfl rfl (Ex.lss rfl rfl (by first | exact decide_eq_true (by omega) | exact decide_eq_false (by omega) | rfl)) hS.rd ?_
    refine LW.nil fun aa ha => hK9 _ _ _ ?_ aa ha
    refine CW.no rfl (CW.skip fun aa ha => hK9o _ _ _ ?_ aa ha)
    by_cases h2 : b < a
    · skip
      refine CW.seq fun K11o hK11o => ?_
      refine CW.seq fun K11 hK11 => ?_
      refine CW.region [0, 1, 2] rfl ?_
      refine LW.ex rfl rfl rfl rfl (Ex.move rfl) hS.rd ?_
      refine LW.ex rfl rfl rfl rfl (Ex.move rfl) hS.rd ?_
      refine LW.ex rfl rfl rfl rfl (Ex.gtr rfl rfl (by first | exact decide_eq_true (by omega) | exact decide_eq_false (by omega) | rfl)) hS.rd ?_
      refine LW.nil fun aa ha => hK11 _ _ _ ?_ aa ha
      refine CW.yes rfl ?_
      refine CW.seq fun K12 hK12 => ?_
      refine CW.region [0] rfl ?_
      refine LW.ex rfl rfl rfl rfl (Ex.assign rfl) hS.rd ?_
      refine LW.nil fun aa ha => hK12 _ _ _ ?_ aa ha
      refine CW.ret fun aa ha => ?_
      refine ret_one ha Try.results37 rfl ?_
      rw [show cmpI a b = 1 by simp [cmpI, h1, h2]]; exact hS.retS
    · skip
      refine CW.seq fun K11o hK11o => ?_
      refine CW.seq fun K11 hK11 => ?_
      refine CW.region [0, 1, 2] rfl ?_
      refine LW.ex rfl rfl rfl rfl (Ex.move rfl) hS.rd ?_
      refine LW.ex rfl rfl rfl rfl (Ex.move rfl) hS.rd ?_
      refine LW.ex rfl rfl rfl rfl (Ex.gtr rfl rfl (by first | exact decide_eq_true (by omega) | exact decide_eq_false (by omega) | rfl)) hS.rd ?_
      refine LW.nil fun aa ha => hK11 _ _ _ ?_ aa ha
      refine CW.no rfl (CW.skip fun aa ha => hK11o _ _ _ ?_ aa ha)
      refine CW.seq fun K13 hK13 => ?_
      refine CW.region [0] rfl ?_
      refine LW.ex rfl rfl rfl rfl (Ex.assign rfl) hS.rd ?_
      refine LW.nil fun aa ha => hK13 _ _ _ ?_ aa ha
      refine CW.ret fun aa ha => ?_
      refine ret_one ha Try.results37 rfl ?_
      rw [show cmpI a b = 0 by simp [cmpI, h1, h2]]; exact hS.retS

/-- cmp.Or -/
def orL : List Int → Int
  | [] => 0
  | x :: r => if x = 0 then orL r else x
theorem or_c (l : List Int) (ad : Option Addr) (c : Nat) (μ : Mem) (w : World) (hμ : Imm μ w) (hl : Sl μ ad c l) :
    Calls Try.prog 36 #[.slice ad l.length c] w (RetS w (.int .i64 (orL l))) := by
  have hS := St.start w μ hμ
  have hlc : l.length ≤ 9223372036854775807 := by have := hl.1; have := hl.2.1; simp only [maxLen] at this; omega
  refine calls_start 18 [.slice ad l.length c] Try.func36 rfl Try.ntmps36 rfl rfl ?_
  refine CW.seq fun K0 hK0 => ?_
  refine CW.region [0] rfl ?_
  refine LW.ex rfl rfl rfl rfl (Ex.assign rfl) hS.rd ?_
  refine LW.nil fun aa ha => hK0 _ _ _ ?_ aa ha
  refine CW.seq fun K1 hK1 => ?_
  refine CW.region [0] rfl ?_
  refine LW.ex rfl rfl rfl rfl (Ex.assign rfl) hS.rd ?_
  refine LW.nil fun aa ha => hK1 _ _ _ ?_ aa ha
  refine CW.seq fun K2o hK2o => ?_
  refine CW.seq fun K2 hK2 => ?_
  refine CW.region [0, 1, 2] rfl ?_
  refine LW.ex rfl rfl rfl rfl (Ex.move rfl) hS.rd ?_
  refine LW.ex rfl rfl rfl rfl (Ex.lenSl rfl Try.underlying68 rfl) hS.rd ?_
  refine LW.ex rfl rfl rfl rfl (Ex.move rfl) hS.rd ?_
  refine LW.nil fun aa ha => hK2 _ _ _ ?_ aa ha
  refine CW.block ?_
  refine CW.loop (fun q m w1 => ∃ (i : Nat), i ≤ l.length ∧ q = l.length - i ∧ m = [(3, .int .i64 0), (6, .slice ad l.length c), (7, .int .i64 l.length), (8, .int .i64 i)] ∧ St w w1 μ [] ∧ orL l = orL (l.drop i)) l.length
    ⟨0, by omega, by omega, rfl, hS, rfl⟩ ⟨rfl, rfl, rfl, rfl, trivial⟩ ?_
  clear hS
  rintro q m w1 ⟨i, hi, hq, rfl, hS, he⟩
  by_cases h1 : i < l.length
  · skip
    refine CW.seq fun K3 hK3 => ?_
    refine CW.region [0] rfl ?_
    refine LW.ex rfl rfl rfl rfl (Ex.lss rfl rfl (by first | exact decide_eq_true (by omega) | exact decide_eq_false (by omega) | rfl)) hS.rd ?_
    refine LW.nil fun aa ha => hK3 _ _ _ ?_ aa ha
    refine CW.seq fun Kc hKc => ?_
    refine CW.yes rfl ?_
    refine CW.skip fun aa ha => hKc _ _ _ ?_ aa ha
    obtain ⟨bl, ol, rfl, hc⟩ := hl.at h1
    rw [List.drop_eq_getElem_cons h1] at he
    refine CW.seq fun Kb hKb => ?_
    refine CW.block ?_
    refine CW.seq fun K4 hK4 => ?_
    refine CW.region [0, 1, 2] rfl ?_
    refine LW.ex rfl rfl rfl rfl (Ex.indexSl Try.underlying68 ti3 rfl rfl rfl (by omega)) hS.rd ?_
    refine LW.ex rfl rfl rfl rfl (Ex.load1 ti3 rfl rfl (by first | exact obT rfl | exact Rd.imm ‹_› | exact slT ‹_›)) hS.rd ?_
    refine LW.ex rfl rfl rfl rfl (Ex.assign rfl) hS.rd ?_
    refine LW.nil fun aa ha => hK4 _ _ _ ?_ aa ha
    by_cases hz : l[i] = 0
    · skip
      refine CW.seq fun K5 hK5 => ?_
      refine CW.region [0, 1, 2] rfl ?_
      refine LW.ex rfl rfl rfl rfl (Ex.move rfl) hS.rd ?_
      refine LW.ex rfl rfl rfl rfl (Ex.move rfl) hS.rd ?_
      refine LW.ex rfl rfl rfl rfl (Ex.neq rfl rfl (by first | exact decide_eq_true (by omega) | exact decide_eq_false (by omega) | rfl)) hS.rd ?_
      refine LW.nil fun aa ha => hK5 _ _ _ ?_ aa ha
      refine CW.no rfl (CW.skip fun aa ha => hKb _ _ _ ?_ aa ha)
      refine CW.region [0, 1] rfl ?_
      refine LW.ex rfl rfl rfl rfl (Ex.add rfl rfl (by first | exact inc64 (by omega) | exact addN (by omega) | exact w64 (by omega) (by omega))) hS.rd ?_
      refine LW.ex rfl rfl rfl rfl (Ex.move rfl) hS.rd ?_
      refine LW.nil fun aa ha => ?_
      refine ⟨l.length - (i + 1), _, by omega, ⟨i + 1, by omega, rfl, rfl, hS, ?_⟩, ha.sub ⟨rfl, rfl, rfl, rfl, trivial⟩⟩
      rw [he, orL, if_pos hz]
    · skip
      refine CW.seq fun K5 hK5 => ?_
      refine CW.region [0, 1, 2] rfl ?_
      refine LW.ex rfl rfl rfl rfl (Ex.move rfl) hS.rd ?_
      refine LW.ex rfl rfl rfl rfl (Ex.move rfl) hS.rd ?_
      refine LW.ex rfl rfl rfl rfl (Ex.neq rfl rfl (by first | exact decide_eq_true (by omega) | exact decide_eq_false (by omega) | rfl)) hS.rd ?_
      refine LW.nil fun aa ha => hK5 _ _ _ ?_ aa ha
      refine CW.yes rfl ?_
      refine CW.seq fun K6 hK6 => ?_
      refine CW.region [0, 1] rfl ?_
      refine LW.ex rfl rfl rfl rfl (Ex.move rfl) hS.rd ?_
      refine LW.ex rfl rfl rfl rfl (Ex.assign rfl) hS.rd ?_
      refine LW.nil fun aa ha => hK6 _ _ _ ?_ aa ha
      refine CW.ret fun aa ha => ?_
      refine ret_one ha Try.results36 rfl ?_
      rw [he, orL, if_neg hz]; exact hS.retS
  · skip
    refine CW.seq fun K3 hK3 => ?_
    refine CW.region [0] rfl ?_
    refine LW.ex rfl rfl rfl rfl (Ex.lss rfl rfl (by first | exact decide_eq_true (by omega) | exact decide_eq_false (by omega) | rfl)) hS.rd ?_
    refine LW.nil fun aa ha => hK3 _ _ _ ?_ aa ha
    refine CW.seq fun Kc hKc => ?_
    refine CW.no rfl ?_
    refine CW.exit fun aa ha => hK2o _ _ _ ?_ aa ha
    refine CW.seq fun K8 hK8 => ?_
    refine CW.region [0, 1] rfl ?_
    refine LW.ex rfl rfl rfl rfl (Ex.move rfl) hS.rd ?_
    refine LW.ex rfl rfl rfl rfl (Ex.assign rfl) hS.rd ?_
    refine LW.nil fun aa ha => hK8 _ _ _ ?_ aa ha
    refine CW.ret fun aa ha => ?_
    refine ret_one ha Try.results36 rfl ?_
    rw [he, List.drop_of_length_le (by omega)]; exact hS.retS

end Go.Proofs.Ytgbdfgifgngijaa
