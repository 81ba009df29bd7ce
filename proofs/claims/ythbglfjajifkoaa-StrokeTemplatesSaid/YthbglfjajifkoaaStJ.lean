/-
  Strokes: the walk of slices.SortFunc and of stroke.Match.
-/
import Derived.Test.YthbglfjajifkoaaStI
namespace Go.Proofs.Ythbglfjajifkoaa
open Go.RowKit Sy Go.Sort Go.Shelf

theorem wrapU {n : Nat} (h : n < 4611686018427387904) : IntKind.u64.wrap (n : Int) = n := by simp [IntKind.wrap, IntKind.bits, IntKind.signed]; omega

theorem sortFunc_c (f : Nat) (cf : Ch → Ch → Int) (hO : SWO (ltOf cf)) (hf : Callable Try.prog f) (hcf : ∀ x y W, Calls Try.prog f #[chV x, chV y] W (RetS W (.int .i64 (cf x y))))
    (blk cap : Nat) (d : Array Ch) (w : World) (hH : HoldsK chL 2 w blk 0 d) (hblk : blk < w.heap.size) (hsz : d.size < 4611686018427387904) :
    Calls Try.prog 24 #[.slice (some ⟨blk, 0, none⟩) d.size cap, .func (.func f) #[] #[]] w fun e w' => e = .returned (.tuple #[]) ∧ ∃ d' n os, PermIn 0 d.size d d' ∧ SortedIn (ltOf cf) 0 d.size d' ∧ w' = sortWorldK chL 2 w blk 0 n d' os := by
  have hlim : Lib.bitLen d.size < 4611686018427387904 := Nat.lt_of_le_of_lt (Lib.bitLen_le d.size 62 (by omega) (by omega)) (by omega)
  have hp := AnyQ.pdqsortCmpFunc_all (P := Try.prog) (ρ := Try.pdqL_ren) Try.pdqL 2 Try.isAgg55 Try.sizeOf55 chL cf f #[] hO blk 0 cap d w (fun args w => hf.run args w) (cmpLays_of hcf) ⟨fun _ => rfl, fun x v hv => by simp [chL] at hv; rcases hv with rfl | rfl <;> rfl, hH, hblk⟩
    (d.size + 1) 0 d.size (Lib.bitLen d.size) d w (by omega) rfl (SWK.start hH) (Nat.zero_le _) (Nat.le_refl _) hsz hlim (Or.inl rfl)
  have hb : Calls Try.prog 36 #[.int .u64 (d.size : Int)] w fun e w' => ∃ v, e = .returned v ∧ (v = .int .i64 (Lib.bitLen d.size) ∧ w' = w) := by
    have h := Any.bits_Len Try.bitsL (d.size : Int) w (by omega) (by omega)
    rw [Int.toNat_natCast] at h
    exact h.mono fun e w' ⟨he, hw⟩ => ⟨_, he, rfl, hw⟩
  have hq : Calls Try.prog 35 #[.slice (some ⟨blk, 0, none⟩) d.size cap, .int .i64 0, .int .i64 d.size, .int .i64 (Lib.bitLen d.size), .func (.func f) #[] #[]] w fun e w' => ∃ v, e = .returned v ∧ (v = .tuple #[] ∧ ∃ d' n os, PermIn 0 d.size d d' ∧ SortedIn (ltOf cf) 0 d.size d' ∧ w' = sortWorldK chL 2 w blk 0 n d' os) := by
    refine hp.mono fun e w' ⟨he, n, os, hw⟩ => ⟨_, he, rfl, ?_⟩
    have h := pdq_sorts (ltOf cf) hO d 0 d.size (Lib.bitLen d.size) true true (Nat.zero_le _) (Nat.le_refl _) (Or.inl rfl)
    exact ⟨_, n, os, h.1, h.2, hw⟩
  have hS := St.start w (fun _ => none) (fun _ _ h => by cases h)
  refine calls_start 14 [.slice (some ⟨blk, 0, none⟩) d.size cap, .func (.func f) #[] #[]] Try.func24 rfl Try.ntmps24 rfl rfl ?_
  refine CW.seq fun K0 hK0 => ?_
  refine CW.region [0, 1, 2] rfl ?_
  refine LW.ex rfl rfl rfl rfl (Ex.move rfl) hS.rd ?_
  refine LW.ex rfl rfl rfl rfl (Ex.lenSl rfl Try.underlying35 rfl) hS.rd ?_
  refine LW.ex rfl rfl rfl rfl (Ex.assign rfl) hS.rd ?_
  refine LW.nil fun aa ha => hK0 _ _ _ ?_ aa ha
  refine CW.region [0, 1, 2, 3, 4, 5, 6] rfl ?_
  refine LW.ex rfl rfl rfl rfl (Ex.move rfl) hS.rd ?_
  refine LW.ex rfl rfl rfl rfl (Ex.move rfl) hS.rd ?_
  refine LW.ex rfl rfl rfl rfl (Ex.move rfl) hS.rd ?_
  refine LW.ex rfl rfl rfl rfl (Ex.conv Try.underlying3 Try.underlying80 rfl (wrapU hsz)) hS.rd ?_
  refine LW.hv rfl rfl rfl rfl (Hv.call rfl rfl rfl cb36 hb) fun v w11 hv => ?_
  obtain ⟨rfl, rfl⟩ := hv
  refine LW.ex rfl rfl rfl rfl (Ex.move rfl) hS.rd ?_
  refine LW.hv rfl rfl rfl rfl (Hv.call rfl rfl rfl cb35 hq) fun v w13 hv => ?_
  obtain ⟨rfl, hv⟩ := hv
  refine LW.nil fun aa ha => ?_
  exact end_none ha Try.results24 ⟨rfl, hv⟩
end Go.Proofs.Ythbglfjajifkoaa
