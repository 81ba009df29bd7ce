/-
  Areas: the walk of slices.SortFunc, for a comparison that may capture.
-/
import Derived.Test.YtphgjongflkolaaArG
namespace Go.Proofs.Ytphgjongflkolaa
open Go.RowKit Sy Go.Sort Go.Shelf

theorem wrapU {n : Nat} (h : n < 4611686018427387904) : IntKind.u64.wrap (n : Int) = n := by simp [IntKind.wrap, IntKind.bits, IntKind.signed]; omega

theorem sortFunc_c (f : Nat) (cb : Array Value) (cf : Ch → Ch → Int) (hO : SWO (ltOf cf)) (hf : Callable Try.prog f) (blk cap : Nat) (d : Array Ch) (w : World)
    (hcf : CmpLays Try.prog f cb chL 2 cf blk 0 d.size w) (hH : HoldsK chL 2 w blk 0 d) (hblk : blk < w.heap.size) (hsz : d.size < 4611686018427387904) :
    Calls Try.prog 35 #[.slice (some ⟨blk, 0, none⟩) d.size cap, .func (.func f) #[] cb] w fun e w' => e = .returned (.tuple #[]) ∧ ∃ d' n os, PermIn 0 d.size d d' ∧ SortedIn (ltOf cf) 0 d.size d' ∧ w' = sortWorldK chL 2 w blk 0 n d' os := by
  have hlim : Lib.bitLen d.size < 4611686018427387904 := Nat.lt_of_le_of_lt (Lib.bitLen_le d.size 62 (by omega) (by omega)) (by omega)
  have hp := AnyQ.pdqsortCmpFunc_all (P := Try.prog) (ρ := Try.pdqL_ren) Try.pdqL 2 Try.isAgg67 Try.sizeOf67 chL cf f cb hO blk 0 cap d w (fun args w => hf.run args w) hcf ⟨fun _ => rfl, fun x v hv => by simp [chL] at hv; rcases hv with rfl | rfl <;> rfl, hH, hblk⟩
    (d.size + 1) 0 d.size (Lib.bitLen d.size) d w (by omega) rfl (SWK.start hH) (Nat.zero_le _) (Nat.le_refl _) hsz hlim (Or.inl rfl)
  have hb : Calls Try.prog 65 #[.int .u64 (d.size : Int)] w fun e w' => ∃ v, e = .returned v ∧ (v = .int .i64 (Lib.bitLen d.size) ∧ w' = w) := by
    have h := Any.bits_Len Try.bitsL (d.size : Int) w (by omega) (by omega)
    rw [Int.toNat_natCast] at h
    exact h.mono fun e w' ⟨he, hw⟩ => ⟨_, he, rfl, hw⟩
  have hq : Calls Try.prog 64 #[.slice (some ⟨blk, 0, none⟩) d.size cap, .int .i64 0, .int .i64 d.size, .int .i64 (Lib.bitLen d.size), .func (.func f) #[] cb] w fun e w' => ∃ v, e = .returned v ∧ (v = .tuple #[] ∧ ∃ d' n os, PermIn 0 d.size d d' ∧ SortedIn (ltOf cf) 0 d.size d' ∧ w' = sortWorldK chL 2 w blk 0 n d' os) := by
    refine hp.mono fun e w' ⟨he, n, os, hw⟩ => ⟨_, he, rfl, ?_⟩
    have h := pdq_sorts (ltOf cf) hO d 0 d.size (Lib.bitLen d.size) true true (Nat.zero_le _) (Nat.le_refl _) (Or.inl rfl)
    exact ⟨_, n, os, h.1, h.2, hw⟩
  have hS := St.start w (fun _ => none) (fun _ _ h => by cases h)
  refine calls_start 14 [.slice (some ⟨blk, 0, none⟩) d.size cap, .func (.func f) #[] cb] Try.func35 rfl Try.ntmps35 rfl rfl ?_
  refine CW.seq fun K0 hK0 => ?_
  refine CW.region [0, 1, 2] rfl ?_
  refine LW.ex rfl rfl rfl rfl (Ex.move rfl) hS.rd ?_
  refine LW.ex rfl rfl rfl rfl (Ex.lenSl rfl Try.underlying39 rfl) hS.rd ?_
  refine LW.ex rfl rfl rfl rfl (Ex.assign rfl) hS.rd ?_
  refine LW.nil fun aa ha => hK0 _ _ _ ?_ aa ha
  refine CW.region [0, 1, 2, 3, 4, 5, 6] rfl ?_
  refine LW.ex rfl rfl rfl rfl (Ex.move rfl) hS.rd ?_
  refine LW.ex rfl rfl rfl rfl (Ex.move rfl) hS.rd ?_
  refine LW.ex rfl rfl rfl rfl (Ex.move rfl) hS.rd ?_
  refine LW.ex rfl rfl rfl rfl (Ex.conv Try.underlying3 Try.underlying116 rfl (wrapU hsz)) hS.rd ?_
  refine LW.hv rfl rfl rfl rfl (Hv.call rfl rfl rfl cb65 hb) fun v w11 hv => ?_
  obtain ⟨rfl, rfl⟩ := hv
  refine LW.ex rfl rfl rfl rfl (Ex.move rfl) hS.rd ?_
  refine LW.hv rfl rfl rfl rfl (Hv.call rfl rfl rfl cb64 hq) fun v w13 hv => ?_
  obtain ⟨rfl, hv⟩ := hv
  refine LW.nil fun aa ha => ?_
  exact end_none ha Try.results35 ⟨rfl, hv⟩
end Go.Proofs.Ytphgjongflkolaa
