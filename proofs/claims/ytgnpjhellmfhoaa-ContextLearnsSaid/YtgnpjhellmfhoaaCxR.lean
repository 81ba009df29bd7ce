/-
  Context: the walks of Words and Cost, in the program and in the reference.
-/
import Derived.Test.YtgnpjhellmfhoaaCxQ
namespace Go.Proofs.Ytgnpjhellmfhoaa
open Go.RowKit Sy


def lkAt (g : Grf) (i : Int) : Link := g.Links[i.toNat]?.getD default
def wordAt (x : Lat) (g : Grf) (i : Int) : Int := (edAt x (lkAt g i).Label.toNat).Word
theorem lkAt_of {g : Grf} {i : Int} (h0 : 0 ≤ i) (h : i < g.Links.length) : lkAt g i = g.Links[i.toNat]'(by omega) := by unfold lkAt; rw [List.getElem?_eq_getElem (by omega)]; rfl
def LinksIn (x : Lat) (g : Grf) (ls : List Int) : Prop := (∀ i ∈ ls, 0 ≤ i ∧ i < g.Links.length) ∧ ∀ k ∈ g.Links, 0 ≤ k.Label ∧ k.Label < x.Edges.length
set_option maxRecDepth 100000 in
theorem cwords_c (x : Lat) (g : Grf) (ls : List Int) (C : Int) (hi : LinksIn x g ls) (hls : ls.length ≤ 1000000) (a3 a4 a5 : Option Addr) (c3 c4 c5 : Nat) (μ : Mem) (w : World) (hμ : Imm μ w) (hxl : Sl μ a3 c3 x.Edges) (hgl : Sl μ a4 c4 g.Links) (hcl : Sl μ a5 c5 ls) :
    Calls Try.prog 19 #[.agg #[.int .i64 x.N, .slice a3 x.Edges.length c3], .agg #[.int .i64 g.N, .slice a4 g.Links.length c4], .agg #[.slice a5 ls.length c5, .int .i64 C]] w (RetV w μ (IsSl (ls.map (wordAt x g)))) := by
  have hS := St.start w μ hμ
  refine calls_start 33 [.agg #[.int .i64 x.N, .slice a3 x.Edges.length c3], .agg #[.int .i64 g.N, .slice a4 g.Links.length c4], .agg #[.slice a5 ls.length c5, .int .i64 C]] Try.func19 rfl Try.ntmps19 rfl rfl ?_
  refine CW.seq fun K1 hK1 => ?_
  refine CW.region [0, 1, 2, 3] rfl ?_
  refine LW.hv rfl rfl rfl rfl (Hv.boxS hS rfl rfl) fun v w3 ⟨b3, hv, hb3, hS⟩ => ?_
  subst hv
  refine LW.hv rfl rfl rfl rfl (Hv.boxS hS rfl rfl) fun v w4 ⟨b4, hv, hb4, hS⟩ => ?_
  subst hv
  refine LW.hv rfl rfl rfl rfl (Hv.boxS hS rfl rfl) fun v w5 ⟨b5, hv, hb5, hS⟩ => ?_
  subst hv
  refine LW.ex rfl rfl rfl rfl (Ex.assign rfl) hS.rd ?_
  refine LW.nil fun aa ha => hK1 _ _ _ ?_ aa ha
  refine CW.seq fun K2 hK2 => ?_
  refine CW.region [0] rfl ?_
  refine LW.ex rfl rfl rfl rfl (Ex.assign rfl) hS.rd ?_
  refine LW.nil fun aa ha => hK2 _ _ _ ?_ aa ha
  refine CW.seq fun K3 hK3 => ?_
  refine CW.seq fun K4 hK4 => ?_
  refine CW.region [0, 1, 2, 3] rfl ?_
  refine LW.ex rfl rfl rfl rfl (Ex.fieldO 0 Try.underlying58 rfl rfl ti31 rfl) hS.rd ?_
  refine LW.ex rfl rfl rfl rfl (Ex.load1 ti31 rfl rfl (by first | exact obT rfl | exact Rd.imm ‹_› | exact slT ‹_›)) hS.rd ?_
  refine LW.ex rfl rfl rfl rfl (Ex.lenSl rfl Try.underlying31 rfl) hS.rd ?_
  refine LW.ex rfl rfl rfl rfl (Ex.move rfl) hS.rd ?_
  refine LW.nil fun aa ha => hK4 _ _ _ ?_ aa ha
  refine CW.block ?_
  have hS := nil_sl 3 1 hS
  refine CW.loop (fun qq frm wl3 => ∃ (i : Nat) (ad : Option Addr) (c : Nat), i ≤ ls.length ∧ qq = ls.length - i ∧ frm = [(3, .pointer (some ⟨b3, 0, none⟩)), (4, .pointer (some ⟨b4, 0, none⟩)), (7, .slice ad i c), (11, .slice a5 ls.length c5), (12, .int .i64 ls.length), (13, .int .i64 i)] ∧ St w wl3 μ [Own.sl ad i c 3 1 (((ls.take i).map (wordAt x g)).map fun z => Value.int .i64 z), Own.obj b5 [.slice a5 ls.length c5, .int .i64 C] 58, Own.obj b4 [.int .i64 g.N, .slice a4 g.Links.length c4] 46, Own.obj b3 [.int .i64 x.N, .slice a3 x.Edges.length c3] 38]) _ ⟨0, none, 0, (by first | omega | (simp; done) | (simp; omega)), rfl, rfl, hS⟩ ⟨rfl, rfl, rfl, rfl, rfl, rfl, trivial⟩ ?_
  clear hS
  rintro qq frm wl3 ⟨i, ad, c, hi3, hq, rfl, hS⟩
  refine CW.seq fun K5 hK5 => ?_
  refine CW.region [0] rfl ?_
  refine LW.ex rfl rfl rfl rfl (Ex.lss rfl rfl rfl) hS.rd ?_
  refine LW.splitB (fun h3_0 => ?_) (fun h3_0 => ?_)
  · have h3_0 := of_decide_eq_true h3_0
    refine LW.nil fun aa ha => hK5 _ _ _ ?_ aa ha
    refine CW.seq fun K6 hK6 => ?_
    refine CW.yes rfl ?_
    refine CW.skip fun aa ha => hK6 _ _ _ ?_ aa ha
    refine CW.seq fun K7 hK7 => ?_
    refine CW.block ?_
    refine CW.seq fun K8 hK8 => ?_
    have hi2 : i < ls.length := by omega
    have hli := hi.1 _ (List.getElem_mem hi2)
    obtain ⟨j, hj⟩ : ∃ j : Nat, ls[i] = j := ⟨ls[i].toNat, by omega⟩
    have hj2 : j < g.Links.length := by omega
    have hlb := hi.2 _ (List.getElem_mem hj2)
    obtain ⟨e, he⟩ : ∃ e : Nat, g.Links[j].Label = e := ⟨g.Links[j].Label.toNat, by omega⟩
    have he2 : e < x.Edges.length := by omega
    have hwa : wordAt x g ls[i] = x.Edges[e].Word := by unfold wordAt; rw [lkAt_of (by omega) (by omega)]; simp only [hj, Int.toNat_natCast, he]; rw [edAt_of he2]
    obtain ⟨bl, ol, rfl, k0⟩ := hcl.at hi2
    rw [hj] at k0
    obtain ⟨bl2, ol2, rfl, q0, q1, q2, q3⟩ := hgl.at hj2
    rw [he] at q2
    obtain ⟨bl3, ol3, rfl, r0, r1, r2, r3⟩ := hxl.at he2
    refine CW.region [0, 1, 2] rfl ?_
    refine LW.ex rfl rfl rfl rfl (Ex.indexSl Try.underlying31 ti3 rfl rfl rfl (by omega)) hS.rd ?_
    refine LW.ex rfl rfl rfl rfl (Ex.load1 ti3 rfl rfl (by first | exact obT rfl | exact Rd.imm ‹_› | exact slT ‹_›)) hS.rd ?_
    refine LW.ex rfl rfl rfl rfl (Ex.assign rfl) hS.rd ?_
    refine LW.nil fun aa ha => hK8 _ _ _ ?_ aa ha
    have hS := hS.drew
    refine CW.draw 13 (.ex 0 <| .ex 1 <| .ex 2 <| .ex 3 <| .ex 4 <| .ex 5 <| .ex 6 <| .ex 7 <| .ex 8 <| .ex 9 <| .ex 10 <| .ex 11 <| .one 12 <| .done) [13, 14] (Rd _ _) mixed (by kernel_rfl) rfl rfl hS.rd ?_
    refine PW.ex rfl rfl rfl rfl (Ex.move rfl) ?_
    refine PW.ex rfl rfl rfl rfl (Ex.fieldO 1 Try.underlying38 rfl rfl ti36 rfl) ?_
    refine PW.ex rfl rfl rfl rfl (Ex.load1 ti36 rfl rfl (by first | exact obT rfl | exact Rd.imm ‹_› | exact slT ‹_›)) ?_
    refine PW.ex rfl rfl rfl rfl (Ex.fieldO 1 Try.underlying46 rfl rfl ti44 rfl) ?_
    refine PW.ex rfl rfl rfl rfl (Ex.load1 ti44 rfl rfl (by first | exact obT rfl | exact Rd.imm ‹_› | exact slT ‹_›)) ?_
    refine PW.ex rfl rfl rfl rfl (Ex.move rfl) ?_
    refine PW.ex rfl rfl rfl rfl (Ex.indexSl Try.underlying44 ti66 rfl rfl rfl (by omega)) ?_
    refine PW.ex rfl rfl rfl rfl (Ex.fieldO 2 Try.underlying66 rfl rfl ti3 rfl) ?_
    refine PW.ex rfl rfl rfl rfl (Ex.load1 ti3 rfl rfl (by first | exact obT rfl | exact Rd.imm ‹_› | exact slT ‹_›)) ?_
    refine PW.ex rfl rfl rfl rfl (Ex.indexSl Try.underlying36 ti43 rfl rfl rfl (by omega)) ?_
    refine PW.ex rfl rfl rfl rfl (Ex.fieldO 2 Try.underlying43 rfl rfl ti3 rfl) ?_
    refine PW.ex rfl rfl rfl rfl (Ex.load1 ti3 rfl rfl (by first | exact obT rfl | exact Rd.imm ‹_› | exact slT ‹_›)) ?_
    refine PW.hv rfl rfl rfl rfl (Hv.buildSl hS Try.underlying31 ti3 rfl rfl rfl rfl rfl rfl) (fun _ _ ⟨_, _, _, h⟩ => h.rd.tail) fun v w29 ⟨b29, hv, hb29, hS⟩ => ?_
    subst hv
    refine PW.nil ?_
    refine LW.hv rfl rfl rfl rfl (Hv.append (k := 1) rfl Try.underlying31 ti3 rfl hS rfl rfl rfl rfl (Rd.objAll (k := 0) rfl hS.rd) (by simp [Value.oneCell']) (by unfold maxLen; omega) (by omega)) fun v w30 ⟨ad30, c30, hv, hS⟩ => ?_
    subst hv
    dsimp only [List.set] at hS
    have hS := hS.drop 0 rfl
    dsimp only [List.eraseIdx] at hS
    rw [show (((ls.take i).map (wordAt x g)).map fun z => Value.int .i64 z) ++ [Value.int .i64 x.Edges[e].Word] = (((ls.take (i + 1)).map (wordAt x g)).map fun z => Value.int .i64 z) by rw [List.take_succ_eq_append_getElem hi2, List.map_append, List.map_append, ← hwa]; rfl] at hS
    refine LW.ex rfl rfl rfl rfl (Ex.assign rfl) hS.rd ?_
    refine LW.nil fun aa ha => hK7 _ _ _ ?_ aa ha
    refine CW.region [0, 1] rfl ?_
    refine LW.ex rfl rfl rfl rfl (Ex.add rfl rfl (by first | exact inc64 (by omega) | exact addN (by omega) | exact w64 (by omega) (by omega))) hS.rd ?_
    refine LW.ex rfl rfl rfl rfl (Ex.move rfl) hS.rd ?_
    refine LW.nil fun aa ha => ?_
    refine ⟨_, _, ?m3, ⟨i + 1, ad30, c30, (by first | omega | (simp; done) | (simp; omega)), rfl, rfl, hS⟩, ha.sub ⟨rfl, rfl, rfl, rfl, rfl, rfl, trivial⟩⟩
    case m3 => omega
  · have h3_0 := of_decide_eq_false h3_0
    refine LW.nil fun aa ha => hK5 _ _ _ ?_ aa ha
    refine CW.seq fun K9 hK9 => ?_
    refine CW.no rfl ?_
    refine CW.exit fun aa ha => hK3 _ _ _ ?_ aa ha
    refine CW.seq fun K10 hK10 => ?_
    refine CW.region [0, 1] rfl ?_
    refine LW.ex rfl rfl rfl rfl (Ex.move rfl) hS.rd ?_
    refine LW.ex rfl rfl rfl rfl (Ex.assign rfl) hS.rd ?_
    refine LW.nil fun aa ha => hK10 _ _ _ ?_ aa ha
    refine CW.ret fun aa ha => ?_
    refine ret_one ha Try.results19 rfl ?_
    have hie : i = ls.length := by omega
    obtain ⟨bs, μ1, hmm1, hS, hφ⟩ := hS.shut 0 rfl
    refine ⟨_, μ1, rfl, hS.below, hmm1, hS.imm, ad, c, ?_, Sl.of_own hφ ?_ (by rw [List.length_map, hie])⟩
    · rw [List.length_map, hie]
    · rw [hie, List.take_length]; exact RepL.ints _ _
set_option maxRecDepth 100000 in
theorem rwords2_c (x : Lat) (g : Grf) (ls : List Int) (C : Int) (hi : LinksIn x g ls) (hls : ls.length ≤ 1000000) (a3 a4 a5 : Option Addr) (c3 c4 c5 : Nat) (μ : Mem) (w : World) (hμ : Imm μ w) (hxl : Sl μ a3 c3 x.Edges) (hgl : Sl μ a4 c4 g.Links) (hcl : Sl μ a5 c5 ls) :
    Calls Try.prog 20 #[.agg #[.int .i64 x.N, .slice a3 x.Edges.length c3], .agg #[.int .i64 g.N, .slice a4 g.Links.length c4], .agg #[.slice a5 ls.length c5, .int .i64 C]] w (RetV w μ (IsSl (ls.map (wordAt x g)))) := by
  have hS := St.start w μ hμ
  refine calls_start 36 [.agg #[.int .i64 x.N, .slice a3 x.Edges.length c3], .agg #[.int .i64 g.N, .slice a4 g.Links.length c4], .agg #[.slice a5 ls.length c5, .int .i64 C]] Try.func20 rfl Try.ntmps20 rfl rfl ?_
  refine CW.seq fun K11 hK11 => ?_
  refine CW.region [0, 1, 2, 3] rfl ?_
  refine LW.hv rfl rfl rfl rfl (Hv.boxS hS rfl rfl) fun v w3 ⟨b3, hv, hb3, hS⟩ => ?_
  subst hv
  refine LW.hv rfl rfl rfl rfl (Hv.boxS hS rfl rfl) fun v w4 ⟨b4, hv, hb4, hS⟩ => ?_
  subst hv
  refine LW.hv rfl rfl rfl rfl (Hv.boxS hS rfl rfl) fun v w5 ⟨b5, hv, hb5, hS⟩ => ?_
  subst hv
  refine LW.ex rfl rfl rfl rfl (Ex.assign rfl) hS.rd ?_
  refine LW.nil fun aa ha => hK11 _ _ _ ?_ aa ha
  refine CW.seq fun K12 hK12 => ?_
  refine CW.region [0, 1] rfl ?_
  refine LW.hv rfl rfl rfl rfl (Hv.buildSl hS Try.underlying31 ti3 rfl rfl rfl rfl rfl rfl) fun v w9 ⟨b9, hv, hb9, hS⟩ => ?_
  subst hv
  refine LW.ex rfl rfl rfl rfl (Ex.assign rfl) hS.rd ?_
  refine LW.nil fun aa ha => hK12 _ _ _ ?_ aa ha
  refine CW.seq fun K13 hK13 => ?_
  refine CW.seq fun K14 hK14 => ?_
  refine CW.region [0] rfl ?_
  refine LW.ex rfl rfl rfl rfl (Ex.assign rfl) hS.rd ?_
  refine LW.nil fun aa ha => hK14 _ _ _ ?_ aa ha
  refine CW.block ?_
  have hS : St w _ μ (_ :: _) := hS.row_sl (k := 0) rfl 0 1 rfl (by simp [maxLen])
  refine CW.loop (fun qq frm wl3 => ∃ (i : Nat) (ad : Option Addr) (c : Nat), i ≤ ls.length ∧ qq = ls.length - i ∧ frm = [(3, .pointer (some ⟨b3, 0, none⟩)), (4, .pointer (some ⟨b4, 0, none⟩)), (5, .pointer (some ⟨b5, 0, none⟩)), (7, .slice ad i c), (8, .int .i64 i)] ∧ St w wl3 μ [Own.sl ad i c 3 1 (((ls.take i).map (wordAt x g)).map fun z => Value.int .i64 z), Own.obj b5 [.slice a5 ls.length c5, .int .i64 C] 58, Own.obj b4 [.int .i64 g.N, .slice a4 g.Links.length c4] 46, Own.obj b3 [.int .i64 x.N, .slice a3 x.Edges.length c3] 38]) _ ⟨0, some ⟨b9, 0, none⟩, 0, (by first | omega | (simp; done) | (simp; omega)), rfl, rfl, hS⟩ ⟨rfl, rfl, rfl, rfl, rfl, trivial⟩ ?_
  clear hS
  rintro qq frm wl3 ⟨i, ad, c, hi3, hq, rfl, hS⟩
  refine CW.seq fun K15 hK15 => ?_
  refine CW.seq fun K16 hK16 => ?_
  refine CW.region [0, 1, 2, 3, 4] rfl ?_
  refine LW.ex rfl rfl rfl rfl (Ex.move rfl) hS.rd ?_
  refine LW.ex rfl rfl rfl rfl (Ex.fieldO 0 Try.underlying58 rfl rfl ti31 rfl) hS.rd ?_
  refine LW.ex rfl rfl rfl rfl (Ex.load1 ti31 rfl rfl (by first | exact obT rfl | exact Rd.imm ‹_› | exact slT ‹_›)) hS.rd ?_
  refine LW.ex rfl rfl rfl rfl (Ex.lenSl rfl Try.underlying31 rfl) hS.rd ?_
  refine LW.ex rfl rfl rfl rfl (Ex.lss rfl rfl rfl) hS.rd ?_
  refine LW.splitB (fun h3_4 => ?_) (fun h3_4 => ?_)
  · have h3_4 := of_decide_eq_true h3_4
    refine LW.nil fun aa ha => hK16 _ _ _ ?_ aa ha
    refine CW.yes rfl ?_
    refine CW.skip fun aa ha => hK15 _ _ _ ?_ aa ha
    refine CW.seq fun K17 hK17 => ?_
    refine CW.block ?_
    have hi2 : i < ls.length := by omega
    have hli := hi.1 _ (List.getElem_mem hi2)
    obtain ⟨j, hj⟩ : ∃ j : Nat, ls[i] = j := ⟨ls[i].toNat, by omega⟩
    have hj2 : j < g.Links.length := by omega
    have hlb := hi.2 _ (List.getElem_mem hj2)
    obtain ⟨e, he⟩ : ∃ e : Nat, g.Links[j].Label = e := ⟨g.Links[j].Label.toNat, by omega⟩
    have he2 : e < x.Edges.length := by omega
    have hwa : wordAt x g ls[i] = x.Edges[e].Word := by unfold wordAt; rw [lkAt_of (by omega) (by omega)]; simp only [hj, Int.toNat_natCast, he]; rw [edAt_of he2]
    obtain ⟨bl, ol, rfl, k0⟩ := hcl.at hi2
    rw [hj] at k0
    obtain ⟨bl2, ol2, rfl, q0, q1, q2, q3⟩ := hgl.at hj2
    rw [he] at q2
    obtain ⟨bl3, ol3, rfl, r0, r1, r2, r3⟩ := hxl.at he2
    have hS := hS.drew
    refine CW.draw 17 (.ex 0 <| .ex 1 <| .ex 2 <| .ex 3 <| .ex 4 <| .ex 5 <| .ex 6 <| .ex 7 <| .ex 8 <| .ex 9 <| .ex 10 <| .ex 11 <| .ex 12 <| .ex 13 <| .ex 14 <| .ex 15 <| .one 16 <| .done) [17, 18] (Rd _ _) mixed (by kernel_rfl) rfl rfl hS.rd ?_
    refine PW.ex rfl rfl rfl rfl (Ex.move rfl) ?_
    refine PW.ex rfl rfl rfl rfl (Ex.fieldO 1 Try.underlying38 rfl rfl ti36 rfl) ?_
    refine PW.ex rfl rfl rfl rfl (Ex.load1 ti36 rfl rfl (by first | exact obT rfl | exact Rd.imm ‹_› | exact slT ‹_›)) ?_
    refine PW.ex rfl rfl rfl rfl (Ex.fieldO 1 Try.underlying46 rfl rfl ti44 rfl) ?_
    refine PW.ex rfl rfl rfl rfl (Ex.load1 ti44 rfl rfl (by first | exact obT rfl | exact Rd.imm ‹_› | exact slT ‹_›)) ?_
    refine PW.ex rfl rfl rfl rfl (Ex.fieldO 0 Try.underlying58 rfl rfl ti31 rfl) ?_
    refine PW.ex rfl rfl rfl rfl (Ex.load1 ti31 rfl rfl (by first | exact obT rfl | exact Rd.imm ‹_› | exact slT ‹_›)) ?_
    refine PW.ex rfl rfl rfl rfl (Ex.move rfl) ?_
    refine PW.ex rfl rfl rfl rfl (Ex.indexSl Try.underlying31 ti3 rfl rfl rfl (by omega)) ?_
    refine PW.ex rfl rfl rfl rfl (Ex.load1 ti3 rfl rfl (by first | exact obT rfl | exact Rd.imm ‹_› | exact slT ‹_›)) ?_
    refine PW.ex rfl rfl rfl rfl (Ex.indexSl Try.underlying44 ti66 rfl rfl rfl (by omega)) ?_
    refine PW.ex rfl rfl rfl rfl (Ex.fieldO 2 Try.underlying66 rfl rfl ti3 rfl) ?_
    refine PW.ex rfl rfl rfl rfl (Ex.load1 ti3 rfl rfl (by first | exact obT rfl | exact Rd.imm ‹_› | exact slT ‹_›)) ?_
    refine PW.ex rfl rfl rfl rfl (Ex.indexSl Try.underlying36 ti43 rfl rfl rfl (by omega)) ?_
    refine PW.ex rfl rfl rfl rfl (Ex.fieldO 2 Try.underlying43 rfl rfl ti3 rfl) ?_
    refine PW.ex rfl rfl rfl rfl (Ex.load1 ti3 rfl rfl (by first | exact obT rfl | exact Rd.imm ‹_› | exact slT ‹_›)) ?_
    refine PW.hv rfl rfl rfl rfl (Hv.buildSl hS Try.underlying31 ti3 rfl rfl rfl rfl rfl rfl) (fun _ _ ⟨_, _, _, h⟩ => h.rd.tail) fun v w33 ⟨b33, hv, hb33, hS⟩ => ?_
    subst hv
    refine PW.nil ?_
    refine LW.hv rfl rfl rfl rfl (Hv.append (k := 1) rfl Try.underlying31 ti3 rfl hS rfl rfl rfl rfl (Rd.objAll (k := 0) rfl hS.rd) (by simp [Value.oneCell']) (by unfold maxLen; omega) (by omega)) fun v w34 ⟨ad34, c34, hv, hS⟩ => ?_
    subst hv
    dsimp only [List.set] at hS
    have hS := hS.drop 0 rfl
    dsimp only [List.eraseIdx] at hS
    rw [show (((ls.take i).map (wordAt x g)).map fun z => Value.int .i64 z) ++ [Value.int .i64 x.Edges[e].Word] = (((ls.take (i + 1)).map (wordAt x g)).map fun z => Value.int .i64 z) by rw [List.take_succ_eq_append_getElem hi2, List.map_append, List.map_append, ← hwa]; rfl] at hS
    refine LW.ex rfl rfl rfl rfl (Ex.assign rfl) hS.rd ?_
    refine LW.nil fun aa ha => hK17 _ _ _ ?_ aa ha
    refine CW.region [0, 1, 2] rfl ?_
    refine LW.ex rfl rfl rfl rfl (Ex.move rfl) hS.rd ?_
    refine LW.ex rfl rfl rfl rfl (Ex.add rfl rfl (by first | exact inc64 (by omega) | exact addN (by omega) | exact w64 (by omega) (by omega))) hS.rd ?_
    refine LW.ex rfl rfl rfl rfl (Ex.assign rfl) hS.rd ?_
    refine LW.nil fun aa ha => ?_
    refine ⟨_, _, ?m3, ⟨i + 1, ad34, c34, (by first | omega | (simp; done) | (simp; omega)), rfl, rfl, hS⟩, ha.sub ⟨rfl, rfl, rfl, rfl, rfl, trivial⟩⟩
    case m3 => omega
  · have h3_4 := of_decide_eq_false h3_4
    refine LW.nil fun aa ha => hK16 _ _ _ ?_ aa ha
    refine CW.no rfl ?_
    refine CW.exit fun aa ha => hK13 _ _ _ ?_ aa ha
    refine CW.seq fun K18 hK18 => ?_
    refine CW.region [0, 1] rfl ?_
    refine LW.ex rfl rfl rfl rfl (Ex.move rfl) hS.rd ?_
    refine LW.ex rfl rfl rfl rfl (Ex.assign rfl) hS.rd ?_
    refine LW.nil fun aa ha => hK18 _ _ _ ?_ aa ha
    refine CW.ret fun aa ha => ?_
    refine ret_one ha Try.results20 rfl ?_
    have hie : i = ls.length := by omega
    obtain ⟨bs, μ1, hmm1, hS, hφ⟩ := hS.shut 0 rfl
    refine ⟨_, μ1, rfl, hS.below, hmm1, hS.imm, ad, c, ?_, Sl.of_own hφ ?_ (by rw [List.length_map, hie])⟩
    · rw [List.length_map, hie]
    · rw [hie, List.take_length]; exact RepL.ints _ _

/-! ### Costs of ways -/
def costGo (x : Lat) (m : Mdl) : Int → Int → Int → List Int → Int × Bool
  | at_, _, sum, [] => if at_ = x.N then (sum, true) else (0, false)
  | at_, p, sum, i :: r => if 0 ≤ i ∧ i < x.Edges.length ∧ (edAt x i.toNat).From = at_ then costGo x m (edAt x i.toNat).To (edAt x i.toNat).Word (sum + ((edAt x i.toNat).Cost + pairC m p (edAt x i.toNat).Word)) r else (0, false)
noncomputable def costR (x : Lat) (m : Mdl) (p : Int) (es : List Int) : Int × Bool := if okM m = true then if fitsC x m.Words.length p = true then costGo x m 0 p 0 es else (0, false) else (0, false)
set_option maxRecDepth 100000 in
set_option maxHeartbeats 1000000 in
theorem ccost_c (x : Lat) (m : Mdl) (p : Int) (es : List Int) (hws : ∀ s ∈ m.Words, s.size ≤ 9223372036854775807) (hsm : ∀ e ∈ x.Edges, -1099511627776 ≤ e.To ∧ e.To ≤ 1099511627776) (hes : es.length ≤ 1000000)
    (a0 a1 a2 a3 a4 : Option Addr) (c0 c1 c2 c3 c4 : Nat) (μ : Mem) (w : World) (hμ : Imm μ w) (hxl : Sl μ a3 c3 x.Edges) (hm0 : Sl μ a0 c0 m.Words) (hm1 : Sl μ a1 c1 m.Counts) (hm2 : Sl μ a2 c2 m.Pairs) (hel : Sl μ a4 c4 es) :
    Calls Try.prog 15 #[.agg #[.int .i64 x.N, .slice a3 x.Edges.length c3], .agg #[.slice a0 m.Words.length c0, .slice a1 m.Counts.length c1, .slice a2 m.Pairs.length c2, .int .i64 m.Back], .int .i64 p, .slice a4 es.length c4] w (RetS w (.tuple #[.int .i64 (costR x m p es).1, .bool (costR x m p es).2])) := by
  have hxll := hxl.1
  have hxlc := hxl.2.1
  simp only [maxLen] at hxlc
  have hS := St.start w μ hμ
  refine calls_start 75 [.agg #[.int .i64 x.N, .slice a3 x.Edges.length c3], .agg #[.slice a0 m.Words.length c0, .slice a1 m.Counts.length c1, .slice a2 m.Pairs.length c2, .int .i64 m.Back], .int .i64 p, .slice a4 es.length c4] Try.func15 rfl Try.ntmps15 rfl rfl ?_
  refine CW.seq fun K19 hK19 => ?_
  refine CW.region [0, 1, 2, 3] rfl ?_
  refine LW.hv rfl rfl rfl rfl (Hv.boxS hS rfl rfl) fun v w4 ⟨b4, hv, hb4, hS⟩ => ?_
  subst hv
  refine LW.hv rfl rfl rfl rfl (Hv.boxS hS rfl rfl) fun v w5 ⟨b5, hv, hb5, hS⟩ => ?_
  subst hv
  refine LW.ex rfl rfl rfl rfl (Ex.assign rfl) hS.rd ?_
  refine LW.ex rfl rfl rfl rfl (Ex.assign rfl) hS.rd ?_
  refine LW.nil fun aa ha => hK19 _ _ _ ?_ aa ha
  refine CW.seq fun K20 hK20 => ?_
  refine CW.seq fun K21 hK21 => ?_
  refine CW.region [0, 1, 2, 3, 4, 5, 6, 7, 8, 9] rfl ?_
  refine LW.ex rfl rfl rfl rfl (Ex.load4c ti34 rfl rfl (by first | exact obT rfl | exact Rd.imm ‹_› | exact slT ‹_›) (by first | exact obT rfl | exact Rd.imm ‹_› | exact slT ‹_›) (by first | exact obT rfl | exact Rd.imm ‹_› | exact slT ‹_›) (by first | exact obT rfl | exact Rd.imm ‹_› | exact slT ‹_›)) hS.rd ?_
  refine LW.hv rfl rfl rfl rfl (Hv.callS hS rfl rfl rfl cb39 (cvalid_c m hws _ _ _ _ _ _ μ _ hS.imm hm0 hm1 hm2)) fun v w16 ⟨hv, hS⟩ => ?_
  subst hv
  refine LW.splitB (fun h1_1 => ?_) (fun h1_1 => ?_)
  · skip
    refine LW.ex rfl rfl rfl rfl (Ex.not rfl rfl) hS.rd ?_
    refine LW.ex rfl rfl rfl rfl (Ex.move rfl) hS.rd ?_
    refine LW.ex rfl rfl rfl rfl (Ex.load2c ti38 rfl rfl (by first | exact obT rfl | exact Rd.imm ‹_› | exact slT ‹_›) (by first | exact obT rfl | exact Rd.imm ‹_› | exact slT ‹_›)) hS.rd ?_
    refine LW.ex rfl rfl rfl rfl (Ex.load4c ti34 rfl rfl (by first | exact obT rfl | exact Rd.imm ‹_› | exact slT ‹_›) (by first | exact obT rfl | exact Rd.imm ‹_› | exact slT ‹_›) (by first | exact obT rfl | exact Rd.imm ‹_› | exact slT ‹_›) (by first | exact obT rfl | exact Rd.imm ‹_› | exact slT ‹_›)) hS.rd ?_
    refine LW.ex rfl rfl rfl rfl (Ex.move rfl) hS.rd ?_
    refine LW.hv rfl rfl rfl rfl (Hv.callS hS rfl rfl rfl cb40 (cfits_c x m p hsm _ _ _ _ _ _ _ _ μ _ hS.imm hxl hm0 hm1 hm2)) fun v w22 ⟨hv, hS⟩ => ?_
    subst hv
    refine LW.splitB (fun h1_7 => ?_) (fun h1_7 => ?_)
    · skip
      refine LW.ex rfl rfl rfl rfl (Ex.not rfl rfl) hS.rd ?_
      refine LW.ex rfl rfl rfl rfl (by first | exact Ex.pick_yes rfl rfl | exact Ex.pick_no rfl rfl) hS.rd ?_
      refine LW.nil fun aa ha => hK21 _ _ _ ?_ aa ha
      refine CW.no rfl ?_
      refine CW.skip fun aa ha => hK20 _ _ _ ?_ aa ha
      refine CW.seq fun K22 hK22 => ?_
      have hM := okM_iff.1 h1_1
      have hR : costR x m p es = costGo x m 0 p 0 es := by unfold costR; rw [if_pos h1_1, if_pos h1_7]
      have hfit := h1_7
      unfold fitsC at hfit
      rw [Bool.and_eq_true, Bool.and_eq_true, decide_eq_true_eq] at hfit
      obtain ⟨⟨hx, hp⟩, hw⟩ := hfit
      obtain ⟨⟨hN0, hN1, _⟩, hed, _⟩ := okX_edges hx
      unfold wordsIn at hw
      rw [List.all_eq_true] at hw
      refine CW.region [0, 1] rfl ?_
      refine LW.ex rfl rfl rfl rfl (Ex.assign rfl) hS.rd ?_
      refine LW.ex rfl rfl rfl rfl (Ex.assign rfl) hS.rd ?_
      refine LW.nil fun aa ha => hK22 _ _ _ ?_ aa ha
      refine CW.seq fun K23 hK23 => ?_
      refine CW.seq fun K24 hK24 => ?_
      refine CW.region [0, 1, 2] rfl ?_
      refine LW.ex rfl rfl rfl rfl (Ex.move rfl) hS.rd ?_
      refine LW.ex rfl rfl rfl rfl (Ex.lenSl rfl Try.underlying31 rfl) hS.rd ?_
      refine LW.ex rfl rfl rfl rfl (Ex.move rfl) hS.rd ?_
      refine LW.nil fun aa ha => hK24 _ _ _ ?_ aa ha
      refine CW.block ?_
      refine CW.loop (fun qq frm wl5 => ∃ (i : Nat) (at_ : Int) (q : Int) (s : Int), i ≤ es.length ∧ q < m.Words.length ∧ 0 ≤ s ∧ s ≤ i * 2000000 ∧ qq = es.length - i ∧ frm = [(2, .int .i64 q), (4, .pointer (some ⟨b4, 0, none⟩)), (5, .pointer (some ⟨b5, 0, none⟩)), (10, .int .i64 at_), (11, .int .i64 s), (25, .slice a4 es.length c4), (26, .int .i64 ((es.length : Nat) : Int)), (27, .int .i64 i)] ∧ St w wl5 μ [Own.obj b5 [.slice a0 m.Words.length c0, .slice a1 m.Counts.length c1, .slice a2 m.Pairs.length c2, .int .i64 m.Back] 34, Own.obj b4 [.int .i64 x.N, .slice a3 x.Edges.length c3] 38] ∧ (costGo x m 0 p 0 es = costGo x m at_ q s (es.drop i))) _ ⟨0, 0, p, 0, (by first | omega | (simp; done) | (simp; omega)), (by first | omega | (simp; done) | (simp; omega)), (by first | omega | (simp; done) | (simp; omega)), (by first | omega | (simp; done) | (simp; omega)), rfl, rfl, hS, rfl⟩ ⟨rfl, rfl, rfl, rfl, rfl, rfl, rfl, rfl, trivial⟩ ?_
      clear hS
      rintro qq frm wl5 ⟨i, at_, q, s, hi, hqn, hs0, hs1, hq, rfl, hS, he⟩
      refine CW.seq fun K25 hK25 => ?_
      refine CW.region [0] rfl ?_
      refine LW.ex rfl rfl rfl rfl (Ex.lss rfl rfl rfl) hS.rd ?_
      refine LW.splitB (fun h5_0 => ?_) (fun h5_0 => ?_)
      · have h5_0 := of_decide_eq_true h5_0
        refine LW.nil fun aa ha => hK25 _ _ _ ?_ aa ha
        refine CW.seq fun K26 hK26 => ?_
        refine CW.yes rfl ?_
        refine CW.skip fun aa ha => hK26 _ _ _ ?_ aa ha
        refine CW.seq fun K27 hK27 => ?_
        refine CW.block ?_
        refine CW.seq fun K28 hK28 => ?_
        have hi2 : i < es.length := by omega
        rw [drop_cons hi2, costGo] at he
        obtain ⟨be, oe, rfl, ke⟩ := hel.at hi2
        refine CW.region [0, 1, 2] rfl ?_
        refine LW.ex rfl rfl rfl rfl (Ex.indexSl Try.underlying31 ti3 rfl rfl rfl (by omega)) hS.rd ?_
        refine LW.ex rfl rfl rfl rfl (Ex.load1 ti3 rfl rfl (by first | exact obT rfl | exact Rd.imm ‹_› | exact slT ‹_›)) hS.rd ?_
        refine LW.ex rfl rfl rfl rfl (Ex.assign rfl) hS.rd ?_
        refine LW.nil fun aa ha => hK28 _ _ _ ?_ aa ha
        refine CW.seq fun K29 hK29 => ?_
        refine CW.seq fun K30 hK30 => ?_
        refine CW.region [0, 1, 2, 3, 4, 5, 6, 7, 8, 9, 10, 11, 12, 13, 14, 15, 16, 17, 18] rfl ?_
        refine LW.ex rfl rfl rfl rfl (Ex.move rfl) hS.rd ?_
        refine LW.ex rfl rfl rfl rfl (Ex.lss rfl rfl rfl) hS.rd ?_
        refine LW.splitB (fun h7_1 => ?_) (fun h7_1 => ?_)
        · have h7_1 := of_decide_eq_true h7_1
          refine LW.ex rfl rfl rfl rfl (Ex.move rfl) hS.rd ?_
          refine LW.skip rfl rfl rfl rfl ?_
          refine LW.skip rfl rfl rfl rfl ?_
          refine LW.skip rfl rfl rfl rfl ?_
          refine LW.skip rfl rfl rfl rfl ?_
          refine LW.skip rfl rfl rfl rfl ?_
          refine LW.ex rfl rfl rfl rfl (by first | exact Ex.pick_yes rfl rfl | exact Ex.pick_no rfl rfl) hS.rd ?_
          refine LW.ex rfl rfl rfl rfl (Ex.move rfl) hS.rd ?_
          refine LW.skip rfl rfl rfl rfl ?_
          refine LW.skip rfl rfl rfl rfl ?_
          refine LW.skip rfl rfl rfl rfl ?_
          refine LW.skip rfl rfl rfl rfl ?_
          refine LW.skip rfl rfl rfl rfl ?_
          refine LW.skip rfl rfl rfl rfl ?_
          refine LW.skip rfl rfl rfl rfl ?_
          refine LW.skip rfl rfl rfl rfl ?_
          refine LW.ex rfl rfl rfl rfl (by first | exact Ex.pick_yes rfl rfl | exact Ex.pick_no rfl rfl) hS.rd ?_
          refine LW.nil fun aa ha => hK30 _ _ _ ?_ aa ha
          refine CW.yes rfl ?_
          refine CW.seq fun K31 hK31 => ?_
          refine CW.region [0, 1] rfl ?_
          refine LW.ex rfl rfl rfl rfl (Ex.assign rfl) hS.rd ?_
          refine LW.ex rfl rfl rfl rfl (Ex.assign rfl) hS.rd ?_
          refine LW.nil fun aa ha => hK31 _ _ _ ?_ aa ha
          refine CW.ret fun aa ha => ?_
          refine ret_two ha Try.results15 rfl rfl ?_
          rw [hR, he, if_neg (by omega)]; exact hS.retS
        · have h7_1 := of_decide_eq_false h7_1
          refine LW.ex rfl rfl rfl rfl (Ex.move rfl) hS.rd ?_
          refine LW.ex rfl rfl rfl rfl (Ex.move rfl) hS.rd ?_
          refine LW.ex rfl rfl rfl rfl (Ex.fieldO 1 Try.underlying38 rfl rfl ti36 rfl) hS.rd ?_
          refine LW.ex rfl rfl rfl rfl (Ex.load1 ti36 rfl rfl (by first | exact obT rfl | exact Rd.imm ‹_› | exact slT ‹_›)) hS.rd ?_
          refine LW.ex rfl rfl rfl rfl (Ex.lenSl rfl Try.underlying36 rfl) hS.rd ?_
          refine LW.ex rfl rfl rfl rfl (Ex.geq rfl rfl rfl) hS.rd ?_
          refine LW.splitB (fun h7_7 => ?_) (fun h7_7 => ?_)
          · have h7_7 := of_decide_eq_true h7_7
            refine LW.ex rfl rfl rfl rfl (by first | exact Ex.pick_yes rfl rfl | exact Ex.pick_no rfl rfl) hS.rd ?_
            refine LW.ex rfl rfl rfl rfl (Ex.move rfl) hS.rd ?_
            refine LW.skip rfl rfl rfl rfl ?_
            refine LW.skip rfl rfl rfl rfl ?_
            refine LW.skip rfl rfl rfl rfl ?_
            refine LW.skip rfl rfl rfl rfl ?_
            refine LW.skip rfl rfl rfl rfl ?_
            refine LW.skip rfl rfl rfl rfl ?_
            refine LW.skip rfl rfl rfl rfl ?_
            refine LW.skip rfl rfl rfl rfl ?_
            refine LW.ex rfl rfl rfl rfl (by first | exact Ex.pick_yes rfl rfl | exact Ex.pick_no rfl rfl) hS.rd ?_
            refine LW.nil fun aa ha => hK30 _ _ _ ?_ aa ha
            refine CW.yes rfl ?_
            refine CW.seq fun K32 hK32 => ?_
            refine CW.region [0, 1] rfl ?_
            refine LW.ex rfl rfl rfl rfl (Ex.assign rfl) hS.rd ?_
            refine LW.ex rfl rfl rfl rfl (Ex.assign rfl) hS.rd ?_
            refine LW.nil fun aa ha => hK32 _ _ _ ?_ aa ha
            refine CW.ret fun aa ha => ?_
            refine ret_two ha Try.results15 rfl rfl ?_
            rw [hR, he, if_neg (by omega)]; exact hS.retS
          · have h7_7 := of_decide_eq_false h7_7
            obtain ⟨j, hj0⟩ : ∃ j : Nat, es[i] = j := ⟨es[i].toNat, by omega⟩
            have hj : j < x.Edges.length := by omega
            obtain ⟨bl, ol, rfl, k0, k1, k2, k3⟩ := hxl.at hj
            rw [hj0] at he ⊢
            refine LW.ex rfl rfl rfl rfl (by first | exact Ex.pick_yes rfl rfl | exact Ex.pick_no rfl rfl) hS.rd ?_
            refine LW.ex rfl rfl rfl rfl (Ex.move rfl) hS.rd ?_
            refine LW.ex rfl rfl rfl rfl (Ex.fieldO 1 Try.underlying38 rfl rfl ti36 rfl) hS.rd ?_
            refine LW.ex rfl rfl rfl rfl (Ex.load1 ti36 rfl rfl (by first | exact obT rfl | exact Rd.imm ‹_› | exact slT ‹_›)) hS.rd ?_
            refine LW.ex rfl rfl rfl rfl (Ex.move rfl) hS.rd ?_
            refine LW.ex rfl rfl rfl rfl (Ex.indexSl Try.underlying36 ti43 rfl rfl rfl (by omega)) hS.rd ?_
            refine LW.ex rfl rfl rfl rfl (Ex.fieldO 0 Try.underlying43 rfl rfl ti3 rfl) hS.rd ?_
            refine LW.ex rfl rfl rfl rfl (Ex.load1 ti3 rfl rfl (by first | exact obT rfl | exact Rd.imm ‹_› | exact slT ‹_›)) hS.rd ?_
            refine LW.ex rfl rfl rfl rfl (Ex.move rfl) hS.rd ?_
            refine LW.ex rfl rfl rfl rfl (Ex.neq rfl rfl rfl) hS.rd ?_
            refine LW.splitB (fun h7_17 => ?_) (fun h7_17 => ?_)
            · have h7_17 := of_decide_eq_true h7_17
              refine LW.ex rfl rfl rfl rfl (by first | exact Ex.pick_yes rfl rfl | exact Ex.pick_no rfl rfl) hS.rd ?_
              refine LW.nil fun aa ha => hK30 _ _ _ ?_ aa ha
              refine CW.yes rfl ?_
              refine CW.seq fun K33 hK33 => ?_
              refine CW.region [0, 1] rfl ?_
              refine LW.ex rfl rfl rfl rfl (Ex.assign rfl) hS.rd ?_
              refine LW.ex rfl rfl rfl rfl (Ex.assign rfl) hS.rd ?_
              refine LW.nil fun aa ha => hK33 _ _ _ ?_ aa ha
              refine CW.ret fun aa ha => ?_
              refine ret_two ha Try.results15 rfl rfl ?_
              rw [hR, he, if_neg (by rw [Int.toNat_natCast, edAt_of hj]; omega)]; exact hS.retS
            · have h7_17 := of_decide_eq_false h7_17
              refine LW.ex rfl rfl rfl rfl (by first | exact Ex.pick_yes rfl rfl | exact Ex.pick_no rfl rfl) hS.rd ?_
              refine LW.nil fun aa ha => hK30 _ _ _ ?_ aa ha
              refine CW.no rfl ?_
              refine CW.skip fun aa ha => hK29 _ _ _ ?_ aa ha
              refine CW.seq fun K34 hK34 => ?_
              have hedj := hed _ (List.getElem_mem hj)
              have hwj := of_decide_eq_true (hw _ (List.getElem_mem hj))
              have hpc := hM.pairC0 q x.Edges[j].Word
              rw [if_pos (by rw [Int.toNat_natCast, edAt_of hj]; omega), Int.toNat_natCast, edAt_of hj] at he
              refine CW.region [0, 1, 2, 3, 4, 5, 6] rfl ?_
              refine LW.ex rfl rfl rfl rfl (Ex.fieldO 1 Try.underlying38 rfl rfl ti36 rfl) hS.rd ?_
              refine LW.ex rfl rfl rfl rfl (Ex.load1 ti36 rfl rfl (by first | exact obT rfl | exact Rd.imm ‹_› | exact slT ‹_›)) hS.rd ?_
              refine LW.ex rfl rfl rfl rfl (Ex.move rfl) hS.rd ?_
              refine LW.ex rfl rfl rfl rfl (Ex.indexSl Try.underlying36 ti43 rfl rfl rfl (by omega)) hS.rd ?_
              refine LW.ex rfl rfl rfl rfl (Ex.load4c ti43 rfl rfl (by first | exact obT rfl | exact Rd.imm ‹_› | exact slT ‹_›) (by first | exact obT rfl | exact Rd.imm ‹_› | exact slT ‹_›) (by first | exact obT rfl | exact Rd.imm ‹_› | exact slT ‹_›) (by first | exact obT rfl | exact Rd.imm ‹_› | exact slT ‹_›)) hS.rd ?_
              refine LW.hv rfl rfl rfl rfl (Hv.alloc ti43 hS) fun v w14 ⟨b14, hv, hb14, hS⟩ => ?_
              subst hv
              refine LW.hu rfl rfl rfl (Hv.storeN (k := 0) ti43 hS rfl rfl rfl rfl (by simp [Value.oneCell'])) fun _ w_6 hS => ?_
              dsimp only [List.set] at hS
              refine LW.nil fun aa ha => hK34 _ _ _ ?_ aa ha
              refine CW.seq fun K35 hK35 => ?_
              have hS := hS.drew
              refine CW.draw 11 (.ex 0 <| .ex 1 <| .ex 2 <| .ex 3 <| .ex 4 <| .ex 5 <| .ex 6 <| .one 7 <| .ex 8 <| .ex 9 <| .ex 10 <| .done) [] (Rd _ _) mixed (by kernel_rfl) rfl rfl hS.rd ?_
              refine PW.ex rfl rfl rfl rfl (Ex.move rfl) ?_
              refine PW.ex rfl rfl rfl rfl (Ex.fieldO 3 Try.underlying43 rfl rfl ti3 rfl) ?_
              refine PW.ex rfl rfl rfl rfl (Ex.load1 ti3 rfl rfl (by first | exact obT rfl | exact Rd.imm ‹_› | exact slT ‹_›)) ?_
              refine PW.ex rfl rfl rfl rfl (Ex.load4c ti34 rfl rfl (by first | exact obT rfl | exact Rd.imm ‹_› | exact slT ‹_›) (by first | exact obT rfl | exact Rd.imm ‹_› | exact slT ‹_›) (by first | exact obT rfl | exact Rd.imm ‹_› | exact slT ‹_›) (by first | exact obT rfl | exact Rd.imm ‹_› | exact slT ‹_›)) ?_
              refine PW.ex rfl rfl rfl rfl (Ex.move rfl) ?_
              refine PW.ex rfl rfl rfl rfl (Ex.fieldO 2 Try.underlying43 rfl rfl ti3 rfl) ?_
              refine PW.ex rfl rfl rfl rfl (Ex.load1 ti3 rfl rfl (by first | exact obT rfl | exact Rd.imm ‹_› | exact slT ‹_›)) ?_
              refine PW.hv rfl rfl rfl rfl (Hv.callS hS rfl rfl rfl cb41 (cpair_c m hM q x.Edges[j].Word hqn (by omega) hwj _ _ _ _ _ _ μ _ hS.imm hm0 hm1 hm2)) (fun _ _ h => h.2.rd) fun v w62 ⟨hv, hS⟩ => ?_
              subst hv
              refine PW.ex rfl rfl rfl rfl (Ex.add rfl rfl (w64 (by omega) (by omega))) ?_
              refine PW.ex rfl rfl rfl rfl (Ex.add rfl rfl (w64 (by omega) (by omega))) ?_
              refine PW.ex rfl rfl rfl rfl (Ex.assign rfl) ?_
              refine PW.nil ?_
              refine LW.nil fun aa ha => hK35 _ _ _ ?_ aa ha
              have hS := hS.drew
              refine CW.draw 6 (.ex 0 <| .ex 1 <| .ex 2 <| .ex 3 <| .ex 4 <| .ex 5 <| .done) [] (Rd _ _) mixed (by kernel_rfl) rfl rfl hS.rd ?_
              refine PW.ex rfl rfl rfl rfl (Ex.fieldO 1 Try.underlying43 rfl rfl ti3 rfl) ?_
              refine PW.ex rfl rfl rfl rfl (Ex.load1 ti3 rfl rfl (by first | exact obT rfl | exact Rd.imm ‹_› | exact slT ‹_›)) ?_
              refine PW.ex rfl rfl rfl rfl (Ex.fieldO 2 Try.underlying43 rfl rfl ti3 rfl) ?_
              refine PW.ex rfl rfl rfl rfl (Ex.load1 ti3 rfl rfl (by first | exact obT rfl | exact Rd.imm ‹_› | exact slT ‹_›)) ?_
              refine PW.ex rfl rfl rfl rfl (Ex.assign rfl) ?_
              refine PW.ex rfl rfl rfl rfl (Ex.assign rfl) ?_
              refine PW.nil ?_
              refine LW.nil fun aa ha => hK27 _ _ _ ?_ aa ha
              refine CW.region [0, 1] rfl ?_
              refine LW.ex rfl rfl rfl rfl (Ex.add rfl rfl (by first | exact inc64 (by omega) | exact addN (by omega) | exact w64 (by omega) (by omega))) hS.rd ?_
              refine LW.ex rfl rfl rfl rfl (Ex.move rfl) hS.rd ?_
              refine LW.nil fun aa ha => ?_
              have hS := hS.drop 0 rfl
              dsimp only [List.eraseIdx] at hS
              refine ⟨_, _, ?m5, ⟨i + 1, x.Edges[j].To, x.Edges[j].Word, s + (x.Edges[j].Cost + pairC m q x.Edges[j].Word), (by first | omega | (simp; done) | (simp; omega)), (by first | omega | (simp; done) | (simp; omega)), (by first | omega | (simp; done) | (simp; omega)), (by first | omega | (simp; done) | (simp; omega)), rfl, rfl, hS, he⟩, ha.sub ⟨rfl, rfl, rfl, rfl, rfl, rfl, rfl, rfl, trivial⟩⟩
              case m5 => omega
      · have h5_0 := of_decide_eq_false h5_0
        refine LW.nil fun aa ha => hK25 _ _ _ ?_ aa ha
        refine CW.seq fun K36 hK36 => ?_
        refine CW.no rfl ?_
        refine CW.exit fun aa ha => hK23 _ _ _ ?_ aa ha
        refine CW.seq fun K37 hK37 => ?_
        refine CW.seq fun K38 hK38 => ?_
        refine CW.region [0, 1, 2, 3] rfl ?_
        refine LW.ex rfl rfl rfl rfl (Ex.move rfl) hS.rd ?_
        refine LW.ex rfl rfl rfl rfl (Ex.fieldO 0 Try.underlying38 rfl rfl ti3 rfl) hS.rd ?_
        refine LW.ex rfl rfl rfl rfl (Ex.load1 ti3 rfl rfl (by first | exact obT rfl | exact Rd.imm ‹_› | exact slT ‹_›)) hS.rd ?_
        refine LW.ex rfl rfl rfl rfl (Ex.neq rfl rfl rfl) hS.rd ?_
        refine LW.splitB (fun h13_3 => ?_) (fun h13_3 => ?_)
        · have h13_3 := of_decide_eq_true h13_3
          refine LW.nil fun aa ha => hK38 _ _ _ ?_ aa ha
          refine CW.yes rfl ?_
          refine CW.seq fun K39 hK39 => ?_
          refine CW.region [0, 1] rfl ?_
          refine LW.ex rfl rfl rfl rfl (Ex.assign rfl) hS.rd ?_
          refine LW.ex rfl rfl rfl rfl (Ex.assign rfl) hS.rd ?_
          refine LW.nil fun aa ha => hK39 _ _ _ ?_ aa ha
          refine CW.ret fun aa ha => ?_
          refine ret_two ha Try.results15 rfl rfl ?_
          rw [hR, he, List.drop_of_length_le (by omega), costGo, if_neg (by omega)]; exact hS.retS
        · have h13_3 := of_decide_eq_false h13_3
          refine LW.nil fun aa ha => hK38 _ _ _ ?_ aa ha
          refine CW.no rfl ?_
          refine CW.skip fun aa ha => hK37 _ _ _ ?_ aa ha
          refine CW.seq fun K40 hK40 => ?_
          refine CW.region [0, 1, 2] rfl ?_
          refine LW.ex rfl rfl rfl rfl (Ex.move rfl) hS.rd ?_
          refine LW.ex rfl rfl rfl rfl (Ex.assign rfl) hS.rd ?_
          refine LW.ex rfl rfl rfl rfl (Ex.assign rfl) hS.rd ?_
          refine LW.nil fun aa ha => hK40 _ _ _ ?_ aa ha
          refine CW.ret fun aa ha => ?_
          refine ret_two ha Try.results15 rfl rfl ?_
          rw [hR, he, List.drop_of_length_le (by omega), costGo, if_pos (by omega)]; exact hS.retS
    · skip
      refine LW.ex rfl rfl rfl rfl (Ex.not rfl rfl) hS.rd ?_
      refine LW.ex rfl rfl rfl rfl (by first | exact Ex.pick_yes rfl rfl | exact Ex.pick_no rfl rfl) hS.rd ?_
      refine LW.nil fun aa ha => hK21 _ _ _ ?_ aa ha
      refine CW.yes rfl ?_
      refine CW.seq fun K41 hK41 => ?_
      refine CW.region [0, 1] rfl ?_
      refine LW.ex rfl rfl rfl rfl (Ex.assign rfl) hS.rd ?_
      refine LW.ex rfl rfl rfl rfl (Ex.assign rfl) hS.rd ?_
      refine LW.nil fun aa ha => hK41 _ _ _ ?_ aa ha
      refine CW.ret fun aa ha => ?_
      refine ret_two ha Try.results15 rfl rfl ?_
      have e : costR x m p es = (0, false) := by unfold costR; rw [if_pos h1_1, if_neg (by rw [h1_7]; decide)]
      rw [e]; exact hS.retS
  · skip
    refine LW.ex rfl rfl rfl rfl (Ex.not rfl rfl) hS.rd ?_
    refine LW.ex rfl rfl rfl rfl (Ex.move rfl) hS.rd ?_
    refine LW.skip rfl rfl rfl rfl ?_
    refine LW.skip rfl rfl rfl rfl ?_
    refine LW.skip rfl rfl rfl rfl ?_
    refine LW.skip rfl rfl rfl rfl ?_
    refine LW.skip rfl rfl rfl rfl ?_
    refine LW.ex rfl rfl rfl rfl (by first | exact Ex.pick_yes rfl rfl | exact Ex.pick_no rfl rfl) hS.rd ?_
    refine LW.nil fun aa ha => hK21 _ _ _ ?_ aa ha
    refine CW.yes rfl ?_
    refine CW.seq fun K42 hK42 => ?_
    refine CW.region [0, 1] rfl ?_
    refine LW.ex rfl rfl rfl rfl (Ex.assign rfl) hS.rd ?_
    refine LW.ex rfl rfl rfl rfl (Ex.assign rfl) hS.rd ?_
    refine LW.nil fun aa ha => hK42 _ _ _ ?_ aa ha
    refine CW.ret fun aa ha => ?_
    refine ret_two ha Try.results15 rfl rfl ?_
    have e : costR x m p es = (0, false) := by unfold costR; rw [if_neg (by rw [h1_1]; decide)]
    rw [e]; exact hS.retS
theorem costR_fits {x : Lat} {m : Mdl} {p : Int} {es : List Int} (h : ¬ (fitsB x m = true ∧ (-1 ≤ p ∧ p ≤ (m.Words.length : Int) - 1))) : costR x m p es = (0, false) := by
  unfold costR
  split
  · rename_i h1
    rw [if_neg]
    intro h2
    unfold fitsC at h2
    rw [Bool.and_eq_true, Bool.and_eq_true, decide_eq_true_eq] at h2
    exact h ⟨by unfold fitsB; rw [h1, h2.1.1, h2.2]; rfl, by omega⟩
  · rfl
theorem fitsB_iff {x : Lat} {m : Mdl} : fitsB x m = true ↔ okX x = true ∧ wordsIn x m.Words.length = true ∧ okM m = true := by unfold fitsB; rw [Bool.and_eq_true, Bool.and_eq_true, and_assoc]
theorem fitsC_iff {x : Lat} {n : Nat} {p : Int} : fitsC x n p = true ↔ okX x = true ∧ (-1 ≤ p ∧ p < n) ∧ wordsIn x n = true := by unfold fitsC; rw [Bool.and_eq_true, Bool.and_eq_true, decide_eq_true_eq, and_assoc]
set_option maxRecDepth 100000 in
set_option maxHeartbeats 1000000 in
theorem rcost_c (x : Lat) (m : Mdl) (p : Int) (es : List Int) (hws : ∀ s ∈ m.Words, s.size ≤ 9223372036854775807) (hN : NSmall m.Pairs) (hes : es.length ≤ 1000000) (hml : m.Words.length ≤ 1000000)
    (a0 a1 a2 a3 a4 : Option Addr) (c0 c1 c2 c3 c4 : Nat) (μ : Mem) (w : World) (hμ : Imm μ w) (hxl : Sl μ a3 c3 x.Edges) (hm0 : Sl μ a0 c0 m.Words) (hm1 : Sl μ a1 c1 m.Counts) (hm2 : Sl μ a2 c2 m.Pairs) (hel : Sl μ a4 c4 es) :
    Calls Try.prog 16 #[.agg #[.int .i64 x.N, .slice a3 x.Edges.length c3, .slice a0 m.Words.length c0, .slice a1 m.Counts.length c1, .slice a2 m.Pairs.length c2, .int .i64 m.Back, .int .i64 p], .slice a4 es.length c4] w (RetS w (.tuple #[.int .i64 (costR x m p es).1, .bool (costR x m p es).2])) := by
  have hxll := hxl.1
  have hxlc := hxl.2.1
  simp only [maxLen] at hxlc
  have hS := St.start w μ hμ
  refine calls_start 91 [.agg #[.int .i64 x.N, .slice a3 x.Edges.length c3, .slice a0 m.Words.length c0, .slice a1 m.Counts.length c1, .slice a2 m.Pairs.length c2, .int .i64 m.Back, .int .i64 p], .slice a4 es.length c4] Try.func16 rfl Try.ntmps16 rfl rfl ?_
  refine CW.seq fun K43 hK43 => ?_
  refine CW.region [0, 1, 2] rfl ?_
  refine LW.hv rfl rfl rfl rfl (Hv.boxS hS rfl rfl) fun v w2 ⟨b2, hv, hb2, hS⟩ => ?_
  subst hv
  refine LW.ex rfl rfl rfl rfl (Ex.assign rfl) hS.rd ?_
  refine LW.ex rfl rfl rfl rfl (Ex.assign rfl) hS.rd ?_
  refine LW.nil fun aa ha => hK43 _ _ _ ?_ aa ha
  refine CW.seq fun K44 hK44 => ?_
  refine CW.seq fun K45 hK45 => ?_
  refine CW.region [0, 1, 2, 3, 4, 5, 6, 7, 8, 9, 10, 11, 12, 13, 14, 15, 16] rfl ?_
  refine LW.ex rfl rfl rfl rfl (Ex.fieldO 0 Try.underlying55 rfl rfl ti38 rfl) hS.rd ?_
  refine LW.ex rfl rfl rfl rfl (Ex.load2c ti38 rfl rfl (by first | exact obT rfl | exact Rd.imm ‹_› | exact slT ‹_›) (by first | exact obT rfl | exact Rd.imm ‹_› | exact slT ‹_›)) hS.rd ?_
  refine LW.ex rfl rfl rfl rfl (Ex.fieldO 2 Try.underlying55 rfl rfl ti34 rfl) hS.rd ?_
  refine LW.ex rfl rfl rfl rfl (Ex.load4c ti34 rfl rfl (by first | exact obT rfl | exact Rd.imm ‹_› | exact slT ‹_›) (by first | exact obT rfl | exact Rd.imm ‹_› | exact slT ‹_›) (by first | exact obT rfl | exact Rd.imm ‹_› | exact slT ‹_›) (by first | exact obT rfl | exact Rd.imm ‹_› | exact slT ‹_›)) hS.rd ?_
  refine LW.hv rfl rfl rfl rfl (Hv.callS hS rfl rfl rfl cb35 (rfits_c x m hws hN _ _ _ _ _ _ _ _ μ _ hS.imm hxl hm0 hm1 hm2)) fun v w15 ⟨hv, hS⟩ => ?_
  subst hv
  refine LW.splitB (fun h1_4 => ?_) (fun h1_4 => ?_)
  · skip
    refine LW.ex rfl rfl rfl rfl (Ex.not rfl rfl) hS.rd ?_
    refine LW.ex rfl rfl rfl rfl (Ex.move rfl) hS.rd ?_
    refine LW.ex rfl rfl rfl rfl (Ex.fieldO 6 Try.underlying55 rfl rfl ti3 rfl) hS.rd ?_
    refine LW.ex rfl rfl rfl rfl (Ex.load1 ti3 rfl rfl (by first | exact obT rfl | exact Rd.imm ‹_› | exact slT ‹_›)) hS.rd ?_
    refine LW.ex rfl rfl rfl rfl (Ex.fieldO 2 Try.underlying55 rfl rfl ti34 rfl) hS.rd ?_
    refine LW.ex rfl rfl rfl rfl (Ex.fieldO 0 Try.underlying34 rfl rfl ti30 rfl) hS.rd ?_
    refine LW.ex rfl rfl rfl rfl (Ex.load1 ti30 rfl rfl (by first | exact obT rfl | exact Rd.imm ‹_› | exact slT ‹_›)) hS.rd ?_
    refine LW.ex rfl rfl rfl rfl (Ex.lenSl rfl Try.underlying30 rfl) hS.rd ?_
    refine LW.ex rfl rfl rfl rfl (Ex.sub rfl rfl (by first | exact dec64 (by omega) (by omega) | exact subN (by omega) (by omega) | exact w64 (by omega) (by omega))) hS.rd ?_
    refine LW.hv rfl rfl rfl rfl (Hv.callS hS rfl rfl rfl cb36 (in_c _ _ _ _)) fun v w25 ⟨hv, hS⟩ => ?_
    subst hv
    refine LW.splitB (fun h1_14 => ?_) (fun h1_14 => ?_)
    · have h1_14 := inR_iff.1 h1_14
      refine LW.ex rfl rfl rfl rfl (Ex.not rfl rfl) hS.rd ?_
      refine LW.ex rfl rfl rfl rfl (by first | exact Ex.pick_yes rfl rfl | exact Ex.pick_no rfl rfl) hS.rd ?_
      refine LW.nil fun aa ha => hK45 _ _ _ ?_ aa ha
      refine CW.no rfl ?_
      refine CW.skip fun aa ha => hK44 _ _ _ ?_ aa ha
      refine CW.seq fun K46 hK46 => ?_
      obtain ⟨hx, hw, hMM⟩ := fitsB_iff.1 h1_4
      have hM := okM_iff.1 hMM
      have hR : costR x m p es = costGo x m 0 p 0 es := by unfold costR; rw [if_pos hMM, if_pos (fitsC_iff.2 ⟨hx, by omega, hw⟩)]
      obtain ⟨⟨hN0, hN1, _⟩, hed, _⟩ := okX_edges hx
      unfold wordsIn at hw
      rw [List.all_eq_true] at hw
      have hS := hS.drew
      refine CW.draw 5 (.ex 0 <| .ex 1 <| .ex 2 <| .ex 3 <| .ex 4 <| .done) [] (Rd _ _) mixed (by kernel_rfl) rfl rfl hS.rd ?_
      refine PW.ex rfl rfl rfl rfl (Ex.fieldO 6 Try.underlying55 rfl rfl ti3 rfl) ?_
      refine PW.ex rfl rfl rfl rfl (Ex.load1 ti3 rfl rfl (by first | exact obT rfl | exact Rd.imm ‹_› | exact slT ‹_›)) ?_
      refine PW.ex rfl rfl rfl rfl (Ex.assign rfl) ?_
      refine PW.ex rfl rfl rfl rfl (Ex.assign rfl) ?_
      refine PW.ex rfl rfl rfl rfl (Ex.assign rfl) ?_
      refine PW.nil ?_
      refine LW.nil fun aa ha => hK46 _ _ _ ?_ aa ha
      refine CW.seq fun K47 hK47 => ?_
      refine CW.seq fun K48 hK48 => ?_
      refine CW.region [0] rfl ?_
      refine LW.ex rfl rfl rfl rfl (Ex.assign rfl) hS.rd ?_
      refine LW.nil fun aa ha => hK48 _ _ _ ?_ aa ha
      refine CW.block ?_
      refine CW.loop (fun qq frm wl5 => ∃ (i : Nat) (at_ : Int) (q : Int) (s : Int), i ≤ es.length ∧ q < m.Words.length ∧ 0 ≤ s ∧ s ≤ i * 2000000 ∧ qq = es.length - i ∧ frm = [(1, .slice a4 es.length c4), (2, .pointer (some ⟨b2, 0, none⟩)), (6, .int .i64 at_), (7, .int .i64 q), (8, .int .i64 s), (9, .int .i64 i)] ∧ St w wl5 μ [Own.obj b2 [.int .i64 x.N, .slice a3 x.Edges.length c3, .slice a0 m.Words.length c0, .slice a1 m.Counts.length c1, .slice a2 m.Pairs.length c2, .int .i64 m.Back, .int .i64 p] 55] ∧ (costGo x m 0 p 0 es = costGo x m at_ q s (es.drop i))) _ ⟨0, 0, p, 0, (by first | omega | (simp; done) | (simp; omega)), (by first | omega | (simp; done) | (simp; omega)), (by first | omega | (simp; done) | (simp; omega)), (by first | omega | (simp; done) | (simp; omega)), rfl, rfl, hS, rfl⟩ ⟨rfl, rfl, rfl, rfl, rfl, rfl, trivial⟩ ?_
      clear hS
      rintro qq frm wl5 ⟨i, at_, q, s, hi, hqn, hs0, hs1, hq, rfl, hS, he⟩
      refine CW.seq fun K49 hK49 => ?_
      refine CW.seq fun K50 hK50 => ?_
      refine CW.region [0, 1, 2, 3] rfl ?_
      refine LW.ex rfl rfl rfl rfl (Ex.move rfl) hS.rd ?_
      refine LW.ex rfl rfl rfl rfl (Ex.move rfl) hS.rd ?_
      refine LW.ex rfl rfl rfl rfl (Ex.lenSl rfl Try.underlying31 rfl) hS.rd ?_
      refine LW.ex rfl rfl rfl rfl (Ex.lss rfl rfl rfl) hS.rd ?_
      refine LW.splitB (fun h5_3 => ?_) (fun h5_3 => ?_)
      · have h5_3 := of_decide_eq_true h5_3
        refine LW.nil fun aa ha => hK50 _ _ _ ?_ aa ha
        refine CW.yes rfl ?_
        refine CW.skip fun aa ha => hK49 _ _ _ ?_ aa ha
        refine CW.seq fun K51 hK51 => ?_
        refine CW.block ?_
        refine CW.seq fun K52 hK52 => ?_
        refine CW.seq fun K53 hK53 => ?_
        have hi2 : i < es.length := by omega
        rw [drop_cons hi2, costGo] at he
        obtain ⟨be, oe, rfl, ke⟩ := hel.at hi2
        have hS := hS.drew
        refine CW.draw 25 (.ex 0 <| .ex 1 <| .ex 2 <| .ex 3 <| .ex 4 <| .ex 5 <| .ex 6 <| .ex 7 <| .ex 8 <| .one 9 <| .ex 10 <| .ex 11 <| .ex 12 <| .ex 13 <| .ex 14 <| .ex 15 <| .ex 16 <| .ex 17 <| .ex 18 <| .ex 19 <| .ex 20 <| .ex 21 <| .ex 22 <| .ex 23 <| .ex 24 <| .done) [] (Rd _ _) mixed (by kernel_rfl) rfl rfl hS.rd ?_
        refine PW.ex rfl rfl rfl rfl (Ex.move rfl) ?_
        refine PW.ex rfl rfl rfl rfl (Ex.move rfl) ?_
        refine PW.ex rfl rfl rfl rfl (Ex.indexSl Try.underlying31 ti3 rfl rfl rfl (by omega)) ?_
        refine PW.ex rfl rfl rfl rfl (Ex.load1 ti3 rfl rfl (by first | exact obT rfl | exact Rd.imm ‹_› | exact slT ‹_›)) ?_
        refine PW.ex rfl rfl rfl rfl (Ex.fieldO 0 Try.underlying55 rfl rfl ti38 rfl) ?_
        refine PW.ex rfl rfl rfl rfl (Ex.fieldO 1 Try.underlying38 rfl rfl ti36 rfl) ?_
        refine PW.ex rfl rfl rfl rfl (Ex.load1 ti36 rfl rfl (by first | exact obT rfl | exact Rd.imm ‹_› | exact slT ‹_›)) ?_
        refine PW.ex rfl rfl rfl rfl (Ex.lenSl rfl Try.underlying36 rfl) ?_
        refine PW.ex rfl rfl rfl rfl (Ex.sub (r := ((x.Edges.length : Int) - 1)) rfl rfl (w64 (by omega) (by omega))) ?_
        refine PW.hv rfl rfl rfl rfl (Hv.callS hS rfl rfl rfl cb36 (in_c es[i] 0 ((x.Edges.length : Int) - 1) _)) (fun _ _ h => h.2.rd) fun v w45 ⟨hv, hS⟩ => ?_
        subst hv
        refine PW.splitB (fun h7_9 => ?_) (fun h7_9 => ?_)
        · have h7_9 := inR_iff.1 h7_9
          obtain ⟨j, hj0⟩ : ∃ j : Nat, es[i] = j := ⟨es[i].toNat, by omega⟩
          have hj : j < x.Edges.length := by omega
          obtain ⟨bl, ol, rfl, k0, k1, k2, k3⟩ := hxl.at hj
          rw [hj0] at he ke
          refine PW.ex rfl rfl rfl rfl (Ex.not rfl rfl) ?_
          refine PW.ex rfl rfl rfl rfl (Ex.move rfl) ?_
          refine PW.ex rfl rfl rfl rfl (Ex.fieldO 0 Try.underlying55 rfl rfl ti38 rfl) ?_
          refine PW.ex rfl rfl rfl rfl (Ex.fieldO 1 Try.underlying38 rfl rfl ti36 rfl) ?_
          refine PW.ex rfl rfl rfl rfl (Ex.load1 ti36 rfl rfl (by first | exact obT rfl | exact Rd.imm ‹_› | exact slT ‹_›)) ?_
          refine PW.ex rfl rfl rfl rfl (Ex.move rfl) ?_
          refine PW.ex rfl rfl rfl rfl (Ex.move rfl) ?_
          refine PW.ex rfl rfl rfl rfl (Ex.indexSl Try.underlying31 ti3 rfl rfl rfl (by omega)) ?_
          refine PW.ex rfl rfl rfl rfl (Ex.load1 ti3 rfl rfl (by first | exact obT rfl | exact Rd.imm ‹_› | exact slT ‹_›)) ?_
          refine PW.ex rfl rfl rfl rfl (Ex.indexSl Try.underlying36 ti43 rfl rfl rfl (by omega)) ?_
          refine PW.ex rfl rfl rfl rfl (Ex.fieldO 0 Try.underlying43 rfl rfl ti3 rfl) ?_
          refine PW.ex rfl rfl rfl rfl (Ex.load1 ti3 rfl rfl (by first | exact obT rfl | exact Rd.imm ‹_› | exact slT ‹_›)) ?_
          refine PW.ex rfl rfl rfl rfl (Ex.move rfl) ?_
          refine PW.ex rfl rfl rfl rfl (Ex.neq rfl rfl rfl) ?_
          refine PW.splitB (fun h7_23 => ?_) (fun h7_23 => ?_)
          · have h7_23 := of_decide_eq_true h7_23
            refine PW.ex rfl rfl rfl rfl (by first | exact Ex.pick_yes rfl rfl | exact Ex.pick_no rfl rfl) ?_
            refine PW.nil ?_
            refine LW.nil fun aa ha => hK53 _ _ _ ?_ aa ha
            refine CW.yes rfl ?_
            refine CW.seq fun K54 hK54 => ?_
            refine CW.region [0, 1] rfl ?_
            refine LW.ex rfl rfl rfl rfl (Ex.assign rfl) hS.rd ?_
            refine LW.ex rfl rfl rfl rfl (Ex.assign rfl) hS.rd ?_
            refine LW.nil fun aa ha => hK54 _ _ _ ?_ aa ha
            refine CW.ret fun aa ha => ?_
            refine ret_two ha Try.results16 rfl rfl ?_
            rw [hR, he, if_neg (by rw [Int.toNat_natCast, edAt_of hj]; omega)]; exact hS.retS
          · have h7_23 := of_decide_eq_false h7_23
            refine PW.ex rfl rfl rfl rfl (by first | exact Ex.pick_yes rfl rfl | exact Ex.pick_no rfl rfl) ?_
            refine PW.nil ?_
            refine LW.nil fun aa ha => hK53 _ _ _ ?_ aa ha
            refine CW.no rfl ?_
            refine CW.skip fun aa ha => hK52 _ _ _ ?_ aa ha
            refine CW.seq fun K55 hK55 => ?_
            have hedj := hed _ (List.getElem_mem hj)
            have hwj := of_decide_eq_true (hw _ (List.getElem_mem hj))
            have hpc := hM.pairC0 q x.Edges[j].Word
            rw [if_pos (by rw [Int.toNat_natCast, edAt_of hj]; omega), Int.toNat_natCast, edAt_of hj] at he
            have hS := hS.drew
            refine CW.draw 10 (.ex 0 <| .ex 1 <| .ex 2 <| .ex 3 <| .ex 4 <| .ex 5 <| .ex 6 <| .ex 7 <| .ex 8 <| .one 9 <| .done) [10] (Rd _ _) mixed (by kernel_rfl) rfl rfl hS.rd ?_
            refine PW.ex rfl rfl rfl rfl (Ex.fieldO 0 Try.underlying55 rfl rfl ti38 rfl) ?_
            refine PW.ex rfl rfl rfl rfl (Ex.fieldO 1 Try.underlying38 rfl rfl ti36 rfl) ?_
            refine PW.ex rfl rfl rfl rfl (Ex.load1 ti36 rfl rfl (by first | exact obT rfl | exact Rd.imm ‹_› | exact slT ‹_›)) ?_
            refine PW.ex rfl rfl rfl rfl (Ex.move rfl) ?_
            refine PW.ex rfl rfl rfl rfl (Ex.move rfl) ?_
            refine PW.ex rfl rfl rfl rfl (Ex.indexSl Try.underlying31 ti3 rfl rfl rfl (by omega)) ?_
            refine PW.ex rfl rfl rfl rfl (Ex.load1 ti3 rfl rfl (by first | exact obT rfl | exact Rd.imm ‹_› | exact slT ‹_›)) ?_
            refine PW.ex rfl rfl rfl rfl (Ex.indexSl Try.underlying36 ti43 rfl rfl rfl (by omega)) ?_
            refine PW.ex rfl rfl rfl rfl (Ex.load4c ti43 rfl rfl (by first | exact obT rfl | exact Rd.imm ‹_› | exact slT ‹_›) (by first | exact obT rfl | exact Rd.imm ‹_› | exact slT ‹_›) (by first | exact obT rfl | exact Rd.imm ‹_› | exact slT ‹_›) (by first | exact obT rfl | exact Rd.imm ‹_› | exact slT ‹_›)) ?_
            refine PW.hv rfl rfl rfl rfl (Hv.alloc ti43 hS) (fun _ _ ⟨_, _, _, h⟩ => h.rd.tail) fun v w10 ⟨b10, hv, hb10, hS⟩ => ?_
            subst hv
            refine PW.nil ?_
            refine LW.hu rfl rfl rfl (Hv.storeN (k := 0) ti43 hS rfl rfl rfl rfl (by simp [Value.oneCell'])) fun _ w_10 hS => ?_
            dsimp only [List.set] at hS
            refine LW.nil fun aa ha => hK55 _ _ _ ?_ aa ha
            refine CW.seq fun K56 hK56 => ?_
            have hS := hS.drew
            refine CW.draw 12 (.ex 0 <| .ex 1 <| .ex 2 <| .ex 3 <| .ex 4 <| .ex 5 <| .ex 6 <| .ex 7 <| .one 8 <| .ex 9 <| .ex 10 <| .ex 11 <| .done) [] (Rd _ _) mixed (by kernel_rfl) rfl rfl hS.rd ?_
            refine PW.ex rfl rfl rfl rfl (Ex.move rfl) ?_
            refine PW.ex rfl rfl rfl rfl (Ex.fieldO 3 Try.underlying43 rfl rfl ti3 rfl) ?_
            refine PW.ex rfl rfl rfl rfl (Ex.load1 ti3 rfl rfl (by first | exact obT rfl | exact Rd.imm ‹_› | exact slT ‹_›)) ?_
            refine PW.ex rfl rfl rfl rfl (Ex.fieldO 2 Try.underlying55 rfl rfl ti34 rfl) ?_
            refine PW.ex rfl rfl rfl rfl (Ex.load4c ti34 rfl rfl (by first | exact obT rfl | exact Rd.imm ‹_› | exact slT ‹_›) (by first | exact obT rfl | exact Rd.imm ‹_› | exact slT ‹_›) (by first | exact obT rfl | exact Rd.imm ‹_› | exact slT ‹_›) (by first | exact obT rfl | exact Rd.imm ‹_› | exact slT ‹_›)) ?_
            refine PW.ex rfl rfl rfl rfl (Ex.move rfl) ?_
            refine PW.ex rfl rfl rfl rfl (Ex.fieldO 2 Try.underlying43 rfl rfl ti3 rfl) ?_
            refine PW.ex rfl rfl rfl rfl (Ex.load1 ti3 rfl rfl (by first | exact obT rfl | exact Rd.imm ‹_› | exact slT ‹_›)) ?_
            refine PW.hv rfl rfl rfl rfl (Hv.callS hS rfl rfl rfl cb38 (rpair_c m hM q x.Edges[j].Word (by omega) hwj _ _ _ _ _ _ μ _ hS.imm hm0 hm1 hm2)) (fun _ _ h => h.2.rd) fun v w78 ⟨hv, hS⟩ => ?_
            subst hv
            refine PW.ex rfl rfl rfl rfl (Ex.add rfl rfl (w64 (by omega) (by omega))) ?_
            refine PW.ex rfl rfl rfl rfl (Ex.add rfl rfl (w64 (by omega) (by omega))) ?_
            refine PW.ex rfl rfl rfl rfl (Ex.assign rfl) ?_
            refine PW.nil ?_
            refine LW.nil fun aa ha => hK56 _ _ _ ?_ aa ha
            have hS := hS.drew
            refine CW.draw 6 (.ex 0 <| .ex 1 <| .ex 2 <| .ex 3 <| .ex 4 <| .ex 5 <| .done) [] (Rd _ _) mixed (by kernel_rfl) rfl rfl hS.rd ?_
            refine PW.ex rfl rfl rfl rfl (Ex.fieldO 1 Try.underlying43 rfl rfl ti3 rfl) ?_
            refine PW.ex rfl rfl rfl rfl (Ex.load1 ti3 rfl rfl (by first | exact obT rfl | exact Rd.imm ‹_› | exact slT ‹_›)) ?_
            refine PW.ex rfl rfl rfl rfl (Ex.fieldO 2 Try.underlying43 rfl rfl ti3 rfl) ?_
            refine PW.ex rfl rfl rfl rfl (Ex.load1 ti3 rfl rfl (by first | exact obT rfl | exact Rd.imm ‹_› | exact slT ‹_›)) ?_
            refine PW.ex rfl rfl rfl rfl (Ex.assign rfl) ?_
            refine PW.ex rfl rfl rfl rfl (Ex.assign rfl) ?_
            refine PW.nil ?_
            refine LW.nil fun aa ha => hK51 _ _ _ ?_ aa ha
            refine CW.region [0, 1, 2] rfl ?_
            refine LW.ex rfl rfl rfl rfl (Ex.move rfl) hS.rd ?_
            refine LW.ex rfl rfl rfl rfl (Ex.add rfl rfl (by first | exact inc64 (by omega) | exact addN (by omega) | exact w64 (by omega) (by omega))) hS.rd ?_
            refine LW.ex rfl rfl rfl rfl (Ex.assign rfl) hS.rd ?_
            refine LW.nil fun aa ha => ?_
            have hS := hS.drop 0 rfl
            dsimp only [List.eraseIdx] at hS
            refine ⟨_, _, ?m5, ⟨i + 1, x.Edges[j].To, x.Edges[j].Word, s + (x.Edges[j].Cost + pairC m q x.Edges[j].Word), (by first | omega | (simp; done) | (simp; omega)), (by first | omega | (simp; done) | (simp; omega)), (by first | omega | (simp; done) | (simp; omega)), (by first | omega | (simp; done) | (simp; omega)), rfl, rfl, hS, he⟩, ha.sub ⟨rfl, rfl, rfl, rfl, rfl, rfl, trivial⟩⟩
            case m5 => omega
        · have h7_9 := inR_no h7_9
          refine PW.ex rfl rfl rfl rfl (Ex.not rfl rfl) ?_
          refine PW.ex rfl rfl rfl rfl (Ex.move rfl) ?_
          refine PW.skip rfl rfl rfl rfl ?_
          refine PW.skip rfl rfl rfl rfl ?_
          refine PW.skip rfl rfl rfl rfl ?_
          refine PW.skip rfl rfl rfl rfl ?_
          refine PW.skip rfl rfl rfl rfl ?_
          refine PW.skip rfl rfl rfl rfl ?_
          refine PW.skip rfl rfl rfl rfl ?_
          refine PW.skip rfl rfl rfl rfl ?_
          refine PW.skip rfl rfl rfl rfl ?_
          refine PW.skip rfl rfl rfl rfl ?_
          refine PW.skip rfl rfl rfl rfl ?_
          refine PW.skip rfl rfl rfl rfl ?_
          refine PW.ex rfl rfl rfl rfl (by first | exact Ex.pick_yes rfl rfl | exact Ex.pick_no rfl rfl) ?_
          refine PW.nil ?_
          refine LW.nil fun aa ha => hK53 _ _ _ ?_ aa ha
          refine CW.yes rfl ?_
          refine CW.seq fun K57 hK57 => ?_
          refine CW.region [0, 1] rfl ?_
          refine LW.ex rfl rfl rfl rfl (Ex.assign rfl) hS.rd ?_
          refine LW.ex rfl rfl rfl rfl (Ex.assign rfl) hS.rd ?_
          refine LW.nil fun aa ha => hK57 _ _ _ ?_ aa ha
          refine CW.ret fun aa ha => ?_
          refine ret_two ha Try.results16 rfl rfl ?_
          rw [hR, he, if_neg (by omega)]; exact hS.retS
      · have h5_3 := of_decide_eq_false h5_3
        refine LW.nil fun aa ha => hK50 _ _ _ ?_ aa ha
        refine CW.no rfl ?_
        refine CW.exit fun aa ha => hK47 _ _ _ ?_ aa ha
        refine CW.seq fun K58 hK58 => ?_
        refine CW.seq fun K59 hK59 => ?_
        refine CW.region [0, 1, 2, 3, 4] rfl ?_
        refine LW.ex rfl rfl rfl rfl (Ex.move rfl) hS.rd ?_
        refine LW.ex rfl rfl rfl rfl (Ex.fieldO 0 Try.underlying55 rfl rfl ti38 rfl) hS.rd ?_
        refine LW.ex rfl rfl rfl rfl (Ex.fieldO 0 Try.underlying38 rfl rfl ti3 rfl) hS.rd ?_
        refine LW.ex rfl rfl rfl rfl (Ex.load1 ti3 rfl rfl (by first | exact obT rfl | exact Rd.imm ‹_› | exact slT ‹_›)) hS.rd ?_
        refine LW.ex rfl rfl rfl rfl (Ex.neq rfl rfl rfl) hS.rd ?_
        refine LW.splitB (fun h12_4 => ?_) (fun h12_4 => ?_)
        · have h12_4 := of_decide_eq_true h12_4
          refine LW.nil fun aa ha => hK59 _ _ _ ?_ aa ha
          refine CW.yes rfl ?_
          refine CW.seq fun K60 hK60 => ?_
          refine CW.region [0, 1] rfl ?_
          refine LW.ex rfl rfl rfl rfl (Ex.assign rfl) hS.rd ?_
          refine LW.ex rfl rfl rfl rfl (Ex.assign rfl) hS.rd ?_
          refine LW.nil fun aa ha => hK60 _ _ _ ?_ aa ha
          refine CW.ret fun aa ha => ?_
          refine ret_two ha Try.results16 rfl rfl ?_
          rw [hR, he, List.drop_of_length_le (by omega), costGo, if_neg (by omega)]; exact hS.retS
        · have h12_4 := of_decide_eq_false h12_4
          refine LW.nil fun aa ha => hK59 _ _ _ ?_ aa ha
          refine CW.no rfl ?_
          refine CW.skip fun aa ha => hK58 _ _ _ ?_ aa ha
          refine CW.seq fun K61 hK61 => ?_
          refine CW.region [0, 1, 2] rfl ?_
          refine LW.ex rfl rfl rfl rfl (Ex.move rfl) hS.rd ?_
          refine LW.ex rfl rfl rfl rfl (Ex.assign rfl) hS.rd ?_
          refine LW.ex rfl rfl rfl rfl (Ex.assign rfl) hS.rd ?_
          refine LW.nil fun aa ha => hK61 _ _ _ ?_ aa ha
          refine CW.ret fun aa ha => ?_
          refine ret_two ha Try.results16 rfl rfl ?_
          rw [hR, he, List.drop_of_length_le (by omega), costGo, if_pos (by omega)]; exact hS.retS
    · have h1_14 := inR_no h1_14
      refine LW.ex rfl rfl rfl rfl (Ex.not rfl rfl) hS.rd ?_
      refine LW.ex rfl rfl rfl rfl (by first | exact Ex.pick_yes rfl rfl | exact Ex.pick_no rfl rfl) hS.rd ?_
      refine LW.nil fun aa ha => hK45 _ _ _ ?_ aa ha
      refine CW.yes rfl ?_
      refine CW.seq fun K62 hK62 => ?_
      refine CW.region [0, 1] rfl ?_
      refine LW.ex rfl rfl rfl rfl (Ex.assign rfl) hS.rd ?_
      refine LW.ex rfl rfl rfl rfl (Ex.assign rfl) hS.rd ?_
      refine LW.nil fun aa ha => hK62 _ _ _ ?_ aa ha
      refine CW.ret fun aa ha => ?_
      refine ret_two ha Try.results16 rfl rfl ?_
      rw [costR_fits (by intro h; omega)]; exact hS.retS
  · skip
    refine LW.ex rfl rfl rfl rfl (Ex.not rfl rfl) hS.rd ?_
    refine LW.ex rfl rfl rfl rfl (Ex.move rfl) hS.rd ?_
    refine LW.skip rfl rfl rfl rfl ?_
    refine LW.skip rfl rfl rfl rfl ?_
    refine LW.skip rfl rfl rfl rfl ?_
    refine LW.skip rfl rfl rfl rfl ?_
    refine LW.skip rfl rfl rfl rfl ?_
    refine LW.skip rfl rfl rfl rfl ?_
    refine LW.skip rfl rfl rfl rfl ?_
    refine LW.skip rfl rfl rfl rfl ?_
    refine LW.skip rfl rfl rfl rfl ?_
    refine LW.ex rfl rfl rfl rfl (by first | exact Ex.pick_yes rfl rfl | exact Ex.pick_no rfl rfl) hS.rd ?_
    refine LW.nil fun aa ha => hK45 _ _ _ ?_ aa ha
    refine CW.yes rfl ?_
    refine CW.seq fun K63 hK63 => ?_
    refine CW.region [0, 1] rfl ?_
    refine LW.ex rfl rfl rfl rfl (Ex.assign rfl) hS.rd ?_
    refine LW.ex rfl rfl rfl rfl (Ex.assign rfl) hS.rd ?_
    refine LW.nil fun aa ha => hK63 _ _ _ ?_ aa ha
    refine CW.ret fun aa ha => ?_
    refine ret_two ha Try.results16 rfl rfl ?_
    rw [costR_fits (by rw [h1_4]; simp)]; exact hS.retS
end Go.Proofs.Ytgnpjhellmfhoaa

