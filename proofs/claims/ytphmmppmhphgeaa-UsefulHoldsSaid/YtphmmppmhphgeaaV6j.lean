/- The law UsefulHolds,walked: it answers true. -/
import Derived.Test.YtphmmppmhphgeaaJV
import Derived.Test.YtphmmppmhphgeaaJZ
set_option linter.unusedVariables false
set_option linter.unusedSimpArgs false
namespace Go.Proofs.Ytphmmppmhphgeaa
open Go.RowKit Go.Proofs.YtphmmppmhphgeaaW.PrintWords Go.Proofs.YtphmmppmhphgeaaW.PrintLast

set_option maxRecDepth 100000 in
set_option maxHeartbeats 16000000 in
theorem usefulHolds_c (g : Gram) (A1 A2 A3 : Option Addr) (c1 c2 c3 : Nat) (fr : Int) (w : World) (hg : RepG w g A1 A2 A3 c1 c2 c3) (hz : Sized g) (hfr : 0 ≤ fr ∧ fr ≤ 255) :
    Calls Try.prog 13 #[.agg #[.slice A1 g.terms.length c1,.slice A2 g.names.length c2,.slice A3 g.rules.length c3],.int .u8 fr] w fun e w' => e = .returned (.bool true) ∧ Below w.heap.size w w':=by
  obtain ⟨v0,hv0⟩ : ∃ v0 : World,v0 = w.alloc (.cells #[.slice A1 g.terms.length c1,.slice A2 g.names.length c2,.slice A3 g.rules.length c3] 25 (0,0)):=⟨_,rfl⟩
  have HB0 : Aside0 (Below w.heap.size w v0):=⟨by rw [hv0];exact (Below.refl w.heap.size w).alloc (Nat.le_refl _) _⟩
  have HP0 : Aside0 (v0.heap[w.heap.size]? = some (.cells #[.slice A1 g.terms.length c1,.slice A2 g.names.length c2,.slice A3 g.rules.length c3] 25 (0,0))):=⟨by rw [hv0];exact blk_new w _⟩
  have HG0:=Aside0.mk (hg.below_ HB0.out)
  have HZ:=Aside0.mk hz
  clear hg hz
  go_enter Try.func13,Try.ntmps13
  go_upto_region 1 with (fail)
  simp only [← hv0]
  clear hv0
  refine pl_start ?_
  refine pl_held (B:=v0.heap.size) (v:=v0) (Below.refl _ _) (fun hHeld => ?_)
  refine pl_pure (N:=(some 19)) (v:=?v12) (by rfl) rfl ?h12 ?_
  case h12 => (have d0:=(blk_cell (blk_below HP0.out hHeld) 0).trans rfl;have d1:=(blk_cell (blk_below HP0.out hHeld) 1).trans rfl;have d2:=(blk_cell (blk_below HP0.out hHeld) 2).trans rfl;go_simp;rfl)
  simp only [Act.put,List.setIfInBounds_toArray,List.set_cons_zero,List.set_cons_succ]
  refine goesCL_ (N:=(some 20)) Try.func15 (by kernel_rfl) rfl (by rfl) rfl rfl (large_c g A1 A2 A3 c1 c2 c3 _ (HG0.out.below_ hHeld)) (by simp [Act.eval]) ?_
  rintro e x1_1 ⟨⟨lb,rfl,hs⟩,hb1_1⟩
  refine ⟨_,rfl,?_⟩
  simp only [Act.put,List.setIfInBounds_toArray,List.set_cons_zero,List.set_cons_succ]
  refine pl_held (B:=v0.heap.size) (v:=v0) (below_then hHeld hHeld.size hb1_1) (fun hHeld => ?_)
  have HX1:=Aside0.mk hHeld
  clear hs
  cases lb
  · cases hgd : goodF g
    · refine pl_pure (N:=(some 21)) (v:=?v14) (by rfl) rfl ?h14 ?_
      case h14 => (go_simp;rfl)
      simp only [Act.put,List.setIfInBounds_toArray,List.set_cons_zero,List.set_cons_succ]
      refine pl_pure (N:=(some 22)) (v:=?v15) (by rfl) rfl ?h15 ?_
      case h15 => (have d0:=(blk_cell (blk_below HP0.out hHeld) 0).trans rfl;have d1:=(blk_cell (blk_below HP0.out hHeld) 1).trans rfl;have d2:=(blk_cell (blk_below HP0.out hHeld) 2).trans rfl;go_simp;rfl)
      simp only [Act.put,List.setIfInBounds_toArray,List.set_cons_zero,List.set_cons_succ]
      refine goesCL_ (N:=(some 23)) Try.func24 (by kernel_rfl) rfl (by rfl) rfl rfl (good1_v g A1 A2 A3 c1 c2 c3 _ (HG0.out.below_ hHeld) HZ.out hgd) (by simp [Act.eval]) ?_
      rintro e x1_4 ⟨rfl,hb1_4⟩
      refine ⟨_,rfl,?_⟩
      simp only [Act.put,List.setIfInBounds_toArray,List.set_cons_zero,List.set_cons_succ]
      refine pl_held (B:=v0.heap.size) (v:=v0) (below_then hHeld hHeld.size hb1_4) (fun hHeld => ?_)
      refine pl_pure (N:=(some 24)) (v:=?v17) (by rfl) rfl ?h17 ?_
      case h17 => (go_simp;rfl)
      simp only [Act.put,List.setIfInBounds_toArray,List.set_cons_zero,List.set_cons_succ]
      refine pl_pure (N:=(some 25)) (v:=?v18) (by rfl) rfl ?h18 ?_
      case h18 => (go_simp;rfl)
      simp only [Act.put,List.setIfInBounds_toArray,List.set_cons_zero,List.set_cons_succ]
      refine pl_nil ?_
      go_upto_region 2 with (fail)
      refine pl_start ?_
      refine pl_held (B:=v0.heap.size) (v:=v0) (below_then HX1.out HX1.out.size hb1_4) (fun hHeld => ?_)
      refine goesCL_ (N:=(some 26)) Try.func37 (by kernel_rfl) rfl (by rfl) rfl rfl (wakes07_c _) (by simp [Act.eval]) ?_
      rintro e x2_0 ⟨rfl,hb2_0⟩
      refine ⟨_,rfl,?_⟩
      simp only [Act.put,List.setIfInBounds_toArray,List.set_cons_zero,List.set_cons_succ]
      refine pl_held (B:=v0.heap.size) (v:=v0) (below_then hHeld hHeld.size hb2_0) (fun hHeld => ?_)
      refine pl_pure (N:=(some 4)) (v:=?v2) (by rfl) rfl ?h2 ?_
      case h2 => (go_simp;rfl)
      simp only [Act.put,List.setIfInBounds_toArray,List.set_cons_zero,List.set_cons_succ]
      refine pl_nil ?_
      go_wp2
      go_ret
      exact ⟨ret_bool rfl,below_then HB0.out HB0.out.size hHeld⟩
    · refine pl_pure (N:=(some 21)) (v:=?v19) (by rfl) rfl ?h19 ?_
      case h19 => (go_simp;rfl)
      simp only [Act.put,List.setIfInBounds_toArray,List.set_cons_zero,List.set_cons_succ]
      refine pl_pure (N:=(some 22)) (v:=?v20) (by rfl) rfl ?h20 ?_
      case h20 => (have d0:=(blk_cell (blk_below HP0.out hHeld) 0).trans rfl;have d1:=(blk_cell (blk_below HP0.out hHeld) 1).trans rfl;have d2:=(blk_cell (blk_below HP0.out hHeld) 2).trans rfl;go_simp;rfl)
      simp only [Act.put,List.setIfInBounds_toArray,List.set_cons_zero,List.set_cons_succ]
      refine goesCL_ (N:=(some 23)) Try.func24 (by kernel_rfl) rfl (by rfl) rfl rfl (good1_v g A1 A2 A3 c1 c2 c3 _ (HG0.out.below_ hHeld) HZ.out hgd) (by simp [Act.eval]) ?_
      rintro e x1_4 ⟨rfl,hb1_4⟩
      refine ⟨_,rfl,?_⟩
      simp only [Act.put,List.setIfInBounds_toArray,List.set_cons_zero,List.set_cons_succ]
      refine pl_held (B:=v0.heap.size) (v:=v0) (below_then hHeld hHeld.size hb1_4) (fun hHeld => ?_)
      refine pl_pure (N:=(some 24)) (v:=?v22) (by rfl) rfl ?h22 ?_
      case h22 => (go_simp;rfl)
      simp only [Act.put,List.setIfInBounds_toArray,List.set_cons_zero,List.set_cons_succ]
      refine pl_pure (N:=(some 25)) (v:=?v23) (by rfl) rfl ?h23 ?_
      case h23 => (go_simp;rfl)
      simp only [Act.put,List.setIfInBounds_toArray,List.set_cons_zero,List.set_cons_succ]
      refine pl_nil ?_
      obtain ⟨q1,q2,q3,q4⟩:=goodF_small hgd
      have HX4:=Aside0.mk (below_then HX1.out HX1.out.size hb1_4)
      have HMEM:=Aside0.mk (goodF_mem hgd)
      obtain ⟨n,hn⟩ : ∃ n,nsym g = n:=⟨_,rfl⟩
      have hn80 : n ≤ 80:=by rw [← hn];unfold nsym;omega
      have hn1 : 1 ≤ n:=by rw [← hn];unfold nsym;omega
      have hnT : g.terms.length < n:=by rw [← hn];unfold nsym;omega
      have e1 : IntKind.i64.wrap ((g.terms.length : Int) + (g.names.length : Int)) = (n : Int):=by rw [IntWalk.i64_in _ (by omega),← hn];unfold nsym;omega
      have HN:=Lib.hid hn
      have HGD:=Lib.hid hgd
      clear hn hgd hHeld hb1_1 hb1_4
      have K1:=Aside0.mk (blk_below HP0.out HX4.out)
      have a1:=(blk_cell K1.out 0).trans rfl
      have a2:=(blk_cell K1.out 1).trans rfl
      obtain ⟨a,ha⟩ : ∃ a : Nat,fr % (n : Int) = a:=⟨(fr % (n : Int)).toNat,by have:=Int.emod_nonneg fr (show (n : Int) ≠ 0 by omega);omega⟩
      have han : a < n:=by have:=Int.emod_lt_of_pos fr (show (0 : Int) < n by omega);omega
      have ht : IntKind.i64.wrap fr = fr:=by rw [IntWalk.i64_in _ (by omega)]
      have ht2 : fr.tmod (n : Int) = (a : Int):=by rw [Int.tmod_eq_emod_of_nonneg hfr.1,ha]
      have hnz : ¬ n = 0:=by omega
      clear ha
      go_upto_region 5 with (fail)
      clear e1 a1 a2 ht ht2 hnz hfr
      have HG4:=Aside0.mk (HG0.out.below_ HX4.out)
      refine start_ (n:=16) (S:=fun w' => Below x1_4.heap.size x1_4 w') (ds:=[11]) (lb 16 0x0) (by kernel_rfl) rfl (by kernel_rfl) (below_drew1 (Below.refl _ _)) (fun hHeld => ?_)
      refine pure_ (i:=1) (N:=(some 39)) (v:=?_) (a':=?_) (lb 16 0x2) rfl rfl (by kernel_rfl) (fun _ _ _ h => h) (Or.inl ⟨by rfl,?_⟩) ?_ ?_
      rotate_left
      · (intro w';go_simp;with_reducible rfl)
      rotate_left
      · (simp only [Act.put,List.setIfInBounds_toArray,List.set_cons_zero,List.set_cons_succ];rfl)
      refine pure_ (i:=8) (N:=(some 46)) (v:=?_) (a':=?_) (lb 16 0x102) rfl rfl (by kernel_rfl) (fun _ _ _ h => h) (Or.inl ⟨by rfl,?_⟩) ?_ ?_
      rotate_left
      · (intro w';go_simp;with_reducible rfl)
      rotate_left
      · (simp only [Act.put,List.setIfInBounds_toArray,List.set_cons_zero,List.set_cons_succ];rfl)
      refine take_ (i:=0) (N:=(some 38)) (v:=?_) (a':=?_) (lb 16 0x103) rfl rfl (by kernel_rfl) (fun _ _ _ h => h) (Or.inl ⟨by rfl,?_⟩) hHeld ?_ ?_
      rotate_left
      · (rintro w' hS;have d0:=(blk_cell (blk_below K1.out hS) 0).trans rfl;have d1:=(blk_cell (blk_below K1.out hS) 1).trans rfl;have d2:=(blk_cell (blk_below K1.out hS) 2).trans rfl;go_simp;with_reducible rfl)
      rotate_left
      · (simp only [Act.put,List.setIfInBounds_toArray,List.set_cons_zero,List.set_cons_succ];rfl)
      refine take_ (i:=3) (N:=(some 41)) (v:=?_) (a':=?_) (lb 16 0x10b) rfl rfl (by kernel_rfl) (fun _ _ _ h => h) (Or.inl ⟨by rfl,?_⟩) hHeld ?_ ?_
      rotate_left
      · (rintro w' hS;have d0:=(blk_cell (blk_below K1.out hS) 0).trans rfl;have d1:=(blk_cell (blk_below K1.out hS) 1).trans rfl;have d2:=(blk_cell (blk_below K1.out hS) 2).trans rfl;go_simp;with_reducible rfl)
      rotate_left
      · (simp only [Act.put,List.setIfInBounds_toArray,List.set_cons_zero,List.set_cons_succ];rfl)
      refine take_ (i:=5) (N:=(some 43)) (v:=?_) (a':=?_) (lb 16 0x12b) rfl rfl (by kernel_rfl) (fun _ _ _ h => h) (Or.inl ⟨by rfl,?_⟩) hHeld ?_ ?_
      rotate_left
      · (rintro w' hS;have d0:=(blk_cell (blk_below K1.out hS) 0).trans rfl;have d1:=(blk_cell (blk_below K1.out hS) 1).trans rfl;have d2:=(blk_cell (blk_below K1.out hS) 2).trans rfl;go_simp;with_reducible rfl)
      rotate_left
      · (simp only [Act.put,List.setIfInBounds_toArray,List.set_cons_zero,List.set_cons_succ];rfl)
      refine take_ (i:=7) (N:=(some 45)) (v:=?_) (a':=?_) (lb 16 0x1ab) rfl rfl (by kernel_rfl) (fun _ _ _ h => h) (Or.inl ⟨by rfl,?_⟩) hHeld ?_ ?_
      rotate_left
      · (rintro w' hS;have d0:=(blk_cell (blk_below K1.out hS) 0).trans rfl;have d1:=(blk_cell (blk_below K1.out hS) 1).trans rfl;have d2:=(blk_cell (blk_below K1.out hS) 2).trans rfl;go_simp;with_reducible rfl)
      rotate_left
      · (simp only [Act.put,List.setIfInBounds_toArray,List.set_cons_zero,List.set_cons_succ];rfl)
      refine take_ (i:=9) (N:=(some 47)) (v:=?_) (a':=?_) (lb 16 0x3ab) rfl rfl (by kernel_rfl) (fun _ _ _ h => h) (Or.inl ⟨by rfl,?_⟩) hHeld ?_ ?_
      rotate_left
      · (rintro w' hS;have d0:=(blk_cell (blk_below K1.out hS) 0).trans rfl;have d1:=(blk_cell (blk_below K1.out hS) 1).trans rfl;have d2:=(blk_cell (blk_below K1.out hS) 2).trans rfl;go_simp;with_reducible rfl)
      rotate_left
      · (simp only [Act.put,List.setIfInBounds_toArray,List.set_cons_zero,List.set_cons_succ];rfl)
      refine pure_ (i:=10) (N:=(some 48)) (v:=?_) (a':=?_) (lb 16 0x7ab) rfl rfl (by kernel_rfl) (fun _ _ _ h => h) (Or.inl ⟨by rfl,?_⟩) ?_ ?_
      rotate_left
      · (intro w';go_simp;with_reducible rfl)
      rotate_left
      · (simp only [Act.put,List.setIfInBounds_toArray,List.set_cons_zero,List.set_cons_succ];rfl)
      refine one_ (i:=2) (N:=(some 40)) (lb 16 0x7af) rfl rfl (by kernel_rfl) (by decide) (fun K hK => ?_)
      (refine goesC_ Try.func38 (by kernel_rfl) rfl (by rfl) rfl rfl (reachU_yes g A1 A2 A3 c1 c2 c3 (a : Int) _ (HG4.out.below_ hHeld) HGD.out HN.out (by omega) (by omega)) (by simp [Act.eval]) ?_;rintro e w9 ⟨⟨br,rfl,hr,hrs⟩,hb9⟩;refine ⟨_,rfl,?_⟩;have HQ9:=Aside0.mk (below_then hHeld hHeld.size hb9);have HR1:=Aside0.mk hr;clear hr hrs;clear hb9;refine hK.out _ _ HQ9.out (fun hHeld => ?_))
      skip
      clear hK K
      refine norm_ (a':=?_) ?_ ?_
      rotate_left
      · (show Act.put _ (some 40) _ = _;simp only [Act.put,List.setIfInBounds_toArray,List.set_cons_zero,List.set_cons_succ];rfl)
      refine one_ (i:=4) (N:=(some 42)) (lb 16 0x7bf) rfl rfl (by kernel_rfl) (by decide) (fun K hK => ?_)
      (refine goesC_ Try.func40 (by kernel_rfl) rfl (by rfl) rfl rfl (prod_yes g A1 A2 A3 c1 c2 c3 _ (HG4.out.below_ hHeld) HGD.out HN.out) (by simp [Act.eval]) ?_;rintro e w9 ⟨⟨bp,rfl,hp,hps⟩,hb9⟩;refine ⟨_,rfl,?_⟩;have HQ9:=Aside0.mk (below_then hHeld hHeld.size hb9);have HR2:=Aside0.mk (HR1.out.below hb9);have HP2:=Aside0.mk hp;clear hp hps;clear hb9;refine hK.out _ _ HQ9.out (fun hHeld => ?_))
      skip
      clear hK K
      refine norm_ (a':=?_) ?_ ?_
      rotate_left
      · (show Act.put _ (some 42) _ = _;simp only [Act.put,List.setIfInBounds_toArray,List.set_cons_zero,List.set_cons_succ];rfl)
      refine one_ (i:=6) (N:=(some 44)) (lb 16 0x7ff) rfl rfl (by kernel_rfl) (by decide) (fun K hK => ?_)
      (refine goesC_ Try.func42 (by kernel_rfl) rfl (by rfl) rfl rfl (useful_yes g A1 A2 A3 c1 c2 c3 _ (HG4.out.below_ hHeld) HGD.out HN.out) (by simp [Act.eval]) ?_;rintro e w9 ⟨⟨bu,rfl,hu,hus⟩,hb9⟩;refine ⟨_,rfl,?_⟩;have HQ9:=Aside0.mk (below_then hHeld hHeld.size hb9);have HR3:=Aside0.mk (HR2.out.below hb9);have HP3:=Aside0.mk (HP2.out.below hb9);have HU3:=Aside0.mk hu;clear hu hus;clear hb9;refine hK.out _ _ HQ9.out (fun hHeld => ?_))
      skip
      clear hK K
      refine norm_ (a':=?_) ?_ ?_
      rotate_left
      · (show Act.put _ (some 44) _ = _;simp only [Act.put,List.setIfInBounds_toArray,List.set_cons_zero,List.set_cons_succ];rfl)
      refine last_ (i:=11) (N:=(some 49)) (lb 16 0xfff) rfl rfl (by kernel_rfl) (by decide) (fun K hK => ?_)
      (refine goesC_ Try.func38 (by kernel_rfl) rfl (by rfl) rfl rfl (reachU_yes g A1 A2 A3 c1 c2 c3 (g.terms.length : Int) _ (HG4.out.below_ hHeld) HGD.out HN.out (by omega) (by omega)) (by simp [Act.eval]) ?_;rintro e w9 ⟨⟨bs,rfl,hss,hsss⟩,hb9⟩;refine ⟨_,rfl,?_⟩;have HW9:=Aside0.mk (below_then hHeld hHeld.size hb9);have HR:=Aside0.mk (HR3.out.below hb9);have HP:=Aside0.mk (HP3.out.below hb9);have HU:=Aside0.mk (HU3.out.below hb9);have HS:=Aside0.mk hss;clear hss hsss hb9)
      refine hK.out _ _ ?_
      clear hK K
      refine norm_ (a':=?_) ?_ ?_
      rotate_left
      · (show Act.put _ (some 49) _ = _;simp only [Act.put,List.setIfInBounds_toArray,List.set_cons_zero,List.set_cons_succ];rfl)
      refine pure_ (i:=12) (N:=(some 7)) (v:=?_) (a':=?_) (lb 16 0x1fff) rfl rfl (by kernel_rfl) (fun _ _ _ h => h) (Or.inl ⟨by rfl,?_⟩) ?_ ?_
      rotate_left
      · (intro w';go_simp;with_reducible rfl)
      rotate_left
      · (simp only [Act.put,List.setIfInBounds_toArray,List.set_cons_zero,List.set_cons_succ];rfl)
      refine pure_ (i:=13) (N:=(some 8)) (v:=?_) (a':=?_) (lb 16 0x3fff) rfl rfl (by kernel_rfl) (fun _ _ _ h => h) (Or.inl ⟨by rfl,?_⟩) ?_ ?_
      rotate_left
      · (intro w';go_simp;with_reducible rfl)
      rotate_left
      · (simp only [Act.put,List.setIfInBounds_toArray,List.set_cons_zero,List.set_cons_succ];rfl)
      refine pure_ (i:=14) (N:=(some 9)) (v:=?_) (a':=?_) (lb 16 0x7fff) rfl rfl (by kernel_rfl) (fun _ _ _ h => h) (Or.inl ⟨by rfl,?_⟩) ?_ ?_
      rotate_left
      · (intro w';go_simp;with_reducible rfl)
      rotate_left
      · (simp only [Act.put,List.setIfInBounds_toArray,List.set_cons_zero,List.set_cons_succ];rfl)
      refine pure_ (i:=15) (N:=(some 10)) (v:=?_) (a':=?_) (lb 16 0xffff) rfl rfl (by kernel_rfl) (fun _ _ _ h => h) (Or.inl ⟨by rfl,?_⟩) ?_ ?_
      rotate_left
      · (intro w';go_simp;with_reducible rfl)
      rotate_left
      · (simp only [Act.put,List.setIfInBounds_toArray,List.set_cons_zero,List.set_cons_succ];rfl)
      refine done_ (by kernel_rfl) ?_
      have h0a : (0 : Int) ≤ (a : Int):=by omega
      have h1a : (a : Int) < nsym g:=by rw [HN.out];omega
      have HV5:=Aside0.mk (below_then HB0.out HB0.out.size (below_then HX4.out HX4.out.size HW9.out))
      have HRL : Aside0 ((reachF g allOk (a : Int)).length = n):=⟨by rw [(reachF_is HGD.out allOk h0a h1a).1,HN.out]⟩
      have HSL : Aside0 ((reachF g allOk (g.terms.length : Int)).length = n):=⟨by rw [(reachF_is HGD.out allOk (start_in HGD.out).1 (start_in HGD.out).2).1,HN.out]⟩
      have HPL : Aside0 ((prodF g).length = n):=⟨by rw [(prodF_is HGD.out).1,HN.out]⟩
      have HUL : Aside0 ((usefulF g).length = n):=⟨by rw [usefulF_len HGD.out,HN.out]⟩
      have HTR : Aside0 (∀ {b c : Int},getB (reachF g allOk (a : Int)) b = true → getB (reachF g allOk b) c = true → getB (reachF g allOk (a : Int)) c = true):=⟨fun hb hc => reach_trans HGD.out allOk h0a h1a hb hc⟩
      have hz:=HR.out.cell' (i:=a) (by rw [HRL.out];exact han) (reach_self HGD.out allOk h0a h1a)
      have K5:=Aside0.mk (blk_below K1.out HW9.out)
      have HG5:=Aside0.mk (HG4.out.below_ HW9.out)
      have i2 : (a : Int) < (n : Int):=by omega
      clear HX1 HX4 HP0 HG0 HB0 K1 h1a HG4 HW9
      rename World => v1
      go_wp2
      clear hz i2
      go_loopw [11] (fun i wr => ∃ s : Nat,s ≤ n ∧ i = .int .i64 s ∧ Aside0 (Below v1.heap.size v1 wr)) (fun i _ => n - (intOf i).toNat)
      case atStart => exact ⟨0,Nat.zero_le _,rfl,⟨Below.refl _ _⟩⟩
      case round =>
        obtain ⟨s,hs,rfl,HB⟩:=hrel
        rename World => wo
        have K6:=Aside0.mk (blk_below K5.out HB.out)
        have HG6:=Aside0.mk (HG5.out.below_ HB.out)
        by_cases hsn : s < n
        · have i1 : (0 : Int) ≤ (s : Int):=by omega
          have i2 : (s : Int) < (n : Int):=by omega
          have h2s : (s : Int) < nsym g:=by rw [HN.out];omega
          have HQL : Aside0 ((reachF g allOk (s : Int)).length = n):=⟨by rw [(reachF_is HGD.out allOk i1 h2s).1,HN.out]⟩
          have hus:=fun h => useful_reach (s:=(s : Int)) HGD.out h
          have hpt:=fun h => prod_term (s:=(s : Int)) HGD.out i1 h
          have htr:=fun h (c : Int) => HTR.out (b:=(s : Int)) (c:=c) h
          have a1:=(blk_cell K6.out 0).trans rfl
          obtain ⟨ub,hub⟩ : ∃ x,getB (usefulF g) (s : Int) = x:=⟨_,rfl⟩
          obtain ⟨sb,hsb⟩ : ∃ x,getB (reachF g allOk (g.terms.length : Int)) (s : Int) = x:=⟨_,rfl⟩
          obtain ⟨pb,hpb⟩ : ∃ x,getB (prodF g) (s : Int) = x:=⟨_,rfl⟩
          obtain ⟨rb,hrb⟩ : ∃ x,getB (reachF g allOk (a : Int)) (s : Int) = x:=⟨_,rfl⟩
          have hzu:=(HU.out.below HB.out).cell' (i:=s) (by rw [HUL.out];exact hsn) hub
          have hzs:=(HS.out.below HB.out).cell' (i:=s) (by rw [HSL.out];exact hsn) hsb
          have hzp:=(HP.out.below HB.out).cell' (i:=s) (by rw [HPL.out];exact hsn) hpb
          have hzr:=(HR.out.below HB.out).cell' (i:=s) (by rw [HRL.out];exact hsn) hrb
          rw [hub,hsb,hpb] at hus
          rw [hpb] at hpt
          rw [hrb] at htr
          have hcs : (ub = true ∧ sb = true ∧ pb = true ∧ s < g.terms.length) ∨ (ub = true ∧ sb = true ∧ pb = true ∧ ¬ s < g.terms.length) ∨ (ub = false ∧ pb = true ∧ s < g.terms.length) ∨ (ub = false ∧ ¬ s < g.terms.length):=by
            by_cases hd : s < g.terms.length <;> cases ub
            · exact Or.inr (Or.inr (Or.inl ⟨rfl,hpt (by omega),hd⟩))
            · exact Or.inl ⟨rfl,(hus rfl).1,(hus rfl).2,hd⟩
            · exact Or.inr (Or.inr (Or.inr ⟨rfl,hd⟩))
            · exact Or.inr (Or.inl ⟨rfl,(hus rfl).1,(hus rfl).2,hd⟩)
          have HTS:=Aside0.mk htr
          clear hus hpt htr hub hsb hpb hrb
          obtain (⟨rfl,rfl,rfl,hsT⟩ | ⟨rfl,rfl,rfl,hsT⟩ | ⟨rfl,rfl,hsT⟩ | ⟨rfl,hsT⟩):=hcs
          · have d1 : decide ((s : Int) < (g.terms.length : Int)) = true:=by simp;omega
            cases rb
            · go_wp2
              go_roundw
              case rel => exact ⟨s + 1,by omega,by go_num,HB⟩
              case measure => simp [intOf];omega
            · go_upto_region 14 with (fail)
              clear d1 hsT a1 hzu hzs hzp hzr
              refine pl_start ?_
              refine pl_held (B:=wo.heap.size) (v:=wo) (Below.refl _ _) (fun hHeld => ?_)
              refine pl_pure (N:=(some 121)) (v:=?v24) (by rfl) rfl ?h24 ?_
              case h24 => (have d0:=(blk_cell (blk_below K6.out hHeld) 0).trans rfl;have d1:=(blk_cell (blk_below K6.out hHeld) 1).trans rfl;have d2:=(blk_cell (blk_below K6.out hHeld) 2).trans rfl;go_simp;rfl)
              simp only [Act.put,List.setIfInBounds_toArray,List.set_cons_zero,List.set_cons_succ]
              refine pl_pure (N:=(some 122)) (v:=?v25) (by rfl) rfl ?h25 ?_
              case h25 => (go_simp;rfl)
              simp only [Act.put,List.setIfInBounds_toArray,List.set_cons_zero,List.set_cons_succ]
              refine goesCL_ (N:=(some 123)) Try.func38 (by kernel_rfl) rfl (by rfl) rfl rfl (reachU_yes g A1 A2 A3 c1 c2 c3 (s : Int) _ (HG6.out.below_ hHeld) HGD.out HN.out (by omega) (by omega)) (by simp [Act.eval]) ?_
              rintro e x14_2 ⟨⟨bq,rfl,hq,hqs⟩,hb14_2⟩
              refine ⟨_,rfl,?_⟩
              simp only [Act.put,List.setIfInBounds_toArray,List.set_cons_zero,List.set_cons_succ]
              refine pl_held (B:=wo.heap.size) (v:=wo) (below_then hHeld hHeld.size hb14_2) (fun hHeld => ?_)
              refine pl_pure (N:=(some 12)) (v:=?v27) (by rfl) rfl ?h27 ?_
              case h27 => (go_simp;rfl)
              simp only [Act.put,List.setIfInBounds_toArray,List.set_cons_zero,List.set_cons_succ]
              refine pl_nil ?_
              have HQ:=Aside0.mk hq
              have HR6:=Aside0.mk ((HR.out.below HB.out).below hHeld)
              have HF:=Aside0.mk (below_then HB.out HB.out.size hHeld)
              clear hq hqs hHeld hb14_2
              go_wp2
              go_loop [13] (fun i => ∃ k : Nat,k ≤ n ∧ i = .int .i64 k) (fun i => n - (intOf i).toNat)
              case atStart => exact ⟨0,Nat.zero_le _,rfl⟩
              case round =>
                obtain ⟨k,hk,rfl⟩:=hrel
                by_cases hkn : k < n
                · have k1 : (0 : Int) ≤ (k : Int):=by omega
                  have k2 : (k : Int) < (n : Int):=by omega
                  have hts : getB (reachF g allOk (s : Int)) (k : Int) = true → getB (reachF g allOk (a : Int)) (k : Int) = true:=HTS.out (by simp) (k : Int)
                  obtain ⟨qb,hqb⟩ : ∃ x,getB (reachF g allOk (s : Int)) (k : Int) = x:=⟨_,rfl⟩
                  obtain ⟨rb,hrb⟩ : ∃ x,getB (reachF g allOk (a : Int)) (k : Int) = x:=⟨_,rfl⟩
                  have hzq:=HQ.out.cell' (i:=k) (by rw [HQL.out];exact hkn) hqb
                  have hzr:=HR6.out.cell' (i:=k) (by rw [HRL.out];exact hkn) hrb
                  rw [hqb,hrb] at hts
                  clear hqb hrb
                  cases qb
                  · clear hts
                    go_wp2
                    go_round
                    case rel => exact ⟨k + 1,by omega,by go_num⟩
                    case measure => simp [intOf];omega
                  · have hr1:=hts rfl
                    subst hr1
                    clear hts
                    go_wp2
                    go_round
                    case rel => exact ⟨k + 1,by omega,by go_num⟩
                    case measure => simp [intOf];omega
                · go_wp2
                  go_roundw
                  case rel => exact ⟨s + 1,by omega,by go_num,HF⟩
                  case measure => simp [intOf];omega
          · have d1 : decide ((s : Int) < (g.terms.length : Int)) = false:=by simp;omega
            cases rb
            · go_wp2
              go_roundw
              case rel => exact ⟨s + 1,by omega,by go_num,HB⟩
              case measure => simp [intOf];omega
            · go_upto_region 14 with (fail)
              clear d1 hsT a1 hzu hzs hzp hzr
              refine pl_start ?_
              refine pl_held (B:=wo.heap.size) (v:=wo) (Below.refl _ _) (fun hHeld => ?_)
              refine pl_pure (N:=(some 121)) (v:=?v28) (by rfl) rfl ?h28 ?_
              case h28 => (have d0:=(blk_cell (blk_below K6.out hHeld) 0).trans rfl;have d1:=(blk_cell (blk_below K6.out hHeld) 1).trans rfl;have d2:=(blk_cell (blk_below K6.out hHeld) 2).trans rfl;go_simp;rfl)
              simp only [Act.put,List.setIfInBounds_toArray,List.set_cons_zero,List.set_cons_succ]
              refine pl_pure (N:=(some 122)) (v:=?v29) (by rfl) rfl ?h29 ?_
              case h29 => (go_simp;rfl)
              simp only [Act.put,List.setIfInBounds_toArray,List.set_cons_zero,List.set_cons_succ]
              refine goesCL_ (N:=(some 123)) Try.func38 (by kernel_rfl) rfl (by rfl) rfl rfl (reachU_yes g A1 A2 A3 c1 c2 c3 (s : Int) _ (HG6.out.below_ hHeld) HGD.out HN.out (by omega) (by omega)) (by simp [Act.eval]) ?_
              rintro e x14_2 ⟨⟨bq,rfl,hq,hqs⟩,hb14_2⟩
              refine ⟨_,rfl,?_⟩
              simp only [Act.put,List.setIfInBounds_toArray,List.set_cons_zero,List.set_cons_succ]
              refine pl_held (B:=wo.heap.size) (v:=wo) (below_then hHeld hHeld.size hb14_2) (fun hHeld => ?_)
              refine pl_pure (N:=(some 12)) (v:=?v31) (by rfl) rfl ?h31 ?_
              case h31 => (go_simp;rfl)
              simp only [Act.put,List.setIfInBounds_toArray,List.set_cons_zero,List.set_cons_succ]
              refine pl_nil ?_
              have HQ:=Aside0.mk hq
              have HR6:=Aside0.mk ((HR.out.below HB.out).below hHeld)
              have HF:=Aside0.mk (below_then HB.out HB.out.size hHeld)
              clear hq hqs hHeld hb14_2
              go_wp2
              go_loop [13] (fun i => ∃ k : Nat,k ≤ n ∧ i = .int .i64 k) (fun i => n - (intOf i).toNat)
              case atStart => exact ⟨0,Nat.zero_le _,rfl⟩
              case round =>
                obtain ⟨k,hk,rfl⟩:=hrel
                by_cases hkn : k < n
                · have k1 : (0 : Int) ≤ (k : Int):=by omega
                  have k2 : (k : Int) < (n : Int):=by omega
                  have hts : getB (reachF g allOk (s : Int)) (k : Int) = true → getB (reachF g allOk (a : Int)) (k : Int) = true:=HTS.out (by simp) (k : Int)
                  obtain ⟨qb,hqb⟩ : ∃ x,getB (reachF g allOk (s : Int)) (k : Int) = x:=⟨_,rfl⟩
                  obtain ⟨rb,hrb⟩ : ∃ x,getB (reachF g allOk (a : Int)) (k : Int) = x:=⟨_,rfl⟩
                  have hzq:=HQ.out.cell' (i:=k) (by rw [HQL.out];exact hkn) hqb
                  have hzr:=HR6.out.cell' (i:=k) (by rw [HRL.out];exact hkn) hrb
                  rw [hqb,hrb] at hts
                  clear hqb hrb
                  cases qb
                  · clear hts
                    go_wp2
                    go_round
                    case rel => exact ⟨k + 1,by omega,by go_num⟩
                    case measure => simp [intOf];omega
                  · have hr1:=hts rfl
                    subst hr1
                    clear hts
                    go_wp2
                    go_round
                    case rel => exact ⟨k + 1,by omega,by go_num⟩
                    case measure => simp [intOf];omega
                · go_wp2
                  go_roundw
                  case rel => exact ⟨s + 1,by omega,by go_num,HF⟩
                  case measure => simp [intOf];omega
          · have d1 : decide ((s : Int) < (g.terms.length : Int)) = true:=by simp;omega
            cases rb
            · go_wp2
              go_roundw
              case rel => exact ⟨s + 1,by omega,by go_num,HB⟩
              case measure => simp [intOf];omega
            · go_upto_region 14 with (fail)
              clear d1 hsT a1 hzu hzs hzp hzr
              refine pl_start ?_
              refine pl_held (B:=wo.heap.size) (v:=wo) (Below.refl _ _) (fun hHeld => ?_)
              refine pl_pure (N:=(some 121)) (v:=?v32) (by rfl) rfl ?h32 ?_
              case h32 => (have d0:=(blk_cell (blk_below K6.out hHeld) 0).trans rfl;have d1:=(blk_cell (blk_below K6.out hHeld) 1).trans rfl;have d2:=(blk_cell (blk_below K6.out hHeld) 2).trans rfl;go_simp;rfl)
              simp only [Act.put,List.setIfInBounds_toArray,List.set_cons_zero,List.set_cons_succ]
              refine pl_pure (N:=(some 122)) (v:=?v33) (by rfl) rfl ?h33 ?_
              case h33 => (go_simp;rfl)
              simp only [Act.put,List.setIfInBounds_toArray,List.set_cons_zero,List.set_cons_succ]
              refine goesCL_ (N:=(some 123)) Try.func38 (by kernel_rfl) rfl (by rfl) rfl rfl (reachU_yes g A1 A2 A3 c1 c2 c3 (s : Int) _ (HG6.out.below_ hHeld) HGD.out HN.out (by omega) (by omega)) (by simp [Act.eval]) ?_
              rintro e x14_2 ⟨⟨bq,rfl,hq,hqs⟩,hb14_2⟩
              refine ⟨_,rfl,?_⟩
              simp only [Act.put,List.setIfInBounds_toArray,List.set_cons_zero,List.set_cons_succ]
              refine pl_held (B:=wo.heap.size) (v:=wo) (below_then hHeld hHeld.size hb14_2) (fun hHeld => ?_)
              refine pl_pure (N:=(some 12)) (v:=?v35) (by rfl) rfl ?h35 ?_
              case h35 => (go_simp;rfl)
              simp only [Act.put,List.setIfInBounds_toArray,List.set_cons_zero,List.set_cons_succ]
              refine pl_nil ?_
              have HQ:=Aside0.mk hq
              have HR6:=Aside0.mk ((HR.out.below HB.out).below hHeld)
              have HF:=Aside0.mk (below_then HB.out HB.out.size hHeld)
              clear hq hqs hHeld hb14_2
              go_wp2
              go_loop [13] (fun i => ∃ k : Nat,k ≤ n ∧ i = .int .i64 k) (fun i => n - (intOf i).toNat)
              case atStart => exact ⟨0,Nat.zero_le _,rfl⟩
              case round =>
                obtain ⟨k,hk,rfl⟩:=hrel
                by_cases hkn : k < n
                · have k1 : (0 : Int) ≤ (k : Int):=by omega
                  have k2 : (k : Int) < (n : Int):=by omega
                  have hts : getB (reachF g allOk (s : Int)) (k : Int) = true → getB (reachF g allOk (a : Int)) (k : Int) = true:=HTS.out (by simp) (k : Int)
                  obtain ⟨qb,hqb⟩ : ∃ x,getB (reachF g allOk (s : Int)) (k : Int) = x:=⟨_,rfl⟩
                  obtain ⟨rb,hrb⟩ : ∃ x,getB (reachF g allOk (a : Int)) (k : Int) = x:=⟨_,rfl⟩
                  have hzq:=HQ.out.cell' (i:=k) (by rw [HQL.out];exact hkn) hqb
                  have hzr:=HR6.out.cell' (i:=k) (by rw [HRL.out];exact hkn) hrb
                  rw [hqb,hrb] at hts
                  clear hqb hrb
                  cases qb
                  · clear hts
                    go_wp2
                    go_round
                    case rel => exact ⟨k + 1,by omega,by go_num⟩
                    case measure => simp [intOf];omega
                  · have hr1:=hts rfl
                    subst hr1
                    clear hts
                    go_wp2
                    go_round
                    case rel => exact ⟨k + 1,by omega,by go_num⟩
                    case measure => simp [intOf];omega
                · go_wp2
                  go_roundw
                  case rel => exact ⟨s + 1,by omega,by go_num,HF⟩
                  case measure => simp [intOf];omega
          · have d1 : decide ((s : Int) < (g.terms.length : Int)) = false:=by simp;omega
            cases rb
            · go_wp2
              go_roundw
              case rel => exact ⟨s + 1,by omega,by go_num,HB⟩
              case measure => simp [intOf];omega
            · go_upto_region 14 with (fail)
              clear d1 hsT a1 hzu hzs hzp hzr
              refine pl_start ?_
              refine pl_held (B:=wo.heap.size) (v:=wo) (Below.refl _ _) (fun hHeld => ?_)
              refine pl_pure (N:=(some 121)) (v:=?v36) (by rfl) rfl ?h36 ?_
              case h36 => (have d0:=(blk_cell (blk_below K6.out hHeld) 0).trans rfl;have d1:=(blk_cell (blk_below K6.out hHeld) 1).trans rfl;have d2:=(blk_cell (blk_below K6.out hHeld) 2).trans rfl;go_simp;rfl)
              simp only [Act.put,List.setIfInBounds_toArray,List.set_cons_zero,List.set_cons_succ]
              refine pl_pure (N:=(some 122)) (v:=?v37) (by rfl) rfl ?h37 ?_
              case h37 => (go_simp;rfl)
              simp only [Act.put,List.setIfInBounds_toArray,List.set_cons_zero,List.set_cons_succ]
              refine goesCL_ (N:=(some 123)) Try.func38 (by kernel_rfl) rfl (by rfl) rfl rfl (reachU_yes g A1 A2 A3 c1 c2 c3 (s : Int) _ (HG6.out.below_ hHeld) HGD.out HN.out (by omega) (by omega)) (by simp [Act.eval]) ?_
              rintro e x14_2 ⟨⟨bq,rfl,hq,hqs⟩,hb14_2⟩
              refine ⟨_,rfl,?_⟩
              simp only [Act.put,List.setIfInBounds_toArray,List.set_cons_zero,List.set_cons_succ]
              refine pl_held (B:=wo.heap.size) (v:=wo) (below_then hHeld hHeld.size hb14_2) (fun hHeld => ?_)
              refine pl_pure (N:=(some 12)) (v:=?v39) (by rfl) rfl ?h39 ?_
              case h39 => (go_simp;rfl)
              simp only [Act.put,List.setIfInBounds_toArray,List.set_cons_zero,List.set_cons_succ]
              refine pl_nil ?_
              have HQ:=Aside0.mk hq
              have HR6:=Aside0.mk ((HR.out.below HB.out).below hHeld)
              have HF:=Aside0.mk (below_then HB.out HB.out.size hHeld)
              clear hq hqs hHeld hb14_2
              go_wp2
              go_loop [13] (fun i => ∃ k : Nat,k ≤ n ∧ i = .int .i64 k) (fun i => n - (intOf i).toNat)
              case atStart => exact ⟨0,Nat.zero_le _,rfl⟩
              case round =>
                obtain ⟨k,hk,rfl⟩:=hrel
                by_cases hkn : k < n
                · have k1 : (0 : Int) ≤ (k : Int):=by omega
                  have k2 : (k : Int) < (n : Int):=by omega
                  have hts : getB (reachF g allOk (s : Int)) (k : Int) = true → getB (reachF g allOk (a : Int)) (k : Int) = true:=HTS.out (by simp) (k : Int)
                  obtain ⟨qb,hqb⟩ : ∃ x,getB (reachF g allOk (s : Int)) (k : Int) = x:=⟨_,rfl⟩
                  obtain ⟨rb,hrb⟩ : ∃ x,getB (reachF g allOk (a : Int)) (k : Int) = x:=⟨_,rfl⟩
                  have hzq:=HQ.out.cell' (i:=k) (by rw [HQL.out];exact hkn) hqb
                  have hzr:=HR6.out.cell' (i:=k) (by rw [HRL.out];exact hkn) hrb
                  rw [hqb,hrb] at hts
                  clear hqb hrb
                  cases qb
                  · clear hts
                    go_wp2
                    go_round
                    case rel => exact ⟨k + 1,by omega,by go_num⟩
                    case measure => simp [intOf];omega
                  · have hr1:=hts rfl
                    subst hr1
                    clear hts
                    go_wp2
                    go_round
                    case rel => exact ⟨k + 1,by omega,by go_num⟩
                    case measure => simp [intOf];omega
                · go_wp2
                  go_roundw
                  case rel => exact ⟨s + 1,by omega,by go_num,HF⟩
                  case measure => simp [intOf];omega
        · have HVo:=Aside0.mk (below_then HV5.out HV5.out.size HB.out)
          have HPo:=Aside0.mk (HP.out.below HB.out)
          have a1:=(blk_cell K6.out 0).trans rfl
          have a3:=(blk_cell K6.out 2).trans rfl
          have HPC:=Aside0.mk (HPo.out.C' HPL.out (by omega))
          clear HR HU HS HRL HSL HUL HTR HB HP
          go_wp2
          go_loop [14] (fun i => ∃ s : Nat,g.terms.length ≤ s ∧ s ≤ n ∧ i = .int .i64 s) (fun i => n - (intOf i).toNat)
          case atStart => exact ⟨g.terms.length,Nat.le_refl _,by omega,rfl⟩
          case round =>
            obtain ⟨s,hsT,hs,rfl⟩:=hrel
            by_cases hsn : s < n
            · go_wp2
              go_loop [16,15] (fun i sv => ∃ k : Nat,k ≤ g.rules.length ∧ i = .int .i64 k ∧ sv = .bool (someP (prodF g) (g.rules.take k) (s : Int))) (fun i _ => g.rules.length - (intOf i).toNat)
              case atStart => exact ⟨0,Nat.zero_le _,rfl,by simp [someP]⟩
              case round =>
                obtain ⟨k,hk,rfl,rfl⟩:=hrel
                by_cases hlt : k < g.rules.length
                · obtain ⟨ad,B1,e1,ead,hx,hy,hd1,hC1⟩:=at_rule HG6.out.rules k hlt
                  cases ead
                  have HT:=Lib.hid (someP_take (m:=prodF g) (s:=(s : Int)) hlt)
                  have hmem:=HMEM.out (g.rules[k]'hlt) (List.getElem_mem _)
                  obtain ⟨x,hx1⟩ : ∃ x,x = g.rules[k]'hlt:=⟨_,rfl⟩
                  rw [← hx1] at hx hy hd1 hC1 hmem HT
                  clear hx1
                  obtain ⟨lf,hlf⟩:=Int.eq_ofNat_of_zero_le (by omega : 0 ≤ x.left)
                  rw [hlf] at hx HT
                  have HXS:=Aside0.mk hmem.2.2.2
                  have hr8:=hmem.2.2.1
                  have HC3:=Aside0.mk hC1
                  obtain ⟨sm,hsm⟩ : ∃ sm,sm = someP (prodF g) (g.rules.take k) (s : Int):=⟨_,rfl⟩
                  rw [← hsm] at HT ⊢
                  obtain ⟨lb,hlb⟩ : ∃ b,((lf : Int) == (s : Int)) = b:=⟨_,rfl⟩
                  have hlb2 : decide ((lf : Int) = (s : Int)) = lb:=by rw [← hlb];rfl
                  rw [hlb2] at HT
                  have i1 : (0 : Int) ≤ (k : Int):=by omega
                  have i2 : (k : Int) < (g.rules.length : Int):=by omega
                  clear hmem hlf hsm hd1 hC1 hlb2
                  go_wp2
                  go_loop [18,17] (fun jv av => ∃ j : Nat,j ≤ x.right.length ∧ jv = .int .i64 j ∧ av = .bool (lb && allF (prodF g) (x.right.take j))) (fun jv _ => x.right.length - (intOf jv).toNat)
                  case atStart => exact ⟨0,Nat.zero_le _,rfl,by simp [allF]⟩
                  case round =>
                    obtain ⟨j,hj,rfl,rfl⟩:=hrel
                    by_cases hjl : j < x.right.length
                    · obtain ⟨bd,ebd,hyj⟩:=at_int HC3.out j hjl
                      cases ebd
                      have j1 : (0 : Int) ≤ (j : Int):=by omega
                      have j2 : (j : Int) < (x.right.length : Int):=by omega
                      have HTj:=Lib.hid (allF_take (m:=prodF g) hjl)
                      have hsy:=HXS.out (x.right[j]'hjl) (List.getElem_mem _)
                      obtain ⟨y,hy1⟩ : ∃ y,y = x.right[j]'hjl:=⟨_,rfl⟩
                      rw [← hy1] at hyj HTj hsy
                      clear hy1
                      obtain ⟨yn,rfl⟩:=Int.eq_ofNat_of_zero_le hsy.1
                      have s1 : (0 : Int) ≤ (yn : Int):=by omega
                      have s2 : (yn : Int) < (n : Int):=by rw [← HN.out];exact hsy.2
                      obtain ⟨pb,hpb⟩ : ∃ p,getB (prodF g) (yn : Int) = p:=⟨_,rfl⟩
                      have hzp:=HPo.out.cell' (i:=yn) (by rw [HPL.out];omega) hpb
                      rw [hpb] at HTj
                      obtain ⟨ab,hab⟩ : ∃ b,allF (prodF g) (x.right.take j) = b:=⟨_,rfl⟩
                      rw [hab] at HTj ⊢
                      clear hsy hpb hab hlb
                      cases lb
                      · rw [Bool.false_and]
                        go_wp2
                        go_round
                        case rel => exact ⟨j + 1,by omega,by go_num,by simp⟩
                        case measure => simp [intOf];omega
                      · rw [Bool.true_and]
                        cases ab
                        all_goals
                          go_wp2
                          go_round
                          case rel => exact ⟨j + 1,by omega,by go_num,by rw [HTj.out];simp⟩
                          case measure => simp [intOf];omega
                    · have hke : x.right.take j = x.right:=List.take_of_length_le (by omega)
                      rw [hke]
                      obtain ⟨ab,hab⟩ : ∃ b,(lb && allF (prodF g) x.right) = b:=⟨_,rfl⟩
                      rw [hab] at HT ⊢
                      clear hke hab hlb
                      cases sm
                      all_goals
                        go_wp2
                        go_round
                        case rel => exact ⟨k + 1,by omega,by go_num,by rw [HT.out];simp⟩
                        case measure => simp [intOf];omega
                · have hke : g.rules.take k = g.rules:=List.take_of_length_le (by omega)
                  have hps:=prod_some (s:=(s : Int)) HGD.out (by omega)
                  rw [hke,← hps]
                  obtain ⟨sm,hsm⟩ : ∃ b,getB (prodF g) (s : Int) = b:=⟨_,rfl⟩
                  have hzp:=HPo.out.cell' (i:=s) (by rw [HPL.out];exact hsn) hsm
                  rw [hsm]
                  have s1 : (0 : Int) ≤ (s : Int):=by omega
                  have s2 : (s : Int) < (n : Int):=by omega
                  clear hke hps hsm
                  cases sm
                  all_goals
                    go_wp2
                    go_round
                    case rel => exact ⟨s + 1,by omega,by omega,by go_num⟩
                    case measure => simp [intOf];omega
            · go_upto_region 37 with (fail)
              refine pl_start ?_
              refine pl_held (B:=wo.heap.size) (v:=wo) (Below.refl _ _) (fun hHeld => ?_)
              refine goesCL_ (N:=(some 203)) Try.func37 (by kernel_rfl) rfl (by rfl) rfl rfl (wakes07_c _) (by simp [Act.eval]) ?_
              rintro e x37_0 ⟨rfl,hb37_0⟩
              refine ⟨_,rfl,?_⟩
              simp only [Act.put,List.setIfInBounds_toArray,List.set_cons_zero,List.set_cons_succ]
              refine pl_held (B:=wo.heap.size) (v:=wo) (below_then hHeld hHeld.size hb37_0) (fun hHeld => ?_)
              refine pl_pure (N:=(some 4)) (v:=?v4) (by rfl) rfl ?h4 ?_
              case h4 => (go_simp;rfl)
              simp only [Act.put,List.setIfInBounds_toArray,List.set_cons_zero,List.set_cons_succ]
              refine pl_nil ?_
              go_wp2
              go_ret
              exact ⟨ret_bool rfl,below_then HVo.out HVo.out.size hHeld⟩
  · refine pl_pure (N:=(some 21)) (v:=?v5) (by rfl) rfl ?h5 ?_
    case h5 => (go_simp;rfl)
    simp only [Act.put,List.setIfInBounds_toArray,List.set_cons_zero,List.set_cons_succ]
    refine pl_off (N:=(some 22)) (by rfl) rfl ?_
    simp only [Act.put,List.setIfInBounds_toArray,List.set_cons_zero,List.set_cons_succ]
    refine pl_off (N:=(some 23)) (by rfl) rfl ?_
    simp only [Act.put,List.setIfInBounds_toArray,List.set_cons_zero,List.set_cons_succ]
    refine pl_off (N:=(some 24)) (by rfl) rfl ?_
    simp only [Act.put,List.setIfInBounds_toArray,List.set_cons_zero,List.set_cons_succ]
    refine pl_pure (N:=(some 25)) (v:=?v9) (by rfl) rfl ?h9 ?_
    case h9 => (go_simp;rfl)
    simp only [Act.put,List.setIfInBounds_toArray,List.set_cons_zero,List.set_cons_succ]
    refine pl_nil ?_
    go_upto_region 2 with (fail)
    refine pl_start ?_
    refine pl_held (B:=v0.heap.size) (v:=v0) (HX1.out) (fun hHeld => ?_)
    refine goesCL_ (N:=(some 26)) Try.func37 (by kernel_rfl) rfl (by rfl) rfl rfl (wakes07_c _) (by simp [Act.eval]) ?_
    rintro e x2_0 ⟨rfl,hb2_0⟩
    refine ⟨_,rfl,?_⟩
    simp only [Act.put,List.setIfInBounds_toArray,List.set_cons_zero,List.set_cons_succ]
    refine pl_held (B:=v0.heap.size) (v:=v0) (below_then hHeld hHeld.size hb2_0) (fun hHeld => ?_)
    refine pl_pure (N:=(some 4)) (v:=?v11) (by rfl) rfl ?h11 ?_
    case h11 => (go_simp;rfl)
    simp only [Act.put,List.setIfInBounds_toArray,List.set_cons_zero,List.set_cons_succ]
    refine pl_nil ?_
    go_wp2
    go_ret
    exact ⟨ret_bool rfl,below_then HB0.out HB0.out.size hHeld⟩
end Go.Proofs.Ytphmmppmhphgeaa
