/- The law ShowTells,walked: it answers true. -/
import Derived.Test.YtdpdbgaoaibafaaJQ
import Derived.Test.YtdpdbgaoaibafaaJN
import Derived.Test.YtdpdbgaoaibafaaJE
set_option linter.unusedVariables false
set_option linter.unusedSimpArgs false
namespace Go.Proofs.Ytdpdbgaoaibafaa
open Go.RowKit Go.Proofs.YtdpdbgaoaibafaaW.PrintWords Go.Proofs.YtdpdbgaoaibafaaW.PrintLast

set_option maxRecDepth 100000 in
set_option maxHeartbeats 8000000 in
theorem showTells_c (g : Gram) (A1 A2 A3 : Option Addr) (c1 c2 c3 : Nat) (i : Int) (w : World) (hg : RepG w g A1 A2 A3 c1 c2 c3) (hz : Sized g) (hi : -9223372036854775808 ≤ i ∧ i ≤ 9223372036854775807) :
    Calls Try.prog 3 #[.agg #[.slice A1 g.terms.length c1,.slice A2 g.names.length c2,.slice A3 g.rules.length c3],.int .i64 i] w fun e w' => e = .returned (.bool true) ∧ Below w.heap.size w w':=by
  obtain ⟨v0,hv0⟩ : ∃ v0 : World,v0 = w.alloc (.cells #[.slice A1 g.terms.length c1,.slice A2 g.names.length c2,.slice A3 g.rules.length c3] 25 (0,0)):=⟨_,rfl⟩
  have HB0 : Aside0 (Below w.heap.size w v0):=⟨by rw [hv0];exact (Below.refl w.heap.size w).alloc (Nat.le_refl _) _⟩
  have HP0 : Aside0 (v0.heap[w.heap.size]? = some (.cells #[.slice A1 g.terms.length c1,.slice A2 g.names.length c2,.slice A3 g.rules.length c3] 25 (0,0))):=⟨by rw [hv0];exact blk_new w _⟩
  have HG0:=Aside0.mk (hg.below_ HB0.out)
  have HZ:=Aside0.mk hz
  clear hg hz
  go_enter Try.func3,Try.ntmps3
  go_upto_region 1 with (fail)
  simp only [← hv0]
  clear hv0
  refine pl_start ?_
  refine pl_held (B:=v0.heap.size) (v:=v0) (Below.refl _ _) (fun hHeld => ?_)
  refine pp_ ?_ ?_ ?_ (y:=by have d0:=(blk_cell (blk_below HP0.out hHeld) 0).trans rfl;have d1:=(blk_cell (blk_below HP0.out hHeld) 1).trans rfl;have d2:=(blk_cell (blk_below HP0.out hHeld) 2).trans rfl;go_simp;rfl)
  refine goesCL_ (N:=(some 14)) Try.func15 (by kernel_rfl) rfl (by rfl) rfl rfl (large_c g A1 A2 A3 c1 c2 c3 _ (HG0.out.below_ hHeld)) (by simp [Act.eval]) ?_
  rintro e x1_1 ⟨⟨lb,rfl,hs⟩,hb1_1⟩
  refine ⟨_,rfl,?_⟩
  simp only [Act.put,List.setIfInBounds_toArray,List.set_cons_zero,List.set_cons_succ]
  have HS:=Aside0.mk hs
  clear hs
  refine pl_held (B:=v0.heap.size) (v:=v0) (below_then hHeld hHeld.size hb1_1) (fun hHeld => ?_)
  refine pl_nil ?_
  have HX1:=Aside0.mk hHeld
  cases lb
  · have HS1:=Aside0.mk (HS.out rfl)
    go_upto_region 3 with (fail)
    refine pl_start ?_
    refine pl_held (B:=v0.heap.size) (v:=v0) (HX1.out) (fun hHeld => ?_)
    refine pp_ ?_ ?_ ?_ (y:=by have d0:=(blk_cell (blk_below HP0.out hHeld) 0).trans rfl;have d1:=(blk_cell (blk_below HP0.out hHeld) 1).trans rfl;have d2:=(blk_cell (blk_below HP0.out hHeld) 2).trans rfl;go_simp;rfl)
    refine goesCL_ (N:=(some 17)) Try.func17 (by kernel_rfl) rfl (by rfl) rfl rfl (own_c g A1 A2 A3 c1 c2 c3 _ (HG0.out.below_ hHeld) HS1.out.own) (by simp [Act.eval]) ?_
    rintro e x3_1 ⟨⟨B1,B2,B3,e1,e2,e3,rfl,ho⟩,hb3_1⟩
    refine ⟨_,rfl,?_⟩
    simp only [Act.put,List.setIfInBounds_toArray,List.set_cons_zero,List.set_cons_succ]
    refine pl_held (B:=v0.heap.size) (v:=v0) (below_then hHeld hHeld.size hb3_1) (fun hHeld => ?_)
    refine pl_value (N:=(some 5)) (v:=?v51) (w1:=?w51) (by rfl) rfl ?h51 ?_
    case h51 => (go_simp;first | rfl | (constructor;rfl;rfl))
    simp only [Act.put,List.setIfInBounds_toArray,List.set_cons_zero,List.set_cons_succ]
    refine pl_skip (w1:=?w52) (by rfl) rfl ?h52 ?_
    case h52 => (go_simp;rfl)
    refine pl_world ?_
    intro x3_3 hb3_3 hx3_3 hs3_3 hq3_3
    refine pl_held (B:=v0.heap.size) (v:=v0) (below_then hHeld hHeld.size hb3_3) (fun hHeld => ?_)
    refine pl_nil ?_
    have HV : Aside0 (Below w.heap.size w x3_3):=⟨below_then HB0.out HB0.out.size hHeld⟩
    have K1:=Aside0.mk (blk_below HP0.out hHeld)
    have K2:=Aside0.mk hx3_3
    have RG:=Aside0.mk (HG0.out.below_ hHeld)
    have RI:=Aside0.mk (ho.rep.below_ hb3_3)
    obtain ⟨⟨s,x⟩,ht⟩ : ∃ o,textO g = o:=⟨_,rfl⟩
    have HT:=Lib.hid ht
    obtain ⟨o,hr⟩ : ∃ o,ruleO g i = o:=⟨_,rfl⟩
    have HR:=Lib.hid hr
    clear ht hr hHeld ho hb3_1 hb3_3 hx3_3 hs3_3 hq3_3
    go_upto_region 4 with (fail)
    refine pl_start ?_
    refine pl_held (B:=x3_3.heap.size) (v:=x3_3) (Below.refl _ _) (fun hHeld => ?_)
    refine pp_ ?_ ?_ ?_ (y:=by have d0:=(blk_cell (blk_below K2.out hHeld) 0).trans rfl;have d1:=(blk_cell (blk_below K2.out hHeld) 1).trans rfl;have d2:=(blk_cell (blk_below K2.out hHeld) 2).trans rfl;go_simp;rfl)
    refine goesCL_ (N:=(some 20)) Try.func18 (by kernel_rfl) rfl (by rfl) rfl rfl (text_c g B1 B2 B3 e1 e2 e3 _ (RI.out.below_ hHeld) HT.out) (by simp [Act.eval]) ?_
    rintro e x4_1 ⟨rfl,hb4_1⟩
    refine ⟨_,rfl,?_⟩
    simp only [Act.put,List.setIfInBounds_toArray,List.set_cons_zero,List.set_cons_succ]
    refine pl_held (B:=x3_3.heap.size) (v:=x3_3) (below_then hHeld hHeld.size hb4_1) (fun hHeld => ?_)
    refine pp_ ?_ ?_ ?_
    refine pp_ ?_ ?_ ?_
    refine pp_ ?_ ?_ ?_
    refine pp_ ?_ ?_ ?_
    refine pp_ ?_ ?_ ?_
    refine pl_nil ?_
    go_upto_region 5 with (fail)
    refine pl_start ?_
    refine pl_held (B:=x3_3.heap.size) (v:=x3_3) (hHeld) (fun hHeld => ?_)
    refine pp_ ?_ ?_ ?_ (y:=by have d0:=(blk_cell (blk_below K1.out hHeld) 0).trans rfl;have d1:=(blk_cell (blk_below K1.out hHeld) 1).trans rfl;have d2:=(blk_cell (blk_below K1.out hHeld) 2).trans rfl;go_simp;rfl)
    refine goesCL_ (N:=(some 25)) Try.func19 (by kernel_rfl) rfl (by rfl) rfl rfl (textR_c g A1 A2 A3 c1 c2 c3 _ (RG.out.below_ hHeld) HZ.out HT.out) (by simp [Act.eval]) ?_
    rintro e x5_1 ⟨rfl,hb5_1⟩
    refine ⟨_,rfl,?_⟩
    simp only [Act.put,List.setIfInBounds_toArray,List.set_cons_zero,List.set_cons_succ]
    refine pl_held (B:=x3_3.heap.size) (v:=x3_3) (below_then hHeld hHeld.size hb5_1) (fun hHeld => ?_)
    refine pp_ ?_ ?_ ?_
    refine pp_ ?_ ?_ ?_
    refine pp_ ?_ ?_ ?_
    refine pp_ ?_ ?_ ?_
    refine pp_ ?_ ?_ ?_
    refine pl_nil ?_
    go_upto_region 6 with (fail)
    refine pl_start ?_
    refine pl_held (B:=x3_3.heap.size) (v:=x3_3) (hHeld) (fun hHeld => ?_)
    refine pp_ ?_ ?_ ?_ (y:=by have d0:=(blk_cell (blk_below K2.out hHeld) 0).trans rfl;have d1:=(blk_cell (blk_below K2.out hHeld) 1).trans rfl;have d2:=(blk_cell (blk_below K2.out hHeld) 2).trans rfl;go_simp;rfl)
    refine pp_ ?_ ?_ ?_
    refine goesCL_ (N:=(some 31)) Try.func20 (by kernel_rfl) rfl (by rfl) rfl rfl (rule_c g B1 B2 B3 e1 e2 e3 i _ (RI.out.below_ hHeld) HR.out) (by simp [Act.eval]) ?_
    rintro e x6_2 ⟨rfl,hb6_2⟩
    refine ⟨_,rfl,?_⟩
    simp only [Act.put,List.setIfInBounds_toArray,List.set_cons_zero,List.set_cons_succ]
    refine pl_held (B:=x3_3.heap.size) (v:=x3_3) (below_then hHeld hHeld.size hb6_2) (fun hHeld => ?_)
    refine pp_ ?_ ?_ ?_
    refine pp_ ?_ ?_ ?_
    refine pp_ ?_ ?_ ?_
    refine pp_ ?_ ?_ ?_
    refine pp_ ?_ ?_ ?_
    refine pl_nil ?_
    go_upto_region 7 with (fail)
    refine pl_start ?_
    refine pl_held (B:=x3_3.heap.size) (v:=x3_3) (hHeld) (fun hHeld => ?_)
    refine pp_ ?_ ?_ ?_ (y:=by have d0:=(blk_cell (blk_below K1.out hHeld) 0).trans rfl;have d1:=(blk_cell (blk_below K1.out hHeld) 1).trans rfl;have d2:=(blk_cell (blk_below K1.out hHeld) 2).trans rfl;go_simp;rfl)
    refine pp_ ?_ ?_ ?_
    refine goesCL_ (N:=(some 36)) Try.func21 (by kernel_rfl) rfl (by rfl) rfl rfl (ruleR_c g A1 A2 A3 c1 c2 c3 i _ (RG.out.below_ hHeld) HZ.out HR.out) (by simp [Act.eval]) ?_
    rintro e x7_2 ⟨rfl,hb7_2⟩
    refine ⟨_,rfl,?_⟩
    simp only [Act.put,List.setIfInBounds_toArray,List.set_cons_zero,List.set_cons_succ]
    refine pl_held (B:=x3_3.heap.size) (v:=x3_3) (below_then hHeld hHeld.size hb7_2) (fun hHeld => ?_)
    refine pl_value (N:=(some 12)) (v:=?v63) (w1:=?w63) (by rfl) rfl ?h63 ?_
    case h63 => (go_simp;first | rfl | (constructor;rfl;rfl))
    simp only [Act.put,List.setIfInBounds_toArray,List.set_cons_zero,List.set_cons_succ]
    refine pl_skip (w1:=?w64) (by rfl) rfl ?h64 ?_
    case h64 => (go_simp;rfl)
    refine pl_world ?_
    intro x7_4 hb7_4 hx7_4 hs7_4 hq7_4
    refine pl_held (B:=x3_3.heap.size) (v:=x3_3) (below_then hHeld hHeld.size hb7_4) (fun hHeld => ?_)
    refine pl_nil ?_
    have K3:=Aside0.mk hx7_4
    have J1:=Aside0.mk (blk_below K1.out hHeld)
    have J2:=Aside0.mk (blk_below K2.out hHeld)
    have RG6:=Aside0.mk (RG.out.below_ hHeld)
    have RI6:=Aside0.mk (RI.out.below_ hHeld)
    have HV6:=Aside0.mk (below_then HV.out HV.out.size hHeld)
    clear hHeld hx7_4 hs7_4 hq7_4
    go_upto_region 8 with (fail)
    refine pl_start ?_
    refine pl_held (B:=x7_4.heap.size) (v:=x7_4) (Below.refl _ _) (fun hHeld => ?_)
    refine pp_ ?_ ?_ ?_
    refine pp_ ?_ ?_ ?_
    refine pp_ (.bool true) ?_ ?_ (y:=by go_simp)
    refine pp_ ?_ ?_ ?_
    refine pp_ ?_ ?_ ?_
    refine pp_ ?_ ?_ ?_
    refine pp_ (.bool true) ?_ ?_ (y:=by go_simp)
    refine pp_ ?_ ?_ ?_
    refine pp_ ?_ ?_ ?_
    refine pp_ ?_ ?_ ?_
    refine pp_ ?_ ?_ ?_
    refine pp_ ?_ ?_ ?_ (y:=by have d0:=(blk_cell (blk_below J1.out hHeld) 0).trans rfl;have d1:=(blk_cell (blk_below J1.out hHeld) 1).trans rfl;have d2:=(blk_cell (blk_below J1.out hHeld) 2).trans rfl;have d3:=(blk_cell (blk_below J2.out hHeld) 0).trans rfl;have d4:=(blk_cell (blk_below J2.out hHeld) 1).trans rfl;have d5:=(blk_cell (blk_below J2.out hHeld) 2).trans rfl;have d6:=(blk_cell (blk_below K3.out hHeld) 0).trans rfl;have d7:=(blk_cell (blk_below K3.out hHeld) 1).trans rfl;go_simp;rfl)
    refine pp_ (.bool true) ?_ ?_ (y:=by go_simp)
    refine pp_ ?_ ?_ ?_
    refine pp_ ?_ ?_ ?_
    refine pp_ ?_ ?_ ?_
    refine pp_ ?_ ?_ ?_
    refine pp_ ?_ ?_ ?_ (y:=by have d0:=(blk_cell (blk_below J1.out hHeld) 0).trans rfl;have d1:=(blk_cell (blk_below J1.out hHeld) 1).trans rfl;have d2:=(blk_cell (blk_below J1.out hHeld) 2).trans rfl;have d3:=(blk_cell (blk_below J2.out hHeld) 0).trans rfl;have d4:=(blk_cell (blk_below J2.out hHeld) 1).trans rfl;have d5:=(blk_cell (blk_below J2.out hHeld) 2).trans rfl;have d6:=(blk_cell (blk_below K3.out hHeld) 0).trans rfl;have d7:=(blk_cell (blk_below K3.out hHeld) 1).trans rfl;go_simp;rfl)
    refine pp_ (.bool true) ?_ ?_ (y:=by go_simp)
    refine pp_ ?_ ?_ ?_
    refine pp_ ?_ ?_ ?_
    refine pp_ ?_ ?_ ?_ (y:=by have d0:=(blk_cell (blk_below J1.out hHeld) 0).trans rfl;have d1:=(blk_cell (blk_below J1.out hHeld) 1).trans rfl;have d2:=(blk_cell (blk_below J1.out hHeld) 2).trans rfl;have d3:=(blk_cell (blk_below J2.out hHeld) 0).trans rfl;have d4:=(blk_cell (blk_below J2.out hHeld) 1).trans rfl;have d5:=(blk_cell (blk_below J2.out hHeld) 2).trans rfl;have d6:=(blk_cell (blk_below K3.out hHeld) 0).trans rfl;have d7:=(blk_cell (blk_below K3.out hHeld) 1).trans rfl;go_simp;rfl)
    refine pp_ ?_ ?_ ?_ (y:=by have d0:=(blk_cell (blk_below J1.out hHeld) 0).trans rfl;have d1:=(blk_cell (blk_below J1.out hHeld) 1).trans rfl;have d2:=(blk_cell (blk_below J1.out hHeld) 2).trans rfl;have d3:=(blk_cell (blk_below J2.out hHeld) 0).trans rfl;have d4:=(blk_cell (blk_below J2.out hHeld) 1).trans rfl;have d5:=(blk_cell (blk_below J2.out hHeld) 2).trans rfl;have d6:=(blk_cell (blk_below K3.out hHeld) 0).trans rfl;have d7:=(blk_cell (blk_below K3.out hHeld) 1).trans rfl;go_simp;rfl)
    refine goesCL_ (N:=(some 60)) Try.func22 (by kernel_rfl) rfl (by rfl) rfl rfl (keepGrammar_v g B1 B2 B3 A1 A2 A3 e1 e2 e3 c1 c2 c3 _ (RI6.out.below_ hHeld) (RG6.out.below_ hHeld)) (by simp [Act.eval]) ?_
    rintro e x8_23 ⟨rfl,hb8_23⟩
    refine ⟨_,rfl,?_⟩
    simp only [Act.put,List.setIfInBounds_toArray,List.set_cons_zero,List.set_cons_succ]
    refine pl_held (B:=x7_4.heap.size) (v:=x7_4) (below_then hHeld hHeld.size hb8_23) (fun hHeld => ?_)
    refine pp_ ?_ ?_ ?_
    refine pp_ ?_ ?_ ?_
    refine goesCL_ (N:=(some 63)) Try.func16 (by kernel_rfl) rfl (by rfl) rfl rfl (wakes04_c _) (by simp [Act.eval]) ?_
    rintro e x8_26 ⟨rfl,hb8_26⟩
    refine ⟨_,rfl,?_⟩
    simp only [Act.put,List.setIfInBounds_toArray,List.set_cons_zero,List.set_cons_succ]
    refine pl_held (B:=x7_4.heap.size) (v:=x7_4) (below_then hHeld hHeld.size hb8_26) (fun hHeld => ?_)
    refine pp_ ?_ ?_ ?_
    refine pp_ ?_ ?_ ?_
    refine pl_nil ?_
    go_wp2
    go_ret
    exact ⟨ret_bool rfl,below_then HV6.out HV6.out.size hHeld⟩
  · go_upto_region 2 with (fail)
    refine pl_start ?_
    refine pl_held (B:=v0.heap.size) (v:=v0) (HX1.out) (fun hHeld => ?_)
    refine goesCL_ (N:=(some 15)) Try.func16 (by kernel_rfl) rfl (by rfl) rfl rfl (wakes04_c _) (by simp [Act.eval]) ?_
    rintro e x2_0 ⟨rfl,hb2_0⟩
    refine ⟨_,rfl,?_⟩
    simp only [Act.put,List.setIfInBounds_toArray,List.set_cons_zero,List.set_cons_succ]
    refine pl_held (B:=v0.heap.size) (v:=v0) (below_then hHeld hHeld.size hb2_0) (fun hHeld => ?_)
    refine pp_ ?_ ?_ ?_
    refine pl_nil ?_
    go_wp2
    go_ret
    exact ⟨ret_bool rfl,below_then HB0.out HB0.out.size hHeld⟩
end Go.Proofs.Ytdpdbgaoaibafaa
