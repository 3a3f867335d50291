/- The law FirstTells,walked: it answers true. -/
import Derived.Test.YtdpdbgaoaibafaaJM
set_option linter.unusedVariables false
set_option linter.unusedSimpArgs false
namespace Go.Proofs.Ytdpdbgaoaibafaa
open Go.RowKit Go.Proofs.YtdpdbgaoaibafaaW.PrintWords Go.Proofs.YtdpdbgaoaibafaaW.PrintLast

noncomputable def setsX (g : Gram) : List (List Int):=if goodF g = true then setsF g else []
def LLAny (l : List (List Int)) (e : Ending) (w' : World) : Prop:=∃ A c,e = .returned (.slice A l.length c) ∧ kLL.C w' A l.length l
theorem LLAny.of {w w' : World} {L : List (List Int)} {e : Ending} (h : SetsEnd w L e w') : LLAny L e w':=by
  obtain ⟨v,he,hr⟩:=h
  obtain ⟨A,c,rfl⟩:=Kd.R_slice hr
  exact ⟨A,c,he,(Kd.R_reads' hr).2.2⟩
theorem sets_any (g : Gram) (A1 A2 A3 : Option Addr) (c1 c2 c3 : Nat) (w : World) (hg : RepG w g A1 A2 A3 c1 c2 c3) : Calls Try.prog 31 #[.agg #[.slice A1 g.terms.length c1,.slice A2 g.names.length c2,.slice A3 g.rules.length c3]] w fun e w' => LLAny (setsX g) e w' ∧ Below w.heap.size w w':=by
  cases h : goodF g
  · have hn : setsX g = []:=by unfold setsX;rw [h];rfl
    rw [hn]
    exact (sets_no g A1 A2 A3 c1 c2 c3 w hg h).mono fun e w' ⟨he,hb⟩ => ⟨⟨none,0,he,C_none _ _⟩,hb⟩
  · have hn : setsX g = setsF g:=by unfold setsX;rw [h];rfl
    rw [hn]
    exact (sets_yes g A1 A2 A3 c1 c2 c3 w hg h rfl).mono fun e w' ⟨he,hb⟩ => ⟨.of he,hb⟩
theorem setsR_any (g : Gram) (A1 A2 A3 : Option Addr) (c1 c2 c3 : Nat) (w : World) (hg : RepG w g A1 A2 A3 c1 c2 c3) (hz : Sized g) : Calls Try.prog 32 #[.agg #[.slice A1 g.terms.length c1,.slice A2 g.names.length c2,.slice A3 g.rules.length c3]] w fun e w' => LLAny (setsX g) e w' ∧ Below w.heap.size w w':=by
  cases h : goodF g
  · have hn : setsX g = []:=by unfold setsX;rw [h];rfl
    rw [hn]
    exact (setsR_no g A1 A2 A3 c1 c2 c3 w hg hz h).mono fun e w' ⟨he,hb⟩ => ⟨⟨none,0,he,C_none _ _⟩,hb⟩
  · have hn : setsX g = setsF g:=by unfold setsX;rw [h];rfl
    rw [hn]
    exact (setsR_yes g A1 A2 A3 c1 c2 c3 w hg hz h rfl).mono fun e w' ⟨he,hb⟩ => ⟨.of he,hb⟩
set_option maxRecDepth 100000 in
set_option maxHeartbeats 8000000 in
theorem firstTells_c (g : Gram) (A1 A2 A3 : Option Addr) (c1 c2 c3 : Nat) (L : Option Addr) (cl : Nat) (l : List Int) (w : World) (hg : RepG w g A1 A2 A3 c1 c2 c3) (hz : Sized g) (hl : kInt.C w L l.length l) (hlb : ∀ x ∈ l,-9223372036854775808 ≤ x ∧ x ≤ 9223372036854775807) :
    Calls Try.prog 7 #[.agg #[.slice A1 g.terms.length c1,.slice A2 g.names.length c2,.slice A3 g.rules.length c3],.slice L l.length cl] w fun e w' => e = .returned (.bool true) ∧ Below w.heap.size w w':=by
  obtain ⟨v0,hv0⟩ : ∃ v0 : World,v0 = w.alloc (.cells #[.slice A1 g.terms.length c1,.slice A2 g.names.length c2,.slice A3 g.rules.length c3] 25 (0,0)):=⟨_,rfl⟩
  have HB0 : Aside0 (Below w.heap.size w v0):=⟨by rw [hv0];exact (Below.refl w.heap.size w).alloc (Nat.le_refl _) _⟩
  have HP0 : Aside0 (v0.heap[w.heap.size]? = some (.cells #[.slice A1 g.terms.length c1,.slice A2 g.names.length c2,.slice A3 g.rules.length c3] 25 (0,0))):=⟨by rw [hv0];exact blk_new w _⟩
  have HG0:=Aside0.mk (hg.below_ HB0.out)
  have HL0:=Aside0.mk (Kd.C_below hl HB0.out)
  have HZ:=Aside0.mk hz
  have HLB:=Aside0.mk hlb
  have hlm:=C_max hl
  clear hg hz hl hlb
  go_enter Try.func7,Try.ntmps7
  go_upto_region 1 with (fail)
  simp only [← hv0]
  clear hv0
  refine pl_start ?_
  refine pl_held (B:=v0.heap.size) (v:=v0) (Below.refl _ _) (fun hHeld => ?_)
  refine pp_ ?_ ?_ ?_ (y:=by have d0:=(blk_cell (blk_below HP0.out hHeld) 0).trans rfl;have d1:=(blk_cell (blk_below HP0.out hHeld) 1).trans rfl;have d2:=(blk_cell (blk_below HP0.out hHeld) 2).trans rfl;go_simp;rfl)
  refine goesCL_ (N:=(some 11)) Try.func15 (by kernel_rfl) rfl (by rfl) rfl rfl (large_c g A1 A2 A3 c1 c2 c3 _ (HG0.out.below_ hHeld)) (by simp [Act.eval]) ?_
  rintro e x1_1 ⟨⟨lb,rfl,hs⟩,hb1_1⟩
  refine ⟨_,rfl,?_⟩
  simp only [Act.put,List.setIfInBounds_toArray,List.set_cons_zero,List.set_cons_succ]
  have HS:=Aside0.mk hs
  clear hs
  refine pl_held (B:=v0.heap.size) (v:=v0) (below_then hHeld hHeld.size hb1_1) (fun hHeld => ?_)
  have HX1:=Aside0.mk hHeld
  cases lb
  · have HS1:=Aside0.mk (HS.out rfl)
    by_cases hl2 : 200 < l.length
    · have d1 : decide ((200 : Int) < (l.length : Int)) = true:=by simp;omega
      refine pp_ ?_ ?_ ?_
      refine pp_ ?_ ?_ ?_
      refine pp_ ?_ ?_ ?_
      refine pp_ ?_ ?_ ?_
      refine pp_ ?_ ?_ ?_
      refine pl_nil ?_
      go_upto_region 2 with (fail)
      refine pl_start ?_
      refine pl_held (B:=v0.heap.size) (v:=v0) (HX1.out) (fun hHeld => ?_)
      refine goesCL_ (N:=(some 17)) Try.func27 (by kernel_rfl) rfl (by rfl) rfl rfl (wakes08_c _) (by simp [Act.eval]) ?_
      rintro e x2_0 ⟨rfl,hb2_0⟩
      refine ⟨_,rfl,?_⟩
      simp only [Act.put,List.setIfInBounds_toArray,List.set_cons_zero,List.set_cons_succ]
      refine pl_held (B:=v0.heap.size) (v:=v0) (below_then hHeld hHeld.size hb2_0) (fun hHeld => ?_)
      refine pp_ ?_ ?_ ?_
      refine pl_nil ?_
      go_wp2
      go_ret
      exact ⟨ret_bool rfl,below_then HB0.out HB0.out.size hHeld⟩
    · have d1 : decide ((200 : Int) < (l.length : Int)) = false:=by simp;omega
      refine pp_ ?_ ?_ ?_
      refine pp_ ?_ ?_ ?_
      refine pp_ ?_ ?_ ?_
      refine pp_ ?_ ?_ ?_
      refine pp_ ?_ ?_ ?_
      refine pl_nil ?_
      go_upto_region 3 with (fail)
      refine pl_start ?_
      refine pl_held (B:=v0.heap.size) (v:=v0) (HX1.out) (fun hHeld => ?_)
      refine pp_ ?_ ?_ ?_ (y:=by have d0:=(blk_cell (blk_below HP0.out hHeld) 0).trans rfl;have d1:=(blk_cell (blk_below HP0.out hHeld) 1).trans rfl;have d2:=(blk_cell (blk_below HP0.out hHeld) 2).trans rfl;go_simp;rfl)
      refine goesCL_ (N:=(some 19)) Try.func17 (by kernel_rfl) rfl (by rfl) rfl rfl (own_c g A1 A2 A3 c1 c2 c3 _ (HG0.out.below_ hHeld) HS1.out.own) (by simp [Act.eval]) ?_
      rintro e x3_1 ⟨⟨B1,B2,B3,e1,e2,e3,rfl,ho⟩,hb3_1⟩
      refine ⟨_,rfl,?_⟩
      simp only [Act.put,List.setIfInBounds_toArray,List.set_cons_zero,List.set_cons_succ]
      refine pl_held (B:=v0.heap.size) (v:=v0) (below_then hHeld hHeld.size hb3_1) (fun hHeld => ?_)
      refine pl_alloc (N:=(some 20)) (v:=?v32) (o:=?o32) (by rfl) rfl ?h32 ?_
      case h32 => (go_simp;first | rfl | (constructor;rfl;rfl))
      intro x3_2 hb3_2 hx3_2 hs3_2 hq3_2
      simp only [Act.put,List.setIfInBounds_toArray,List.set_cons_zero,List.set_cons_succ]
      refine pl_held (B:=v0.heap.size) (v:=v0) (below_then hHeld hHeld.size hb3_2) (fun hHeld => ?_)
      refine pp_ ?_ ?_ ?_
      refine pl_copy_ints (N:=some 22) (w0:=x3_1) (ys:=l) (by rfl) rfl rfl hb3_2 hx3_2 hs3_2 (by omega) (by rfl) (by rfl) (Kd.C_below HL0.out (below_then HX1.out HX1.out.size hb3_1)) hq3_2.out ?_
      intro LA lc x3_4 hlc hC hb3_4
      simp only [Act.put,List.setIfInBounds_toArray,List.set_cons_zero,List.set_cons_succ]
      refine pl_held (B:=v0.heap.size) (v:=v0) (below_then HX1.out HX1.out.size (below_then hb3_1 hb3_1.size hb3_4)) (fun hHeld => ?_)
      refine pl_value (N:=(some 5)) (v:=?v35) (w1:=?w35) (by rfl) rfl ?h35 ?_
      case h35 => (go_simp;first | rfl | (constructor;rfl;rfl))
      simp only [Act.put,List.setIfInBounds_toArray,List.set_cons_zero,List.set_cons_succ]
      refine pl_skip (w1:=?w36) (by rfl) rfl ?h36 ?_
      case h36 => (go_simp;rfl)
      refine pl_world ?_
      intro x3_6 hb3_6 hx3_6 hs3_6 hq3_6
      refine pl_held (B:=v0.heap.size) (v:=v0) (below_then hHeld hHeld.size hb3_6) (fun hHeld => ?_)
      refine pp_ ?_ ?_ ?_
      refine pl_nil ?_
      have HV : Aside0 (Below w.heap.size w x3_6):=⟨below_then HB0.out HB0.out.size hHeld⟩
      have K1:=Aside0.mk (blk_below HP0.out hHeld)
      have K2:=Aside0.mk hx3_6
      have RG:=Aside0.mk (HG0.out.below_ hHeld)
      have RI:=Aside0.mk (ho.rep.below_ (below_then hb3_4 hb3_4.size hb3_6))
      have CL:=Aside0.mk (Kd.C_below HL0.out hHeld)
      have CA:=Aside0.mk (Kd.C_below hC hb3_6)
      obtain ⟨ok,hok⟩ : ∃ ok,okF g l = ok:=⟨_,rfl⟩
      have HOK:=Lib.hid hok
      obtain ⟨M,hM⟩ : ∃ M,M = membF (beginsF g l):=⟨_,rfl⟩
      have HM:=Lib.hid hM
      clear hok hM hHeld ho hC hb3_1 hb3_2 hx3_2 hs3_2 hq3_2 hb3_4 hb3_6 hx3_6 hs3_6 hq3_6
      go_upto_region 4 with (fail)
      refine pl_start ?_
      refine pl_held (B:=x3_6.heap.size) (v:=x3_6) (Below.refl _ _) (fun hHeld => ?_)
      refine pp_ ?_ ?_ ?_ (y:=by have d0:=(blk_cell (blk_below K2.out hHeld) 0).trans rfl;have d1:=(blk_cell (blk_below K2.out hHeld) 1).trans rfl;have d2:=(blk_cell (blk_below K2.out hHeld) 2).trans rfl;go_simp;rfl)
      refine pp_ ?_ ?_ ?_
      refine goesCL_ (N:=(some 26)) Try.func28 (by kernel_rfl) rfl (by rfl) rfl rfl (ofF_c g B1 B2 B3 e1 e2 e3 LA lc l _ (RI.out.below_ hHeld) (Kd.C_below CA.out hHeld) HLB.out HOK.out) (by simp [Act.eval]) ?_
      rintro e x4_2 ⟨⟨FA,fc,rfl,hf⟩,hb4_2⟩
      refine ⟨_,rfl,?_⟩
      simp only [Act.put,List.setIfInBounds_toArray,List.set_cons_zero,List.set_cons_succ]
      have HF:=Aside0.mk (Kd.R_reads' hf).2.2
      have HX4:=Aside0.mk hb4_2
      refine pl_held (B:=x3_6.heap.size) (v:=x3_6) (below_then hHeld hHeld.size hb4_2) (fun hHeld => ?_)
      refine pp_ ?_ ?_ ?_
      refine pp_ ?_ ?_ ?_
      refine pp_ ?_ ?_ ?_
      refine pp_ ?_ ?_ ?_
      refine pp_ ?_ ?_ ?_
      refine pl_nil ?_
      go_upto_region 5 with (fail)
      refine pl_start ?_
      refine pl_held (B:=x3_6.heap.size) (v:=x3_6) (HX4.out) (fun hHeld => ?_)
      refine pp_ ?_ ?_ ?_ (y:=by have d0:=(blk_cell (blk_below K1.out hHeld) 0).trans rfl;have d1:=(blk_cell (blk_below K1.out hHeld) 1).trans rfl;have d2:=(blk_cell (blk_below K1.out hHeld) 2).trans rfl;go_simp;rfl)
      refine pp_ ?_ ?_ ?_
      refine goesCL_ (N:=(some 31)) Try.func29 (by kernel_rfl) rfl (by rfl) rfl rfl (ofRF_c g A1 A2 A3 c1 c2 c3 L cl l _ (RG.out.below_ hHeld) HZ.out (Kd.C_below CL.out hHeld) HOK.out) (by simp [Act.eval]) ?_
      rintro e x5_2 ⟨⟨RA,rc,rfl,hr⟩,hb5_2⟩
      refine ⟨_,rfl,?_⟩
      simp only [Act.put,List.setIfInBounds_toArray,List.set_cons_zero,List.set_cons_succ]
      have HF5:=Aside0.mk (Kd.C_below HF.out hb5_2)
      have HR5:=Aside0.mk (Kd.R_reads' hr).2.2
      refine pl_held (B:=x3_6.heap.size) (v:=x3_6) (below_then hHeld hHeld.size hb5_2) (fun hHeld => ?_)
      refine pl_value (N:=(some 9)) (v:=?v41) (w1:=?w41) (by rfl) rfl ?h41 ?_
      case h41 => (go_simp;first | rfl | (constructor;rfl;rfl))
      simp only [Act.put,List.setIfInBounds_toArray,List.set_cons_zero,List.set_cons_succ]
      refine pl_skip (w1:=?w42) (by rfl) rfl ?h42 ?_
      case h42 => (go_simp;rfl)
      refine pl_world ?_
      intro x5_4 hb5_4 hx5_4 hs5_4 hq5_4
      refine pl_held (B:=x3_6.heap.size) (v:=x3_6) (below_then hHeld hHeld.size hb5_4) (fun hHeld => ?_)
      refine pl_nil ?_
      have K3:=Aside0.mk hx5_4
      have HF6:=Aside0.mk (Kd.C_below HF5.out hb5_4)
      have HR6:=Aside0.mk (Kd.C_below HR5.out hb5_4)
      have J1:=Aside0.mk (blk_below K1.out hHeld)
      have J2:=Aside0.mk (blk_below K2.out hHeld)
      have RG6:=Aside0.mk (RG.out.below_ hHeld)
      have RI6:=Aside0.mk (RI.out.below_ hHeld)
      have CL6:=Aside0.mk (Kd.C_below CL.out hHeld)
      have CA6:=Aside0.mk (Kd.C_below CA.out hHeld)
      have HV6:=Aside0.mk (below_then HV.out HV.out.size hHeld)
      clear hHeld hb5_2 hb5_4 hx5_4 hs5_4 hq5_4 hf hr hb4_2
      cases ok
      · simp only [Bool.false_eq_true,if_false] at HF6 HR6 K3 ⊢
        go_upto_region 6 with (fail)
        refine start_ (n:=40) (S:=fun w' => Below x5_4.heap.size x5_4 w') (ds:=[]) (lb 40 0x0) (by kernel_rfl) rfl (by kernel_rfl) (below_drew1 (Below.refl _ _)) (fun hHeld => ?_)
        refine ta_ ?_ ?_ 0 (some 32) (lb 40 0x1) hHeld ?_ (y:=by rintro w' hS;have d0:=(blk_cell (blk_below J1.out hS) 0).trans rfl;have d1:=(blk_cell (blk_below J1.out hS) 1).trans rfl;have d2:=(blk_cell (blk_below J1.out hS) 2).trans rfl;have d3:=(blk_cell (blk_below J2.out hS) 0).trans rfl;have d4:=(blk_cell (blk_below J2.out hS) 1).trans rfl;have d5:=(blk_cell (blk_below J2.out hS) 2).trans rfl;have d6:=(blk_cell (blk_below K3.out hS) 0).trans rfl;have d7:=(blk_cell (blk_below K3.out hS) 1).trans rfl;go_simp;with_reducible rfl)
        refine ta_ ?_ ?_ 2 (some 34) (lb 40 0x5) hHeld ?_ (y:=by rintro w' hS;have d0:=(blk_cell (blk_below J1.out hS) 0).trans rfl;have d1:=(blk_cell (blk_below J1.out hS) 1).trans rfl;have d2:=(blk_cell (blk_below J1.out hS) 2).trans rfl;have d3:=(blk_cell (blk_below J2.out hS) 0).trans rfl;have d4:=(blk_cell (blk_below J2.out hS) 1).trans rfl;have d5:=(blk_cell (blk_below J2.out hS) 2).trans rfl;have d6:=(blk_cell (blk_below K3.out hS) 0).trans rfl;have d7:=(blk_cell (blk_below K3.out hS) 1).trans rfl;go_simp;with_reducible rfl)
        refine on_ 1 (some 33) (lb 40 0x7) (fun K hK => ?_)
        (refine goesC_ Try.func31 (by kernel_rfl) rfl (by rfl) rfl rfl (sets_any g B1 B2 B3 e1 e2 e3 _ (RI6.out.below_ hHeld)) (by simp [Act.eval]) ?_;rintro e w9 ⟨⟨NA,nc,rfl,hn⟩,hb9⟩;refine ⟨_,rfl,?_⟩;have HQ9:=Aside0.mk (below_then hHeld hHeld.size hb9);have HN1:=Aside0.mk hn;clear hn;clear hb9;refine hK.out _ _ HQ9.out (fun hHeld => ?_))
        clear hK K
        refine nm_ ?_ (some 33) ?_
        refine on_ 3 (some 35) (lb 40 0xf) (fun K hK => ?_)
        (refine goesC_ Try.func32 (by kernel_rfl) rfl (by rfl) rfl rfl (setsR_any g A1 A2 A3 c1 c2 c3 _ (RG6.out.below_ hHeld) HZ.out) (by simp [Act.eval]) ?_;rintro e w9 ⟨⟨SA,sc,rfl,hr⟩,hb9⟩;refine ⟨_,rfl,?_⟩;have HQ9:=Aside0.mk (below_then hHeld hHeld.size hb9);have HN2:=Aside0.mk (Kd.C_below HN1.out hb9);have HR2:=Aside0.mk hr;clear hr;clear hb9;refine hK.out _ _ HQ9.out (fun hHeld => ?_))
        clear hK K
        refine nm_ ?_ (some 35) ?_
        refine on_ 4 (some 36) (lb 40 0x1f) (fun K hK => ?_)
        (refine goesC_ Try.func30 (by kernel_rfl) rfl (by rfl) rfl rfl (keepLists_v NA SA nc sc _ _ (setsX g) (setsX g) _ HN2.out HR2.out (decide_eq_true rfl)) (by simp [Act.eval]) ?_;rintro e w9 ⟨rfl,hb9⟩;refine ⟨_,rfl,?_⟩;have HQ9:=Aside0.mk (below_then hHeld hHeld.size hb9);clear hb9;refine hK.out _ _ HQ9.out (fun hHeld => ?_))
        clear hK K
        refine nm_ ?_ (some 36) ?_
        refine pu_ ?_ ?_ 5 (some 37) (lb 40 0x3f) ?_
        refine pu_ ?_ ?_ 6 (some 38) (lb 40 0x7f) ?_
        refine pu_ ?_ ?_ 7 (some 39) (lb 40 0xff) ?_
        refine ta_ ?_ ?_ 8 (some 40) (lb 40 0x1ff) hHeld ?_ (y:=by rintro w' hS;have d0:=(blk_cell (blk_below J1.out hS) 0).trans rfl;have d1:=(blk_cell (blk_below J1.out hS) 1).trans rfl;have d2:=(blk_cell (blk_below J1.out hS) 2).trans rfl;have d3:=(blk_cell (blk_below J2.out hS) 0).trans rfl;have d4:=(blk_cell (blk_below J2.out hS) 1).trans rfl;have d5:=(blk_cell (blk_below J2.out hS) 2).trans rfl;have d6:=(blk_cell (blk_below K3.out hS) 0).trans rfl;have d7:=(blk_cell (blk_below K3.out hS) 1).trans rfl;go_simp;with_reducible rfl)
        refine on_ 9 (some 41) (lb 40 0x3ff) (fun K hK => ?_)
        (refine goesC_ Try.func33 (by kernel_rfl) rfl (by rfl) rfl rfl (keepInts_v FA RA fc rc _ _ [] [] _ (Kd.C_below HF6.out hHeld) (Kd.C_below HR6.out hHeld) (decide_eq_true rfl)) (by simp [Act.eval]) ?_;rintro e w9 ⟨rfl,hb9⟩;refine ⟨_,rfl,?_⟩;have HQ9:=Aside0.mk (below_then hHeld hHeld.size hb9);clear hb9;refine hK.out _ _ HQ9.out (fun hHeld => ?_))
        clear hK K
        refine nm_ ?_ (some 41) ?_
        refine pu_ ?_ ?_ 10 (some 42) (lb 40 0x7ff) ?_
        refine pu_ ?_ ?_ 11 (some 43) (lb 40 0xfff) ?_
        refine pu_ ?_ ?_ 12 (some 44) (lb 40 0x1fff) ?_
        refine pu_ ?_ ?_ 13 (some 45) (lb 40 0x3fff) ?_
        refine pu_ ?_ ?_ 14 (some 46) (lb 40 0x7fff) ?_
        refine ta_ ?_ ?_ 15 (some 47) (lb 40 0xffff) hHeld ?_ (y:=by rintro w' hS;have d0:=(blk_cell (blk_below J1.out hS) 0).trans rfl;have d1:=(blk_cell (blk_below J1.out hS) 1).trans rfl;have d2:=(blk_cell (blk_below J1.out hS) 2).trans rfl;have d3:=(blk_cell (blk_below J2.out hS) 0).trans rfl;have d4:=(blk_cell (blk_below J2.out hS) 1).trans rfl;have d5:=(blk_cell (blk_below J2.out hS) 2).trans rfl;have d6:=(blk_cell (blk_below K3.out hS) 0).trans rfl;have d7:=(blk_cell (blk_below K3.out hS) 1).trans rfl;go_simp;with_reducible rfl)
        refine pu_ ?_ ?_ 16 (some 48) (lb 40 0x1ffff) ?_
        refine pu_ ?_ ?_ 17 (some 49) (lb 40 0x3ffff) ?_
        refine pu_ ?_ ?_ 18 (some 50) (lb 40 0x7ffff) ?_
        refine pu_ ?_ ?_ 19 (some 51) (lb 40 0xfffff) ?_
        refine ta_ ?_ ?_ 20 (some 52) (lb 40 0x1fffff) hHeld ?_ (y:=by rintro w' hS;have d0:=(blk_cell (blk_below J1.out hS) 0).trans rfl;have d1:=(blk_cell (blk_below J1.out hS) 1).trans rfl;have d2:=(blk_cell (blk_below J1.out hS) 2).trans rfl;have d3:=(blk_cell (blk_below J2.out hS) 0).trans rfl;have d4:=(blk_cell (blk_below J2.out hS) 1).trans rfl;have d5:=(blk_cell (blk_below J2.out hS) 2).trans rfl;have d6:=(blk_cell (blk_below K3.out hS) 0).trans rfl;have d7:=(blk_cell (blk_below K3.out hS) 1).trans rfl;go_simp;with_reducible rfl)
        refine pu_ ?_ ?_ 21 (some 53) (lb 40 0x3fffff) ?_
        refine pu_ ?_ ?_ 22 (some 54) (lb 40 0x7fffff) ?_
        refine pu_ ?_ ?_ 23 (some 55) (lb 40 0xffffff) ?_
        refine pu_ ?_ ?_ 24 (some 56) (lb 40 0x1ffffff) ?_
        refine pu_ ?_ ?_ 25 (some 57) (lb 40 0x3ffffff) ?_
        refine pu_ ?_ ?_ 26 (some 58) (lb 40 0x7ffffff) ?_
        refine ta_ ?_ ?_ 27 (some 59) (lb 40 0xfffffff) hHeld ?_ (y:=by rintro w' hS;have d0:=(blk_cell (blk_below J1.out hS) 0).trans rfl;have d1:=(blk_cell (blk_below J1.out hS) 1).trans rfl;have d2:=(blk_cell (blk_below J1.out hS) 2).trans rfl;have d3:=(blk_cell (blk_below J2.out hS) 0).trans rfl;have d4:=(blk_cell (blk_below J2.out hS) 1).trans rfl;have d5:=(blk_cell (blk_below J2.out hS) 2).trans rfl;have d6:=(blk_cell (blk_below K3.out hS) 0).trans rfl;have d7:=(blk_cell (blk_below K3.out hS) 1).trans rfl;go_simp;with_reducible rfl)
        refine ta_ ?_ ?_ 28 (some 60) (lb 40 0x1fffffff) hHeld ?_ (y:=by rintro w' hS;have d0:=(blk_cell (blk_below J1.out hS) 0).trans rfl;have d1:=(blk_cell (blk_below J1.out hS) 1).trans rfl;have d2:=(blk_cell (blk_below J1.out hS) 2).trans rfl;have d3:=(blk_cell (blk_below J2.out hS) 0).trans rfl;have d4:=(blk_cell (blk_below J2.out hS) 1).trans rfl;have d5:=(blk_cell (blk_below J2.out hS) 2).trans rfl;have d6:=(blk_cell (blk_below K3.out hS) 0).trans rfl;have d7:=(blk_cell (blk_below K3.out hS) 1).trans rfl;go_simp;with_reducible rfl)
        refine on_ 29 (some 61) (lb 40 0x3fffffff) (fun K hK => ?_)
        (refine goesC_ Try.func22 (by kernel_rfl) rfl (by rfl) rfl rfl (keepGrammar_v g B1 B2 B3 A1 A2 A3 e1 e2 e3 c1 c2 c3 _ (RI6.out.below_ hHeld) (RG6.out.below_ hHeld)) (by simp [Act.eval]) ?_;rintro e w9 ⟨rfl,hb9⟩;refine ⟨_,rfl,?_⟩;have HQ9:=Aside0.mk (below_then hHeld hHeld.size hb9);clear hb9;refine hK.out _ _ HQ9.out (fun hHeld => ?_))
        clear hK K
        refine nm_ ?_ (some 61) ?_
        refine pu_ ?_ ?_ 30 (some 62) (lb 40 0x7fffffff) ?_
        refine pu_ ?_ ?_ 31 (some 63) (lb 40 0xffffffff) ?_
        refine pu_ ?_ ?_ 32 (some 64) (lb 40 0x1ffffffff) ?_
        refine pu_ ?_ ?_ 33 (some 65) (lb 40 0x3ffffffff) ?_
        refine on_ 34 (some 66) (lb 40 0x7ffffffff) (fun K hK => ?_)
        (refine goesC_ Try.func33 (by kernel_rfl) rfl (by rfl) rfl rfl (keepInts_v LA L lc cl l.length l.length l l _ (Kd.C_below CA6.out hHeld) (Kd.C_below CL6.out hHeld) (decide_eq_true rfl)) (by simp [Act.eval]) ?_;rintro e w9 ⟨rfl,hb9⟩;refine ⟨_,rfl,?_⟩;have HQ9:=Aside0.mk (below_then hHeld hHeld.size hb9);clear hb9;refine hK.out _ _ HQ9.out (fun hHeld => ?_))
        clear hK K
        refine nm_ ?_ (some 66) ?_
        refine pu_ ?_ ?_ 35 (some 67) (lb 40 0xfffffffff) ?_
        refine pu_ ?_ ?_ 36 (some 68) (lb 40 0x1fffffffff) ?_
        refine on_ 37 (some 69) (lb 40 0x3fffffffff) (fun K hK => ?_)
        (refine goesC_ Try.func27 (by kernel_rfl) rfl (by rfl) rfl rfl (wakes08_c _) (by simp [Act.eval]) ?_;rintro e w9 ⟨rfl,hb9⟩;refine ⟨_,rfl,?_⟩;have HQ9:=Aside0.mk (below_then hHeld hHeld.size hb9);clear hb9;refine hK.out _ _ HQ9.out (fun hHeld => ?_))
        clear hK K
        refine nm_ ?_ (some 69) ?_
        refine pu_ ?_ ?_ 38 (some 70) (lb 40 0x7fffffffff) ?_
        refine pu_ ?_ ?_ 39 (some 4) (lb 40 0xffffffffff) ?_
        refine done_ (by kernel_rfl) ?_
        go_wp2
        go_ret
        exact ⟨ret_bool rfl,below_then HV6.out HV6.out.size hHeld⟩
      · simp only [if_true] at HF6 HR6 K3 ⊢
        rw [← HM.out] at HF6 HR6 K3 ⊢
        go_upto_region 6 with (fail)
        refine start_ (n:=40) (S:=fun w' => Below x5_4.heap.size x5_4 w') (ds:=[]) (lb 40 0x0) (by kernel_rfl) rfl (by kernel_rfl) (below_drew1 (Below.refl _ _)) (fun hHeld => ?_)
        refine ta_ ?_ ?_ 0 (some 32) (lb 40 0x1) hHeld ?_ (y:=by rintro w' hS;have d0:=(blk_cell (blk_below J1.out hS) 0).trans rfl;have d1:=(blk_cell (blk_below J1.out hS) 1).trans rfl;have d2:=(blk_cell (blk_below J1.out hS) 2).trans rfl;have d3:=(blk_cell (blk_below J2.out hS) 0).trans rfl;have d4:=(blk_cell (blk_below J2.out hS) 1).trans rfl;have d5:=(blk_cell (blk_below J2.out hS) 2).trans rfl;have d6:=(blk_cell (blk_below K3.out hS) 0).trans rfl;have d7:=(blk_cell (blk_below K3.out hS) 1).trans rfl;go_simp;with_reducible rfl)
        refine ta_ ?_ ?_ 2 (some 34) (lb 40 0x5) hHeld ?_ (y:=by rintro w' hS;have d0:=(blk_cell (blk_below J1.out hS) 0).trans rfl;have d1:=(blk_cell (blk_below J1.out hS) 1).trans rfl;have d2:=(blk_cell (blk_below J1.out hS) 2).trans rfl;have d3:=(blk_cell (blk_below J2.out hS) 0).trans rfl;have d4:=(blk_cell (blk_below J2.out hS) 1).trans rfl;have d5:=(blk_cell (blk_below J2.out hS) 2).trans rfl;have d6:=(blk_cell (blk_below K3.out hS) 0).trans rfl;have d7:=(blk_cell (blk_below K3.out hS) 1).trans rfl;go_simp;with_reducible rfl)
        refine on_ 1 (some 33) (lb 40 0x7) (fun K hK => ?_)
        (refine goesC_ Try.func31 (by kernel_rfl) rfl (by rfl) rfl rfl (sets_any g B1 B2 B3 e1 e2 e3 _ (RI6.out.below_ hHeld)) (by simp [Act.eval]) ?_;rintro e w9 ⟨⟨NA,nc,rfl,hn⟩,hb9⟩;refine ⟨_,rfl,?_⟩;have HQ9:=Aside0.mk (below_then hHeld hHeld.size hb9);have HN1:=Aside0.mk hn;clear hn;clear hb9;refine hK.out _ _ HQ9.out (fun hHeld => ?_))
        clear hK K
        refine nm_ ?_ (some 33) ?_
        refine on_ 3 (some 35) (lb 40 0xf) (fun K hK => ?_)
        (refine goesC_ Try.func32 (by kernel_rfl) rfl (by rfl) rfl rfl (setsR_any g A1 A2 A3 c1 c2 c3 _ (RG6.out.below_ hHeld) HZ.out) (by simp [Act.eval]) ?_;rintro e w9 ⟨⟨SA,sc,rfl,hr⟩,hb9⟩;refine ⟨_,rfl,?_⟩;have HQ9:=Aside0.mk (below_then hHeld hHeld.size hb9);have HN2:=Aside0.mk (Kd.C_below HN1.out hb9);have HR2:=Aside0.mk hr;clear hr;clear hb9;refine hK.out _ _ HQ9.out (fun hHeld => ?_))
        clear hK K
        refine nm_ ?_ (some 35) ?_
        refine on_ 4 (some 36) (lb 40 0x1f) (fun K hK => ?_)
        (refine goesC_ Try.func30 (by kernel_rfl) rfl (by rfl) rfl rfl (keepLists_v NA SA nc sc _ _ (setsX g) (setsX g) _ HN2.out HR2.out (decide_eq_true rfl)) (by simp [Act.eval]) ?_;rintro e w9 ⟨rfl,hb9⟩;refine ⟨_,rfl,?_⟩;have HQ9:=Aside0.mk (below_then hHeld hHeld.size hb9);clear hb9;refine hK.out _ _ HQ9.out (fun hHeld => ?_))
        clear hK K
        refine nm_ ?_ (some 36) ?_
        refine pu_ ?_ ?_ 5 (some 37) (lb 40 0x3f) ?_
        refine pu_ ?_ ?_ 6 (some 38) (lb 40 0x7f) ?_
        refine pu_ ?_ ?_ 7 (some 39) (lb 40 0xff) ?_
        refine ta_ ?_ ?_ 8 (some 40) (lb 40 0x1ff) hHeld ?_ (y:=by rintro w' hS;have d0:=(blk_cell (blk_below J1.out hS) 0).trans rfl;have d1:=(blk_cell (blk_below J1.out hS) 1).trans rfl;have d2:=(blk_cell (blk_below J1.out hS) 2).trans rfl;have d3:=(blk_cell (blk_below J2.out hS) 0).trans rfl;have d4:=(blk_cell (blk_below J2.out hS) 1).trans rfl;have d5:=(blk_cell (blk_below J2.out hS) 2).trans rfl;have d6:=(blk_cell (blk_below K3.out hS) 0).trans rfl;have d7:=(blk_cell (blk_below K3.out hS) 1).trans rfl;go_simp;with_reducible rfl)
        refine on_ 9 (some 41) (lb 40 0x3ff) (fun K hK => ?_)
        (refine goesC_ Try.func33 (by kernel_rfl) rfl (by rfl) rfl rfl (keepInts_v FA RA fc rc _ _ M M _ (Kd.C_below HF6.out hHeld) (Kd.C_below HR6.out hHeld) (decide_eq_true rfl)) (by simp [Act.eval]) ?_;rintro e w9 ⟨rfl,hb9⟩;refine ⟨_,rfl,?_⟩;have HQ9:=Aside0.mk (below_then hHeld hHeld.size hb9);clear hb9;refine hK.out _ _ HQ9.out (fun hHeld => ?_))
        clear hK K
        refine nm_ ?_ (some 41) ?_
        refine pu_ ?_ ?_ 10 (some 42) (lb 40 0x7ff) ?_
        refine pu_ ?_ ?_ 11 (some 43) (lb 40 0xfff) ?_
        refine pu_ ?_ ?_ 12 (some 44) (lb 40 0x1fff) ?_
        refine pu_ ?_ ?_ 13 (some 45) (lb 40 0x3fff) ?_
        refine pu_ ?_ ?_ 14 (some 46) (lb 40 0x7fff) ?_
        refine ta_ ?_ ?_ 15 (some 47) (lb 40 0xffff) hHeld ?_ (y:=by rintro w' hS;have d0:=(blk_cell (blk_below J1.out hS) 0).trans rfl;have d1:=(blk_cell (blk_below J1.out hS) 1).trans rfl;have d2:=(blk_cell (blk_below J1.out hS) 2).trans rfl;have d3:=(blk_cell (blk_below J2.out hS) 0).trans rfl;have d4:=(blk_cell (blk_below J2.out hS) 1).trans rfl;have d5:=(blk_cell (blk_below J2.out hS) 2).trans rfl;have d6:=(blk_cell (blk_below K3.out hS) 0).trans rfl;have d7:=(blk_cell (blk_below K3.out hS) 1).trans rfl;go_simp;with_reducible rfl)
        refine pu_ ?_ ?_ 16 (some 48) (lb 40 0x1ffff) ?_
        refine pu_ ?_ ?_ 17 (some 49) (lb 40 0x3ffff) ?_
        refine pu_ ?_ ?_ 18 (some 50) (lb 40 0x7ffff) ?_
        refine pu_ ?_ ?_ 19 (some 51) (lb 40 0xfffff) ?_
        refine ta_ ?_ ?_ 20 (some 52) (lb 40 0x1fffff) hHeld ?_ (y:=by rintro w' hS;have d0:=(blk_cell (blk_below J1.out hS) 0).trans rfl;have d1:=(blk_cell (blk_below J1.out hS) 1).trans rfl;have d2:=(blk_cell (blk_below J1.out hS) 2).trans rfl;have d3:=(blk_cell (blk_below J2.out hS) 0).trans rfl;have d4:=(blk_cell (blk_below J2.out hS) 1).trans rfl;have d5:=(blk_cell (blk_below J2.out hS) 2).trans rfl;have d6:=(blk_cell (blk_below K3.out hS) 0).trans rfl;have d7:=(blk_cell (blk_below K3.out hS) 1).trans rfl;go_simp;with_reducible rfl)
        refine pu_ ?_ ?_ 21 (some 53) (lb 40 0x3fffff) ?_
        refine po_ ?_ 22 (some 54) (lb 40 0x7fffff) ?_
        refine po_ ?_ 23 (some 55) (lb 40 0xffffff) ?_
        refine pu_ ?_ ?_ 24 (some 56) (lb 40 0x1ffffff) ?_
        refine pu_ ?_ ?_ 25 (some 57) (lb 40 0x3ffffff) ?_
        refine pu_ ?_ ?_ 26 (some 58) (lb 40 0x7ffffff) ?_
        refine ta_ ?_ ?_ 27 (some 59) (lb 40 0xfffffff) hHeld ?_ (y:=by rintro w' hS;have d0:=(blk_cell (blk_below J1.out hS) 0).trans rfl;have d1:=(blk_cell (blk_below J1.out hS) 1).trans rfl;have d2:=(blk_cell (blk_below J1.out hS) 2).trans rfl;have d3:=(blk_cell (blk_below J2.out hS) 0).trans rfl;have d4:=(blk_cell (blk_below J2.out hS) 1).trans rfl;have d5:=(blk_cell (blk_below J2.out hS) 2).trans rfl;have d6:=(blk_cell (blk_below K3.out hS) 0).trans rfl;have d7:=(blk_cell (blk_below K3.out hS) 1).trans rfl;go_simp;with_reducible rfl)
        refine ta_ ?_ ?_ 28 (some 60) (lb 40 0x1fffffff) hHeld ?_ (y:=by rintro w' hS;have d0:=(blk_cell (blk_below J1.out hS) 0).trans rfl;have d1:=(blk_cell (blk_below J1.out hS) 1).trans rfl;have d2:=(blk_cell (blk_below J1.out hS) 2).trans rfl;have d3:=(blk_cell (blk_below J2.out hS) 0).trans rfl;have d4:=(blk_cell (blk_below J2.out hS) 1).trans rfl;have d5:=(blk_cell (blk_below J2.out hS) 2).trans rfl;have d6:=(blk_cell (blk_below K3.out hS) 0).trans rfl;have d7:=(blk_cell (blk_below K3.out hS) 1).trans rfl;go_simp;with_reducible rfl)
        refine on_ 29 (some 61) (lb 40 0x3fffffff) (fun K hK => ?_)
        (refine goesC_ Try.func22 (by kernel_rfl) rfl (by rfl) rfl rfl (keepGrammar_v g B1 B2 B3 A1 A2 A3 e1 e2 e3 c1 c2 c3 _ (RI6.out.below_ hHeld) (RG6.out.below_ hHeld)) (by simp [Act.eval]) ?_;rintro e w9 ⟨rfl,hb9⟩;refine ⟨_,rfl,?_⟩;have HQ9:=Aside0.mk (below_then hHeld hHeld.size hb9);clear hb9;refine hK.out _ _ HQ9.out (fun hHeld => ?_))
        clear hK K
        refine nm_ ?_ (some 61) ?_
        refine pu_ ?_ ?_ 30 (some 62) (lb 40 0x7fffffff) ?_
        refine pu_ ?_ ?_ 31 (some 63) (lb 40 0xffffffff) ?_
        refine pu_ ?_ ?_ 32 (some 64) (lb 40 0x1ffffffff) ?_
        refine pu_ ?_ ?_ 33 (some 65) (lb 40 0x3ffffffff) ?_
        refine on_ 34 (some 66) (lb 40 0x7ffffffff) (fun K hK => ?_)
        (refine goesC_ Try.func33 (by kernel_rfl) rfl (by rfl) rfl rfl (keepInts_v LA L lc cl l.length l.length l l _ (Kd.C_below CA6.out hHeld) (Kd.C_below CL6.out hHeld) (decide_eq_true rfl)) (by simp [Act.eval]) ?_;rintro e w9 ⟨rfl,hb9⟩;refine ⟨_,rfl,?_⟩;have HQ9:=Aside0.mk (below_then hHeld hHeld.size hb9);clear hb9;refine hK.out _ _ HQ9.out (fun hHeld => ?_))
        clear hK K
        refine nm_ ?_ (some 66) ?_
        refine pu_ ?_ ?_ 35 (some 67) (lb 40 0xfffffffff) ?_
        refine pu_ ?_ ?_ 36 (some 68) (lb 40 0x1fffffffff) ?_
        refine on_ 37 (some 69) (lb 40 0x3fffffffff) (fun K hK => ?_)
        (refine goesC_ Try.func27 (by kernel_rfl) rfl (by rfl) rfl rfl (wakes08_c _) (by simp [Act.eval]) ?_;rintro e w9 ⟨rfl,hb9⟩;refine ⟨_,rfl,?_⟩;have HQ9:=Aside0.mk (below_then hHeld hHeld.size hb9);clear hb9;refine hK.out _ _ HQ9.out (fun hHeld => ?_))
        clear hK K
        refine nm_ ?_ (some 69) ?_
        refine pu_ ?_ ?_ 38 (some 70) (lb 40 0x7fffffffff) ?_
        refine pu_ ?_ ?_ 39 (some 4) (lb 40 0xffffffffff) ?_
        refine done_ (by kernel_rfl) ?_
        go_wp2
        go_ret
        exact ⟨ret_bool rfl,below_then HV6.out HV6.out.size hHeld⟩
  · refine pp_ ?_ ?_ ?_
    refine pf_ ?_ ?_
    refine pf_ ?_ ?_
    refine pf_ ?_ ?_
    refine pp_ ?_ ?_ ?_
    refine pl_nil ?_
    go_upto_region 2 with (fail)
    refine pl_start ?_
    refine pl_held (B:=v0.heap.size) (v:=v0) (HX1.out) (fun hHeld => ?_)
    refine goesCL_ (N:=(some 17)) Try.func27 (by kernel_rfl) rfl (by rfl) rfl rfl (wakes08_c _) (by simp [Act.eval]) ?_
    rintro e x2_0 ⟨rfl,hb2_0⟩
    refine ⟨_,rfl,?_⟩
    simp only [Act.put,List.setIfInBounds_toArray,List.set_cons_zero,List.set_cons_succ]
    refine pl_held (B:=v0.heap.size) (v:=v0) (below_then hHeld hHeld.size hb2_0) (fun hHeld => ?_)
    refine pp_ ?_ ?_ ?_
    refine pl_nil ?_
    go_wp2
    go_ret
    exact ⟨ret_bool rfl,below_then HB0.out HB0.out.size hHeld⟩
end Go.Proofs.Ytdpdbgaoaibafaa
