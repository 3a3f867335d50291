/- The law FirstRules,walked: it answers true. -/
import Derived.Test.YtdpdbgaoaibafaaL0j
set_option linter.unusedVariables false
set_option linter.unusedSimpArgs false
namespace Go.Proofs.Ytdpdbgaoaibafaa
open Go.RowKit Go.Proofs.YtdpdbgaoaibafaaW.PrintWords Go.Proofs.YtdpdbgaoaibafaaW.PrintLast

set_option maxRecDepth 100000 in
set_option maxHeartbeats 16000000 in
theorem firstRules_c (g : Gram) (A1 A2 A3 : Option Addr) (c1 c2 c3 : Nat) (L : Option Addr) (cl : Nat) (l : List Int) (M : Option Addr) (cm : Nat) (m : List Int) (w : World) (hg : RepG w g A1 A2 A3 c1 c2 c3) (hz : Sized g) (hl : kU8m.C w L l.length l) (hlb : ∀ x ∈ l,0 ≤ x ∧ x ≤ 255) (hm : kU8m.C w M m.length m) (hmb : ∀ x ∈ m,0 ≤ x ∧ x ≤ 255) :
    Calls Try.prog 9 #[.agg #[.slice A1 g.terms.length c1,.slice A2 g.names.length c2,.slice A3 g.rules.length c3],.slice L l.length cl,.slice M m.length cm] w fun e w' => e = .returned (.bool true) ∧ Below w.heap.size w w':=by
  obtain ⟨v0,hv0⟩ : ∃ v0 : World,v0 = w.alloc (.cells #[.slice A1 g.terms.length c1,.slice A2 g.names.length c2,.slice A3 g.rules.length c3] 25 (0,0)):=⟨_,rfl⟩
  have HB0 : Aside0 (Below w.heap.size w v0):=⟨by rw [hv0];exact (Below.refl w.heap.size w).alloc (Nat.le_refl _) _⟩
  have HP0 : Aside0 (v0.heap[w.heap.size]? = some (.cells #[.slice A1 g.terms.length c1,.slice A2 g.names.length c2,.slice A3 g.rules.length c3] 25 (0,0))):=⟨by rw [hv0];exact blk_new w _⟩
  have HG0:=Aside0.mk (hg.below_ HB0.out)
  have HL0:=Aside0.mk (Kd.C_below hl HB0.out)
  have HM0:=Aside0.mk (Kd.C_below hm HB0.out)
  have HLB:=Aside0.mk hlb
  have HMB:=Aside0.mk hmb
  have HZ:=Aside0.mk hz
  have hlm:=C_max hl
  have hmm:=C_max hm
  clear hg hz hl hm hlb hmb
  go_enter Try.func9,Try.ntmps9
  go_upto_region 1 with (fail)
  simp only [← hv0]
  clear hv0
  refine pl_start ?_
  refine pl_held (B:=v0.heap.size) (v:=v0) (Below.refl _ _) (fun hHeld => ?_)
  refine pp_ ?_ ?_ ?_ (y:=by have d0:=(blk_cell (blk_below HP0.out hHeld) 0).trans rfl;have d1:=(blk_cell (blk_below HP0.out hHeld) 1).trans rfl;have d2:=(blk_cell (blk_below HP0.out hHeld) 2).trans rfl;go_simp;rfl)
  refine goesCL_ (N:=(some 26)) Try.func15 (by kernel_rfl) rfl (by rfl) rfl rfl (large_c g A1 A2 A3 c1 c2 c3 _ (HG0.out.below_ hHeld)) (by simp [Act.eval]) ?_
  rintro e x1_1 ⟨⟨lb,rfl,hs⟩,hb1_1⟩
  refine ⟨_,rfl,?_⟩
  simp only [Act.put,List.setIfInBounds_toArray,List.set_cons_zero,List.set_cons_succ]
  refine pl_held (B:=v0.heap.size) (v:=v0) (below_then hHeld hHeld.size hb1_1) (fun hHeld => ?_)
  have HX1:=Aside0.mk hHeld
  clear hs
  cases lb
  · cases hgd : goodF g
    · refine pp_ ?_ ?_ ?_
      refine pp_ ?_ ?_ ?_ (y:=by have d0:=(blk_cell (blk_below HP0.out hHeld) 0).trans rfl;have d1:=(blk_cell (blk_below HP0.out hHeld) 1).trans rfl;have d2:=(blk_cell (blk_below HP0.out hHeld) 2).trans rfl;go_simp;rfl)
      refine goesCL_ (N:=(some 29)) Try.func24 (by kernel_rfl) rfl (by rfl) rfl rfl (good1_v g A1 A2 A3 c1 c2 c3 _ (HG0.out.below_ hHeld) HZ.out hgd) (by simp [Act.eval]) ?_
      rintro e x1_4 ⟨rfl,hb1_4⟩
      refine ⟨_,rfl,?_⟩
      simp only [Act.put,List.setIfInBounds_toArray,List.set_cons_zero,List.set_cons_succ]
      refine pl_held (B:=v0.heap.size) (v:=v0) (below_then hHeld hHeld.size hb1_4) (fun hHeld => ?_)
      refine pp_ ?_ ?_ ?_
      refine pp_ ?_ ?_ ?_
      refine pp_ ?_ ?_ ?_
      refine pf_ ?_ ?_
      refine pf_ ?_ ?_
      refine pf_ ?_ ?_
      refine pp_ ?_ ?_ ?_
      refine pp_ ?_ ?_ ?_
      refine pf_ ?_ ?_
      refine pf_ ?_ ?_
      refine pf_ ?_ ?_
      refine pp_ ?_ ?_ ?_
      refine pl_nil ?_
      go_upto_region 2 with (fail)
      refine pl_start ?_
      refine pl_held (B:=v0.heap.size) (v:=v0) (below_then HX1.out HX1.out.size hb1_4) (fun hHeld => ?_)
      refine goesCL_ (N:=(some 42)) Try.func27 (by kernel_rfl) rfl (by rfl) rfl rfl (wakes08_c _) (by simp [Act.eval]) ?_
      rintro e x2_0 ⟨rfl,hb2_0⟩
      refine ⟨_,rfl,?_⟩
      simp only [Act.put,List.setIfInBounds_toArray,List.set_cons_zero,List.set_cons_succ]
      refine pl_held (B:=v0.heap.size) (v:=v0) (below_then hHeld hHeld.size hb2_0) (fun hHeld => ?_)
      refine pp_ ?_ ?_ ?_
      refine pl_nil ?_
      go_wp2
      go_ret
      exact ⟨ret_bool rfl,below_then HB0.out HB0.out.size hHeld⟩
    · by_cases hl20 : 20 < l.length
      · have d1 : decide ((20 : Int) < (l.length : Int)) = true:=by simp;omega
        refine pp_ ?_ ?_ ?_
        refine pp_ ?_ ?_ ?_ (y:=by have d0:=(blk_cell (blk_below HP0.out hHeld) 0).trans rfl;have d1:=(blk_cell (blk_below HP0.out hHeld) 1).trans rfl;have d2:=(blk_cell (blk_below HP0.out hHeld) 2).trans rfl;go_simp;rfl)
        refine goesCL_ (N:=(some 29)) Try.func24 (by kernel_rfl) rfl (by rfl) rfl rfl (good1_v g A1 A2 A3 c1 c2 c3 _ (HG0.out.below_ hHeld) HZ.out hgd) (by simp [Act.eval]) ?_
        rintro e x1_4 ⟨rfl,hb1_4⟩
        refine ⟨_,rfl,?_⟩
        simp only [Act.put,List.setIfInBounds_toArray,List.set_cons_zero,List.set_cons_succ]
        refine pl_held (B:=v0.heap.size) (v:=v0) (below_then hHeld hHeld.size hb1_4) (fun hHeld => ?_)
        refine pp_ ?_ ?_ ?_
        refine pp_ ?_ ?_ ?_
        refine pp_ ?_ ?_ ?_
        refine pp_ ?_ ?_ ?_
        refine pp_ ?_ ?_ ?_
        refine pp_ ?_ ?_ ?_
        refine pp_ ?_ ?_ ?_
        refine pp_ ?_ ?_ ?_
        refine pf_ ?_ ?_
        refine pf_ ?_ ?_
        refine pf_ ?_ ?_
        refine pp_ ?_ ?_ ?_
        refine pl_nil ?_
        go_upto_region 2 with (fail)
        refine pl_start ?_
        refine pl_held (B:=v0.heap.size) (v:=v0) (below_then HX1.out HX1.out.size hb1_4) (fun hHeld => ?_)
        refine goesCL_ (N:=(some 42)) Try.func27 (by kernel_rfl) rfl (by rfl) rfl rfl (wakes08_c _) (by simp [Act.eval]) ?_
        rintro e x2_0 ⟨rfl,hb2_0⟩
        refine ⟨_,rfl,?_⟩
        simp only [Act.put,List.setIfInBounds_toArray,List.set_cons_zero,List.set_cons_succ]
        refine pl_held (B:=v0.heap.size) (v:=v0) (below_then hHeld hHeld.size hb2_0) (fun hHeld => ?_)
        refine pp_ ?_ ?_ ?_
        refine pl_nil ?_
        go_wp2
        go_ret
        exact ⟨ret_bool rfl,below_then HB0.out HB0.out.size hHeld⟩
      · have d1 : decide ((20 : Int) < (l.length : Int)) = false:=by simp;omega
        by_cases hm20 : 20 < m.length
        · have d2 : decide ((20 : Int) < (m.length : Int)) = true:=by simp;omega
          refine pp_ ?_ ?_ ?_
          refine pp_ ?_ ?_ ?_ (y:=by have d0:=(blk_cell (blk_below HP0.out hHeld) 0).trans rfl;have d1:=(blk_cell (blk_below HP0.out hHeld) 1).trans rfl;have d2:=(blk_cell (blk_below HP0.out hHeld) 2).trans rfl;go_simp;rfl)
          refine goesCL_ (N:=(some 29)) Try.func24 (by kernel_rfl) rfl (by rfl) rfl rfl (good1_v g A1 A2 A3 c1 c2 c3 _ (HG0.out.below_ hHeld) HZ.out hgd) (by simp [Act.eval]) ?_
          rintro e x1_4 ⟨rfl,hb1_4⟩
          refine ⟨_,rfl,?_⟩
          simp only [Act.put,List.setIfInBounds_toArray,List.set_cons_zero,List.set_cons_succ]
          refine pl_held (B:=v0.heap.size) (v:=v0) (below_then hHeld hHeld.size hb1_4) (fun hHeld => ?_)
          refine pp_ ?_ ?_ ?_
          refine pp_ ?_ ?_ ?_
          refine pp_ ?_ ?_ ?_
          refine pp_ ?_ ?_ ?_
          refine pp_ ?_ ?_ ?_
          refine pp_ ?_ ?_ ?_
          refine pp_ ?_ ?_ ?_
          refine pp_ ?_ ?_ ?_
          refine pp_ ?_ ?_ ?_
          refine pp_ ?_ ?_ ?_
          refine pp_ ?_ ?_ ?_
          refine pp_ ?_ ?_ ?_
          refine pl_nil ?_
          go_upto_region 2 with (fail)
          refine pl_start ?_
          refine pl_held (B:=v0.heap.size) (v:=v0) (below_then HX1.out HX1.out.size hb1_4) (fun hHeld => ?_)
          refine goesCL_ (N:=(some 42)) Try.func27 (by kernel_rfl) rfl (by rfl) rfl rfl (wakes08_c _) (by simp [Act.eval]) ?_
          rintro e x2_0 ⟨rfl,hb2_0⟩
          refine ⟨_,rfl,?_⟩
          simp only [Act.put,List.setIfInBounds_toArray,List.set_cons_zero,List.set_cons_succ]
          refine pl_held (B:=v0.heap.size) (v:=v0) (below_then hHeld hHeld.size hb2_0) (fun hHeld => ?_)
          refine pp_ ?_ ?_ ?_
          refine pl_nil ?_
          go_wp2
          go_ret
          exact ⟨ret_bool rfl,below_then HB0.out HB0.out.size hHeld⟩
        · have d2 : decide ((20 : Int) < (m.length : Int)) = false:=by simp;omega
          refine pp_ ?_ ?_ ?_
          refine pp_ ?_ ?_ ?_ (y:=by have d0:=(blk_cell (blk_below HP0.out hHeld) 0).trans rfl;have d1:=(blk_cell (blk_below HP0.out hHeld) 1).trans rfl;have d2:=(blk_cell (blk_below HP0.out hHeld) 2).trans rfl;go_simp;rfl)
          refine goesCL_ (N:=(some 29)) Try.func24 (by kernel_rfl) rfl (by rfl) rfl rfl (good1_v g A1 A2 A3 c1 c2 c3 _ (HG0.out.below_ hHeld) HZ.out hgd) (by simp [Act.eval]) ?_
          rintro e x1_4 ⟨rfl,hb1_4⟩
          refine ⟨_,rfl,?_⟩
          simp only [Act.put,List.setIfInBounds_toArray,List.set_cons_zero,List.set_cons_succ]
          refine pl_held (B:=v0.heap.size) (v:=v0) (below_then hHeld hHeld.size hb1_4) (fun hHeld => ?_)
          refine pp_ ?_ ?_ ?_
          refine pp_ ?_ ?_ ?_
          refine pp_ ?_ ?_ ?_
          refine pp_ ?_ ?_ ?_
          refine pp_ ?_ ?_ ?_
          refine pp_ ?_ ?_ ?_
          refine pp_ ?_ ?_ ?_
          refine pp_ ?_ ?_ ?_
          refine pp_ ?_ ?_ ?_
          refine pp_ ?_ ?_ ?_
          refine pp_ ?_ ?_ ?_
          refine pp_ ?_ ?_ ?_
          refine pl_nil ?_
          clear d1 d2
          obtain ⟨q1,q2,q3,q4⟩:=goodF_small hgd
          have HX4:=Aside0.mk (below_then HX1.out HX1.out.size hb1_4)
          obtain ⟨n,hn⟩ : ∃ n,nsym g = n:=⟨_,rfl⟩
          have hn80 : n ≤ 80:=by rw [← hn];unfold nsym;omega
          have hn1 : 1 ≤ n:=by rw [← hn];unfold nsym;omega
          have e1 : IntKind.i64.wrap ((g.terms.length : Int) + (g.names.length : Int)) = (n : Int):=by rw [IntWalk.i64_in _ (by omega),← hn];unfold nsym;omega
          have HN:=Lib.hid hn
          have HGD:=Lib.hid hgd
          clear hn hgd hHeld hb1_1 hb1_4
          have K1:=Aside0.mk (blk_below HP0.out HX4.out)
          have a1:=(blk_cell K1.out 0).trans rfl
          have a2:=(blk_cell K1.out 1).trans rfl
          go_upto_region 4 with (fail)
          clear e1 a1 a2
          refine pl_start ?_
          refine pl_held (B:=v0.heap.size) (v:=v0) (HX4.out) (fun hHeld => ?_)
          refine pp_ ?_ ?_ ?_ (y:=by have d0:=(blk_cell (blk_below HP0.out hHeld) 0).trans rfl;have d1:=(blk_cell (blk_below HP0.out hHeld) 1).trans rfl;have d2:=(blk_cell (blk_below HP0.out hHeld) 2).trans rfl;go_simp;rfl)
          refine goesCL_ (N:=(some 51)) Try.func31 (by kernel_rfl) rfl (by rfl) rfl rfl (sets_yes g A1 A2 A3 c1 c2 c3 _ (HG0.out.below_ hHeld) HGD.out HN.out) (by simp [Act.eval]) ?_
          rintro e x4_1 ⟨⟨vs,rfl,hvs⟩,hb4_1⟩
          refine ⟨_,rfl,?_⟩
          simp only [Act.put,List.setIfInBounds_toArray,List.set_cons_zero,List.set_cons_succ]
          obtain ⟨Sa,sc,rfl⟩:=Kd.R_slice hvs
          have HSS:=Aside0.mk (Kd.R_reads' hvs).2.2
          refine pl_held (B:=v0.heap.size) (v:=v0) (below_then hHeld hHeld.size hb4_1) (fun hHeld => ?_)
          refine pp_ ?_ ?_ ?_
          refine pl_nil ?_
          have HV5:=Aside0.mk (below_then HB0.out HB0.out.size hHeld)
          have K5:=Aside0.mk (blk_below HP0.out hHeld)
          have HG5:=Aside0.mk (HG0.out.below_ hHeld)
          have HL5:=Aside0.mk (Kd.C_below HL0.out hHeld)
          have HM5:=Aside0.mk (Kd.C_below HM0.out hHeld)
          have LA : Aside0 ((setsF g).length = n):=⟨by rw [setsF_len,HN.out]⟩
          have hmf:=print_make_of (P:=Try.prog) 60 4 (.bool false) 1 Try.underlying60 (by kernel_rfl) rfl (by decide) g.terms.length (by omega)
          clear hHeld hvs hb4_1 HX1 HX4 HP0 HG0 HL0 HM0 K1
          rename World => y0
          go_upto_region 5 with (fail)
          simp only [LA.out]
          go_wp2
          go_loopw [9] (fun iv wr => ∃ b : Nat,b ≤ n ∧ iv = .int .i64 b ∧ Aside0 (Below y0.heap.size y0 wr)) (fun iv _ => n - (intOf iv).toNat)
          case atStart => exact ⟨0,Nat.zero_le _,rfl,⟨Below.refl _ _⟩⟩
          case round =>
            obtain ⟨b,hb,rfl,HY⟩:=hrel
            rename World => yi
            by_cases hbn : b < n
            · have a0:=(blk_cell (blk_below K5.out HY.out) 0).trans rfl
              have i1 : (0 : Int) ≤ (b : Int):=by omega
              have i2 : (b : Int) < (n : Int):=by omega
              obtain ⟨q,hq⟩ : ∃ q,q = yi.heap.size:=⟨_,rfl⟩
              obtain ⟨yj,hyj⟩ : ∃ yj,yj = yi.alloc (.cells (madeCells #[.bool false] g.terms.length) 4):=⟨_,rfl⟩
              have HZB : Aside0 (BB yj q (List.replicate g.terms.length false)):=⟨by rw [hyj,hq];exact BB.new _ _⟩
              have HYJ : Aside0 (Below yi.heap.size yi yj):=⟨by rw [hyj];exact below_alloc (Below.refl _ _) _⟩
              have HQY : Aside0 (q = yi.heap.size):=⟨hq⟩
              have KI:=Aside0.mk (blk_below K5.out HY.out)
              have HGI:=Aside0.mk (HG5.out.below_ HY.out)
              have HRS:=Aside0.mk (first_rules HGD.out (b:=b) (by rw [HN.out];exact hbn))
              go_upto_region 11 with (fail)
              simp only [← hyj,← hq]
              clear hyj hq a0
              by_cases hbt : b < g.terms.length
              · obtain ⟨z,hz⟩ : ∃ z,yj.cell? ⟨q,b,none⟩ = some (.bool z):=⟨_,HZB.out.cell (by simpa using hbt)⟩
                have fz:=HZB.out.fz b
                have HOB : Aside0 (BB (yj.setCell ⟨q,b,none⟩ (.bool true)) q (oneT g.terms.length b)):=⟨by
                  have:=HZB.out.set b true
                  rw [oneT,if_pos (by omega),setB,Int.toNat_natCast];exact this⟩
                have HBW : Aside0 (Below yi.heap.size yi (yj.setCell ⟨q,b,none⟩ (.bool true))):=⟨below_set HYJ.out (by rw [HQY.out];exact Nat.le_refl _) _ _⟩
                have i3 : (b : Int) < (g.terms.length : Int):=by omega
                clear HZB HYJ
                go_wp2
                clear hz fz i3
                go_loopw [11] (fun iv wr => ∃ i : Nat,i ≤ g.rules.length ∧ iv = .int .i64 i ∧ Aside0 (BB wr q (gatherB g b (oneT g.terms.length b) (g.rules.take i))) ∧ Aside0 (Below yi.heap.size yi wr)) (fun iv _ => g.rules.length - (intOf iv).toNat)
                case atStart => exact ⟨0,Nat.zero_le _,rfl,by simpa [gatherB] using HOB,HBW⟩
                case round =>
                  clear HOB HBW
                  obtain ⟨i,hi,rfl,HO,HW⟩:=hrel
                  rename World => wi
                  have a2:=(blk_cell (blk_below KI.out HW.out) 2).trans rfl
                  have HWY:=Aside0.mk (below_then HY.out HY.out.size HW.out)
                  by_cases hil : i < g.rules.length
                  · obtain ⟨ad,R1,d1,ead,hx0,hy0,hd1,hC1⟩:=at_rule HGI.out.rules i hil
                    cases ead
                    have hx:=pw_cell_below HW.out hx0
                    have hy:=pw_cell_below HW.out hy0
                    have HTK:=Lib.hid (gatherB_take (g:=g) (b:=b) (m:=oneT g.terms.length b) hil)
                    have HXM:=Aside0.mk (List.getElem_mem hil)
                    obtain ⟨x,hx1⟩ : ∃ x,x = g.rules[i]'hil:=⟨_,rfl⟩
                    rw [← hx1] at hx hy hd1 hC1 HTK HXM
                    have HHX:=Aside0.mk hx
                    have HHY:=Aside0.mk hy
                    have HC1:=Aside0.mk (Kd.C_below hC1 HW.out)
                    have KW:=Aside0.mk (blk_below KI.out HW.out)
                    have HGW:=Aside0.mk (HGI.out.below_ HW.out)
                    have j1 : (0 : Int) ≤ (i : Int):=by omega
                    have j2 : (i : Int) < (g.rules.length : Int):=by omega
                    clear hx1 hx0 hy0 hd1 hC1
                    by_cases hle : x.left = (b : Int)
                    · have e2 : (x.left != (b : Int)) = false:=by simpa using hle
                      have HOK : Aside0 (okF g x.right = true):=⟨by rw [okF,HGD.out,Bool.true_and,List.all_eq_true];exact fun y hy => by rw [inF,decide_eq_true_eq];exact right_in HGD.out HXM.out y hy⟩
                      have HXB : Aside0 (∀ y ∈ x.right,-9223372036854775808 ≤ y ∧ y ≤ 9223372036854775807):=⟨fun y hy => by have:=right_in HGD.out HXM.out y hy;rw [HN.out] at this;omega⟩
                      have HML : Aside0 (∀ y ∈ membF (beginsF g x.right),0 ≤ y ∧ y < (g.terms.length : Int)):=⟨fun y hy => by have:=getB_in (mem_membF.1 hy);rwa [beginsF_len (right_in HGD.out HXM.out)] at this⟩
                      rw [if_pos hle] at HTK
                      go_upto_region 17 with (fail)
                      refine start_ (n:=13) (S:=fun w' => Below wi.heap.size wi w') (ds:=[]) (lb 13 0x0) (by kernel_rfl) rfl (by kernel_rfl) (below_drew1 (Below.refl _ _)) (fun hHeld => ?_)
                      refine pu_ ?_ ?_ 1 (some 89) (lb 13 0x2) ?_
                      refine pu_ ?_ ?_ 3 (some 91) (lb 13 0xa) ?_
                      refine ta_ ?_ ?_ 0 (some 88) (lb 13 0xb) hHeld ?_ (y:=by rintro w' hS;have d0:=(blk_cell (blk_below KW.out hS) 0).trans rfl;have d1:=(blk_cell (blk_below KW.out hS) 1).trans rfl;have d2:=(blk_cell (blk_below KW.out hS) 2).trans rfl;have d3:=cell_at hS HHY.out;go_simp;with_reducible rfl)
                      refine ta_ ?_ ?_ 2 (some 90) (lb 13 0xf) hHeld ?_ (y:=by rintro w' hS;have d0:=(blk_cell (blk_below KW.out hS) 0).trans rfl;have d1:=(blk_cell (blk_below KW.out hS) 1).trans rfl;have d2:=(blk_cell (blk_below KW.out hS) 2).trans rfl;have d3:=cell_at hS HHY.out;go_simp;with_reducible rfl)
                      refine pu_ ?_ ?_ 4 (some 92) (lb 13 0x1f) ?_
                      refine pu_ ?_ ?_ 5 (some 93) (lb 13 0x3f) ?_
                      refine ta_ ?_ ?_ 6 (some 94) (lb 13 0x7f) hHeld ?_ (y:=by rintro w' hS;have d0:=(blk_cell (blk_below KW.out hS) 0).trans rfl;have d1:=(blk_cell (blk_below KW.out hS) 1).trans rfl;have d2:=(blk_cell (blk_below KW.out hS) 2).trans rfl;have d3:=cell_at hS HHY.out;go_simp;with_reducible rfl)
                      refine on_ 7 (some 95) (lb 13 0xff) (fun K hK => ?_)
                      (refine goesC_ Try.func28 (by kernel_rfl) rfl (by rfl) rfl rfl (ofF_c g A1 A2 (some ad) c1 c2 c3 R1 d1 x.right _ (HGW.out.below_ hHeld) (Kd.C_below HC1.out hHeld) HXB.out HOK.out) (by simp [Act.eval]) ?_;rintro e w9 ⟨⟨FA,fc,rfl,hf⟩,hb9⟩;refine ⟨_,rfl,?_⟩;have HQ9:=Aside0.mk (below_then hHeld hHeld.size hb9);have HF:=Aside0.mk hf;clear hf;clear hb9;refine hK.out _ _ HQ9.out (fun hHeld => ?_))
                      clear hK K
                      refine nm_ ?_ (some 95) ?_
                      refine pu_ ?_ ?_ 8 (some 87) (lb 13 0x1ff) ?_
                      refine pu_ ?_ ?_ 9 (some 96) (lb 13 0x3ff) ?_
                      refine pu_ ?_ ?_ 10 (some 97) (lb 13 0x7ff) ?_
                      refine pu_ ?_ ?_ 11 (some 12) (lb 13 0xfff) ?_
                      refine pu_ ?_ ?_ 12 (some 13) (lb 13 0x1fff) ?_
                      refine done_ (by kernel_rfl) ?_
                      have HO9:=Aside0.mk (HO.out.below hHeld)
                      have HW9:=Aside0.mk (below_then HW.out HW.out.size hHeld)
                      clear hHeld a2 hx hy e2
                      rename World => w9
                      simp only [if_true] at HF ⊢
                      have HGL : Aside0 ((gatherB g b (oneT g.terms.length b) (g.rules.take i)).length = g.terms.length):=⟨by rw [gatherB_len,oneT_len]⟩
                      go_wp2_with (go_at_call 34;go_loud (refine (mark_c q g.terms.length (gatherB g b (oneT g.terms.length b) (g.rules.take i)) FA fc (membF (beginsF g x.right)).length (membF (beginsF g x.right)) _ HO9.out HGL.out (by omega) (fun w' hu => (Kd.R_reads' (R_upd HF.out (by decide) HO9.out hu)).2.2) HML.out).mono ?_;rintro e w8 ⟨rfl,hbo,hu⟩;have HBO:=Aside0.mk hbo;have HW8:=Aside0.mk (hu.low HW9.out (by rw [HQY.out];exact Nat.le_refl _));clear hbo hu))
                      go_roundw
                      case rel => exact ⟨i + 1,by omega,by go_num,by rw [HTK.out];exact HBO,HW8⟩
                      case measure => simp [intOf];omega
                    · have e2 : (x.left != (b : Int)) = true:=by simpa using hle
                      rw [if_neg hle] at HTK
                      go_wp2
                      go_roundw
                      case rel => exact ⟨i + 1,by omega,by go_num,by rw [HTK.out];exact HO,HW⟩
                      case measure => simp [intOf];omega
                  · have HOA : Aside0 (BB wi q (rowT (firstF g) b)):=⟨by have:=HO.out;rw [List.take_of_length_le (by omega),HRS.out] at this;exact this⟩
                    have HRL : Aside0 ((rowT (firstF g) (b : Int)).length = g.terms.length):=⟨(firstF_sh g).row (by rw [HN.out];exact hbn)⟩
                    have hsb : b < (setsF g).length:=by rw [LA.out];exact hbn
                    obtain ⟨sd,Ab,cb,esd,hxb,hcb,hCb⟩:=at_row (Kd.C_below HSS.out HWY.out) b (by rw [LA.out];exact hbn)
                    cases esd
                    rw [setsF_at hsb] at hxb hCb
                    have HCb:=Aside0.mk hCb
                    clear hcb hCb hsb HO
                    go_upto_region 20 with (fail)
                    clear a2
                    go_wp2_with (go_at_call 35;go_loud (refine (same_c (some ⟨q,0,none⟩) Ab g.terms.length _ cb _ (rowT (firstF g) (b : Int)) (membF (rowT (firstF g) (b : Int))) _ (HOA.out.C' HRL.out (by omega)) HCb.out (v:=true) (decide_eq_true rfl)).mono ?_;rintro e w8 ⟨rfl,hb8⟩;have HW8:=Aside0.mk (below_then HWY.out HWY.out.size hb8);clear hb8))
                    go_roundw
                    case rel => exact ⟨b + 1,by omega,by go_num,HW8⟩
                    case measure => simp [intOf];omega
              · have HOB : Aside0 (BB yj q (oneT g.terms.length b)):=⟨by rw [oneT,if_neg (by omega)];exact HZB.out⟩
                have HBW : Aside0 (Below yi.heap.size yi yj):=HYJ
                have i3 : ¬ (b : Int) < (g.terms.length : Int):=by omega
                clear HZB HYJ
                go_wp2
                clear i3
                go_loopw [11] (fun iv wr => ∃ i : Nat,i ≤ g.rules.length ∧ iv = .int .i64 i ∧ Aside0 (BB wr q (gatherB g b (oneT g.terms.length b) (g.rules.take i))) ∧ Aside0 (Below yi.heap.size yi wr)) (fun iv _ => g.rules.length - (intOf iv).toNat)
                case atStart => exact ⟨0,Nat.zero_le _,rfl,by simpa [gatherB] using HOB,HBW⟩
                case round =>
                  clear HOB HBW
                  obtain ⟨i,hi,rfl,HO,HW⟩:=hrel
                  rename World => wi
                  have a2:=(blk_cell (blk_below KI.out HW.out) 2).trans rfl
                  have HWY:=Aside0.mk (below_then HY.out HY.out.size HW.out)
                  by_cases hil : i < g.rules.length
                  · obtain ⟨ad,R1,d1,ead,hx0,hy0,hd1,hC1⟩:=at_rule HGI.out.rules i hil
                    cases ead
                    have hx:=pw_cell_below HW.out hx0
                    have hy:=pw_cell_below HW.out hy0
                    have HTK:=Lib.hid (gatherB_take (g:=g) (b:=b) (m:=oneT g.terms.length b) hil)
                    have HXM:=Aside0.mk (List.getElem_mem hil)
                    obtain ⟨x,hx1⟩ : ∃ x,x = g.rules[i]'hil:=⟨_,rfl⟩
                    rw [← hx1] at hx hy hd1 hC1 HTK HXM
                    have HHX:=Aside0.mk hx
                    have HHY:=Aside0.mk hy
                    have HC1:=Aside0.mk (Kd.C_below hC1 HW.out)
                    have KW:=Aside0.mk (blk_below KI.out HW.out)
                    have HGW:=Aside0.mk (HGI.out.below_ HW.out)
                    have j1 : (0 : Int) ≤ (i : Int):=by omega
                    have j2 : (i : Int) < (g.rules.length : Int):=by omega
                    clear hx1 hx0 hy0 hd1 hC1
                    by_cases hle : x.left = (b : Int)
                    · have e2 : (x.left != (b : Int)) = false:=by simpa using hle
                      have HOK : Aside0 (okF g x.right = true):=⟨by rw [okF,HGD.out,Bool.true_and,List.all_eq_true];exact fun y hy => by rw [inF,decide_eq_true_eq];exact right_in HGD.out HXM.out y hy⟩
                      have HXB : Aside0 (∀ y ∈ x.right,-9223372036854775808 ≤ y ∧ y ≤ 9223372036854775807):=⟨fun y hy => by have:=right_in HGD.out HXM.out y hy;rw [HN.out] at this;omega⟩
                      have HML : Aside0 (∀ y ∈ membF (beginsF g x.right),0 ≤ y ∧ y < (g.terms.length : Int)):=⟨fun y hy => by have:=getB_in (mem_membF.1 hy);rwa [beginsF_len (right_in HGD.out HXM.out)] at this⟩
                      rw [if_pos hle] at HTK
                      go_upto_region 17 with (fail)
                      refine start_ (n:=13) (S:=fun w' => Below wi.heap.size wi w') (ds:=[]) (lb 13 0x0) (by kernel_rfl) rfl (by kernel_rfl) (below_drew1 (Below.refl _ _)) (fun hHeld => ?_)
                      refine pu_ ?_ ?_ 1 (some 89) (lb 13 0x2) ?_
                      refine pu_ ?_ ?_ 3 (some 91) (lb 13 0xa) ?_
                      refine ta_ ?_ ?_ 0 (some 88) (lb 13 0xb) hHeld ?_ (y:=by rintro w' hS;have d0:=(blk_cell (blk_below KW.out hS) 0).trans rfl;have d1:=(blk_cell (blk_below KW.out hS) 1).trans rfl;have d2:=(blk_cell (blk_below KW.out hS) 2).trans rfl;have d3:=cell_at hS HHY.out;go_simp;with_reducible rfl)
                      refine ta_ ?_ ?_ 2 (some 90) (lb 13 0xf) hHeld ?_ (y:=by rintro w' hS;have d0:=(blk_cell (blk_below KW.out hS) 0).trans rfl;have d1:=(blk_cell (blk_below KW.out hS) 1).trans rfl;have d2:=(blk_cell (blk_below KW.out hS) 2).trans rfl;have d3:=cell_at hS HHY.out;go_simp;with_reducible rfl)
                      refine pu_ ?_ ?_ 4 (some 92) (lb 13 0x1f) ?_
                      refine pu_ ?_ ?_ 5 (some 93) (lb 13 0x3f) ?_
                      refine ta_ ?_ ?_ 6 (some 94) (lb 13 0x7f) hHeld ?_ (y:=by rintro w' hS;have d0:=(blk_cell (blk_below KW.out hS) 0).trans rfl;have d1:=(blk_cell (blk_below KW.out hS) 1).trans rfl;have d2:=(blk_cell (blk_below KW.out hS) 2).trans rfl;have d3:=cell_at hS HHY.out;go_simp;with_reducible rfl)
                      refine on_ 7 (some 95) (lb 13 0xff) (fun K hK => ?_)
                      (refine goesC_ Try.func28 (by kernel_rfl) rfl (by rfl) rfl rfl (ofF_c g A1 A2 (some ad) c1 c2 c3 R1 d1 x.right _ (HGW.out.below_ hHeld) (Kd.C_below HC1.out hHeld) HXB.out HOK.out) (by simp [Act.eval]) ?_;rintro e w9 ⟨⟨FA,fc,rfl,hf⟩,hb9⟩;refine ⟨_,rfl,?_⟩;have HQ9:=Aside0.mk (below_then hHeld hHeld.size hb9);have HF:=Aside0.mk hf;clear hf;clear hb9;refine hK.out _ _ HQ9.out (fun hHeld => ?_))
                      clear hK K
                      refine nm_ ?_ (some 95) ?_
                      refine pu_ ?_ ?_ 8 (some 87) (lb 13 0x1ff) ?_
                      refine pu_ ?_ ?_ 9 (some 96) (lb 13 0x3ff) ?_
                      refine pu_ ?_ ?_ 10 (some 97) (lb 13 0x7ff) ?_
                      refine pu_ ?_ ?_ 11 (some 12) (lb 13 0xfff) ?_
                      refine pu_ ?_ ?_ 12 (some 13) (lb 13 0x1fff) ?_
                      refine done_ (by kernel_rfl) ?_
                      have HO9:=Aside0.mk (HO.out.below hHeld)
                      have HW9:=Aside0.mk (below_then HW.out HW.out.size hHeld)
                      clear hHeld a2 hx hy e2
                      rename World => w9
                      simp only [if_true] at HF ⊢
                      have HGL : Aside0 ((gatherB g b (oneT g.terms.length b) (g.rules.take i)).length = g.terms.length):=⟨by rw [gatherB_len,oneT_len]⟩
                      go_wp2_with (go_at_call 34;go_loud (refine (mark_c q g.terms.length (gatherB g b (oneT g.terms.length b) (g.rules.take i)) FA fc (membF (beginsF g x.right)).length (membF (beginsF g x.right)) _ HO9.out HGL.out (by omega) (fun w' hu => (Kd.R_reads' (R_upd HF.out (by decide) HO9.out hu)).2.2) HML.out).mono ?_;rintro e w8 ⟨rfl,hbo,hu⟩;have HBO:=Aside0.mk hbo;have HW8:=Aside0.mk (hu.low HW9.out (by rw [HQY.out];exact Nat.le_refl _));clear hbo hu))
                      go_roundw
                      case rel => exact ⟨i + 1,by omega,by go_num,by rw [HTK.out];exact HBO,HW8⟩
                      case measure => simp [intOf];omega
                    · have e2 : (x.left != (b : Int)) = true:=by simpa using hle
                      rw [if_neg hle] at HTK
                      go_wp2
                      go_roundw
                      case rel => exact ⟨i + 1,by omega,by go_num,by rw [HTK.out];exact HO,HW⟩
                      case measure => simp [intOf];omega
                  · have HOA : Aside0 (BB wi q (rowT (firstF g) b)):=⟨by have:=HO.out;rw [List.take_of_length_le (by omega),HRS.out] at this;exact this⟩
                    have HRL : Aside0 ((rowT (firstF g) (b : Int)).length = g.terms.length):=⟨(firstF_sh g).row (by rw [HN.out];exact hbn)⟩
                    have hsb : b < (setsF g).length:=by rw [LA.out];exact hbn
                    obtain ⟨sd,Ab,cb,esd,hxb,hcb,hCb⟩:=at_row (Kd.C_below HSS.out HWY.out) b (by rw [LA.out];exact hbn)
                    cases esd
                    rw [setsF_at hsb] at hxb hCb
                    have HCb:=Aside0.mk hCb
                    clear hcb hCb hsb HO
                    go_upto_region 20 with (fail)
                    clear a2
                    go_wp2_with (go_at_call 35;go_loud (refine (same_c (some ⟨q,0,none⟩) Ab g.terms.length _ cb _ (rowT (firstF g) (b : Int)) (membF (rowT (firstF g) (b : Int))) _ (HOA.out.C' HRL.out (by omega)) HCb.out (v:=true) (decide_eq_true rfl)).mono ?_;rintro e w8 ⟨rfl,hb8⟩;have HW8:=Aside0.mk (below_then HWY.out HWY.out.size hb8);clear hb8))
                    go_roundw
                    case rel => exact ⟨b + 1,by omega,by go_num,HW8⟩
                    case measure => simp [intOf];omega
            · have HVI:=Aside0.mk (below_then HV5.out HV5.out.size HY.out)
              have KI:=Aside0.mk (blk_below K5.out HY.out)
              have HGI:=Aside0.mk (HG5.out.below_ HY.out)
              have HLI:=Aside0.mk (Kd.C_below HL5.out HY.out)
              have HMI:=Aside0.mk (Kd.C_below HM5.out HY.out)
              have hn1' : ¬ (n : Int) = 0:=by omega
              clear HY K5 HG5 HL5 HM5 HV5 HSS LA
              rename World => y1
              go_wp2
              go_loopw [16,14] (fun i vp wr => ∃ k : Nat,k ≤ l.length ∧ i = .int .i64 k ∧ Aside0 (kInt.R 3 wr y1.heap.size (fun _ => True) vp (modM n (l.take k))) ∧ Aside0 (Below y1.heap.size y1 wr)) (fun i _ _ => l.length - (intOf i).toNat)
              case atStart => exact ⟨0,Nat.zero_le _,rfl,⟨Kd.R_nil _ _ _ _ _⟩,⟨Below.refl _ _⟩⟩
              case round =>
                obtain ⟨k,hk,rfl,HR,HBq⟩:=hrel
                by_cases hlt : k < l.length
                · obtain ⟨ad,ead,hy⟩:=at_int (Kd.C_below HLI.out HBq.out) k hlt
                  cases ead
                  have i1 : (0 : Int) ≤ (k : Int):=by omega
                  have i2 : (k : Int) < (l.length : Int):=by omega
                  have hxb:=HLB.out (l[k]'hlt) (List.getElem_mem _)
                  have HT:=Lib.hid (modM_take (n:=n) hlt)
                  have hpl:=modM_len n (l.take k)
                  rw [List.length_take,Nat.min_eq_left hk] at hpl
                  obtain ⟨x,hx⟩ : ∃ x,x = l[k]'hlt:=⟨_,rfl⟩
                  rw [← hx] at hy hxb HT
                  clear hx
                  obtain ⟨z,hz⟩ : ∃ z : Nat,x % (n : Int) = z:=⟨(x % (n : Int)).toNat,by have:=Int.emod_nonneg x (show (n : Int) ≠ 0 by omega);omega⟩
                  obtain ⟨Z,hZ⟩ : ∃ Z,Z = modM n (l.take k):=⟨_,rfl⟩
                  rw [← hZ] at HR HT hpl
                  have HPL:=Lib.hid hpl
                  have HZM:=Lib.hid hz
                  have ht : IntKind.i64.wrap x = x:=by rw [IntWalk.i64_in _ (by omega)]
                  have ht2 : x.tmod (n : Int) = (z : Int):=by rw [Int.tmod_eq_emod_of_nonneg hxb.1,hz]
                  clear hZ hpl hz
                  obtain ⟨Aq,cq,rfl⟩:=Kd.R_slice HR.out
                  go_wp2_with (at_builtin;refine app_int (w0:=y1) (base:=y1.heap.size) (p:=(z : Int)) rfl rfl HR.out HBq.out HBq.out.size (by have:=HPL.out;omega) (fun _ _ => trivial) rfl (by simp [Act.eval]) ?_;intro v2 w2 A2;obtain ⟨A',c',rfl⟩:=A2.shape;have HR2:=Aside0.mk A2.row;have HB2:=Aside0.mk A2.below;clear A2)
                  go_roundw
                  case rel => exact ⟨k + 1,by omega,by go_num,by rw [HT.out,HZM.out];simpa using HR2,HB2⟩
                  case measure => simp [intOf];omega
                · have hke : l.take k = l:=List.take_of_length_le (by omega)
                  rw [hke] at HR
                  clear hke
                  obtain ⟨P,hP⟩ : ∃ P,P = modM n l:=⟨_,rfl⟩
                  rw [← hP] at HR
                  have HPI : Aside0 (∀ y ∈ P,0 ≤ y ∧ y < (nsym g : Int)):=⟨by rw [hP,HN.out];exact modM_in hn1 l⟩
                  obtain ⟨Ap,cp,evp,hcp,hCp⟩:=Kd.R_reads HR.out
                  subst evp
                  have HCP:=Aside0.mk hCp
                  have hPl : P.length ≤ 20:=by rw [hP,modM_len];omega
                  have HVP:=Aside0.mk (below_then HVI.out HVI.out.size HBq.out)
                  have KP:=Aside0.mk (blk_below KI.out HBq.out)
                  have HGP:=Aside0.mk (HGI.out.below_ HBq.out)
                  have HMP:=Aside0.mk (Kd.C_below HMI.out HBq.out)
                  clear hP hCp HR HBq HVI KI HGI HLI HMI
                  rename World => wp
                  go_wp2
                  go_loopw [17,15] (fun i vp wr => ∃ k : Nat,k ≤ m.length ∧ i = .int .i64 k ∧ Aside0 (kInt.R 3 wr wp.heap.size (fun _ => True) vp (modM n (m.take k))) ∧ Aside0 (Below wp.heap.size wp wr)) (fun i _ _ => m.length - (intOf i).toNat)
                  case atStart => exact ⟨0,Nat.zero_le _,rfl,⟨Kd.R_nil _ _ _ _ _⟩,⟨Below.refl _ _⟩⟩
                  case round =>
                    obtain ⟨k,hk,rfl,HR,HBq⟩:=hrel
                    by_cases hlt : k < m.length
                    · obtain ⟨ad,ead,hy⟩:=at_int (Kd.C_below HMP.out HBq.out) k hlt
                      cases ead
                      have i1 : (0 : Int) ≤ (k : Int):=by omega
                      have i2 : (k : Int) < (m.length : Int):=by omega
                      have hxb:=HMB.out (m[k]'hlt) (List.getElem_mem _)
                      have HT:=Lib.hid (modM_take (n:=n) hlt)
                      have hpl:=modM_len n (m.take k)
                      rw [List.length_take,Nat.min_eq_left hk] at hpl
                      obtain ⟨x,hx⟩ : ∃ x,x = m[k]'hlt:=⟨_,rfl⟩
                      rw [← hx] at hy hxb HT
                      clear hx
                      obtain ⟨z,hz⟩ : ∃ z : Nat,x % (n : Int) = z:=⟨(x % (n : Int)).toNat,by have:=Int.emod_nonneg x (show (n : Int) ≠ 0 by omega);omega⟩
                      obtain ⟨Z,hZ⟩ : ∃ Z,Z = modM n (m.take k):=⟨_,rfl⟩
                      rw [← hZ] at HR HT hpl
                      have HPL:=Lib.hid hpl
                      have HZM:=Lib.hid hz
                      have ht : IntKind.i64.wrap x = x:=by rw [IntWalk.i64_in _ (by omega)]
                      have ht2 : x.tmod (n : Int) = (z : Int):=by rw [Int.tmod_eq_emod_of_nonneg hxb.1,hz]
                      clear hZ hpl hz
                      obtain ⟨Aq,cq,rfl⟩:=Kd.R_slice HR.out
                      go_wp2_with (at_builtin;refine app_int (w0:=wp) (base:=wp.heap.size) (p:=(z : Int)) rfl rfl HR.out HBq.out HBq.out.size (by have:=HPL.out;omega) (fun _ _ => trivial) rfl (by simp [Act.eval]) ?_;intro v2 w2 A2;obtain ⟨A',c',rfl⟩:=A2.shape;have HR2:=Aside0.mk A2.row;have HB2:=Aside0.mk A2.below;clear A2)
                      go_roundw
                      case rel => exact ⟨k + 1,by omega,by go_num,by rw [HT.out,HZM.out];simpa using HR2,HB2⟩
                      case measure => simp [intOf];omega
                    · have hke : m.take k = m:=List.take_of_length_le (by omega)
                      rw [hke] at HR
                      clear hke
                      obtain ⟨Z,hZ⟩ : ∃ Z,Z = modM n m:=⟨_,rfl⟩
                      rw [← hZ] at HR
                      have HZI : Aside0 (∀ y ∈ Z,0 ≤ y ∧ y < (nsym g : Int)):=⟨by rw [hZ,HN.out];exact modM_in hn1 m⟩
                      obtain ⟨Aq,cq,evq,hcq,hCq⟩:=Kd.R_reads HR.out
                      subst evq
                      have CQ:=Aside0.mk hCq
                      have hZl : Z.length ≤ 20:=by rw [hZ,modM_len];omega
                      have HVQ:=Aside0.mk (below_then HVP.out HVP.out.size HBq.out)
                      have KQ:=Aside0.mk (blk_below KP.out HBq.out)
                      have HGQ:=Aside0.mk (HGP.out.below_ HBq.out)
                      have CP:=Aside0.mk (Kd.C_below HCP.out HBq.out)
                      clear hZ hCq HR HBq HVP KP HGP HMP HCP
                      rename World => W
                      have HOP : Aside0 (okF g P = true):=⟨by rw [okF,HGD.out,Bool.true_and,List.all_eq_true];exact fun y hy => by rw [inF,decide_eq_true_eq];exact HPI.out y hy⟩
                      have HOZ : Aside0 (okF g Z = true):=⟨by rw [okF,HGD.out,Bool.true_and,List.all_eq_true];exact fun y hy => by rw [inF,decide_eq_true_eq];exact HZI.out y hy⟩
                      have HPZI : Aside0 (∀ y ∈ P ++ Z,0 ≤ y ∧ y < (nsym g : Int)):=⟨fun y hy => by
                        rcases List.mem_append.1 hy with hy | hy
                        · exact HPI.out y hy
                        · exact HZI.out y hy⟩
                      have HOPZ : Aside0 (okF g (P ++ Z) = true):=⟨by rw [okF,HGD.out,Bool.true_and,List.all_eq_true];exact fun y hy => by rw [inF,decide_eq_true_eq];exact HPZI.out y hy⟩
                      have HBD : Aside0 (∀ Q : List Int,(∀ y ∈ Q,0 ≤ y ∧ y < (nsym g : Int)) → ∀ y ∈ Q,-9223372036854775808 ≤ y ∧ y ≤ 9223372036854775807):=⟨fun Q hQ y hy => by have:=hQ y hy;rw [HN.out] at this;omega⟩
                      have HMR : Aside0 (∀ Q : List Int,(∀ y ∈ Q,0 ≤ y ∧ y < (nsym g : Int)) → ∀ y ∈ membF (beginsF g Q),0 ≤ y ∧ y < (g.terms.length : Int)):=⟨fun Q hQ y hy => by have:=getB_in (mem_membF.1 hy);rwa [beginsF_len hQ] at this⟩
                      have HTW:=Aside0.mk (begins_two HPI.out HZI.out)
                      have HBL:=Aside0.mk (beginsF_len HPZI.out)
                      obtain ⟨MP,hMP⟩ : ∃ M,M = membF (beginsF g P):=⟨_,rfl⟩
                      obtain ⟨MZ,hMZ⟩ : ∃ M,M = membF (beginsF g Z):=⟨_,rfl⟩
                      obtain ⟨MQ,hMQ⟩ : ∃ M,M = membF (beginsF g (P ++ Z)):=⟨_,rfl⟩
                      have HMP:=Lib.hid hMP
                      have HMZ:=Lib.hid hMZ
                      have HMQ:=Lib.hid hMQ
                      rw [← hMP,← hMZ] at HTW
                      clear hMP hMZ hMQ
                      go_upto_region 31 with (fail)
                      refine pl_start ?_
                      refine pl_held (B:=W.heap.size) (v:=W) (Below.refl _ _) (fun hHeld => ?_)
                      refine pp_ ?_ ?_ ?_ (y:=by have d0:=(blk_cell (blk_below KQ.out hHeld) 0).trans rfl;have d1:=(blk_cell (blk_below KQ.out hHeld) 1).trans rfl;have d2:=(blk_cell (blk_below KQ.out hHeld) 2).trans rfl;go_simp;rfl)
                      refine pp_ ?_ ?_ ?_
                      refine goesCL_ (N:=(some 148)) Try.func28 (by kernel_rfl) rfl (by rfl) rfl rfl (ofF_c g A1 A2 A3 c1 c2 c3 Ap cp P _ (HGQ.out.below_ hHeld) (Kd.C_below CP.out hHeld) (HBD.out P HPI.out) HOP.out) (by simp [Act.eval]) ?_
                      rintro e x31_2 ⟨⟨FA,fa,rfl,hf⟩,hb31_2⟩
                      refine ⟨_,rfl,?_⟩
                      simp only [Act.put,List.setIfInBounds_toArray,List.set_cons_zero,List.set_cons_succ]
                      refine pl_held (B:=W.heap.size) (v:=W) (below_then hHeld hHeld.size hb31_2) (fun hHeld => ?_)
                      refine pp_ ?_ ?_ ?_
                      refine pp_ ?_ ?_ ?_
                      refine pp_ ?_ ?_ ?_
                      refine pp_ ?_ ?_ ?_
                      refine pp_ ?_ ?_ ?_
                      refine pl_nil ?_
                      simp only [if_true] at hf ⊢
                      rw [← HMP.out] at hf ⊢
                      have HFA:=Aside0.mk hf
                      have HX31:=Aside0.mk hHeld
                      clear hf hHeld hb31_2
                      go_upto_region 32 with (fail)
                      refine pl_start ?_
                      refine pl_held (B:=W.heap.size) (v:=W) (HX31.out) (fun hHeld => ?_)
                      refine pp_ ?_ ?_ ?_ (y:=by have d0:=(blk_cell (blk_below KQ.out hHeld) 0).trans rfl;have d1:=(blk_cell (blk_below KQ.out hHeld) 1).trans rfl;have d2:=(blk_cell (blk_below KQ.out hHeld) 2).trans rfl;go_simp;rfl)
                      refine pp_ ?_ ?_ ?_
                      refine goesCL_ (N:=(some 154)) Try.func28 (by kernel_rfl) rfl (by rfl) rfl rfl (ofF_c g A1 A2 A3 c1 c2 c3 Aq cq Z _ (HGQ.out.below_ hHeld) (Kd.C_below CQ.out hHeld) (HBD.out Z HZI.out) HOZ.out) (by simp [Act.eval]) ?_
                      rintro e x32_2 ⟨⟨FZ,fz,rfl,hf⟩,hb32_2⟩
                      refine ⟨_,rfl,?_⟩
                      simp only [Act.put,List.setIfInBounds_toArray,List.set_cons_zero,List.set_cons_succ]
                      refine pl_held (B:=W.heap.size) (v:=W) (below_then hHeld hHeld.size hb32_2) (fun hHeld => ?_)
                      refine pp_ ?_ ?_ ?_
                      refine pp_ ?_ ?_ ?_
                      refine pp_ ?_ ?_ ?_
                      refine pp_ ?_ ?_ ?_
                      refine pp_ ?_ ?_ ?_
                      refine pl_nil ?_
                      simp only [if_true] at hf ⊢
                      rw [← HMZ.out] at hf ⊢
                      have HFZ:=Aside0.mk hf
                      have HFA2:=Aside0.mk (Kd.R_below HFA.out hb32_2)
                      have HX32:=Aside0.mk hHeld
                      have K32:=Aside0.mk (blk_below KQ.out hHeld)
                      have HG32:=Aside0.mk (HGQ.out.below_ hHeld)
                      have CP32:=Aside0.mk (Kd.C_below CP.out hHeld)
                      have CQ32:=Aside0.mk (Kd.C_below CQ.out hHeld)
                      clear hf hHeld hb32_2 HFA
                      rename World => W2
                      go_upto_region 33 with (fail)
                      refine start_ (n:=12) (S:=fun w' => Below W2.heap.size W2 w') (ds:=[]) (lb 12 0x0) (by kernel_rfl) rfl (by kernel_rfl) (below_drew1 (Below.refl _ _)) (fun hHeld => ?_)
                      refine pu_ ?_ ?_ 2 (some 160) (lb 12 0x4) ?_
                      refine pu_ ?_ ?_ 4 (some 162) (lb 12 0x14) ?_
                      refine ta_ ?_ ?_ 0 (some 158) (lb 12 0x15) hHeld ?_ (y:=by rintro w' hS;have d0:=(blk_cell (blk_below K32.out hS) 0).trans rfl;have d1:=(blk_cell (blk_below K32.out hS) 1).trans rfl;have d2:=(blk_cell (blk_below K32.out hS) 2).trans rfl;go_simp;with_reducible rfl)
                      refine on_ 1 (some 159) (lb 12 0x17) (fun K hK => ?_)
                      refine va_ ?_ ?_ ?_
                      have hW:=hHeld
                      refine hK.out _ _ (hHeld.alloc hHeld.size _) (fun hHeld => ?_)
                      clear hK K
                      refine nm_ ?_ (some 159) ?_
                      refine on_ 3 (some 161) (lb 12 0x1f) (fun K hK => ?_)
                      refine app_ints_step (base:=W2.heap.size) (w0:=W2) (ok:=fun _ => True) (xs:=[]) (ys:=P) (by rfl) rfl (ints_new _ _ hW.size _ trivial) hHeld hHeld.size (by simp;omega) (fun _ _ => trivial) (by rfl) (by rfl) (Kd.C_below CP32.out hHeld) ?_;intro v1 w1 hr hb1 hg hat;rw [List.nil_append] at hr;obtain ⟨A7,c7,rfl⟩:=Kd.R_slice hr;have HR7:=Aside0.mk hr;clear hr hg hat;refine hK.out _ _ hb1 (fun hHeld => ?_)
                      clear hK K
                      refine nm_ ?_ (some 161) ?_
                      refine on_ 5 (some 163) (lb 12 0x3f) (fun K hK => ?_)
                      refine app_ints_step (base:=W2.heap.size) (w0:=W2) (ok:=fun _ => True) (xs:=P) (ys:=Z) (by rfl) rfl HR7.out hHeld hHeld.size (by omega) (fun _ _ => trivial) (by rfl) (by rfl) (Kd.C_below CQ32.out hHeld) ?_;intro v1 w1 hr hb1 hg hat;obtain ⟨A9,c9,e9,hc9,hC9⟩:=Kd.R_reads hr;subst e9;have HC9:=Aside0.mk hC9;clear hr hg hat hC9;refine hK.out _ _ hb1 (fun hHeld => ?_)
                      clear hK K
                      refine nm_ ?_ (some 163) ?_
                      refine on_ 6 (some 164) (lb 12 0x7f) (fun K hK => ?_)
                      (refine goesC_ Try.func28 (by kernel_rfl) rfl (by rfl) rfl rfl (ofF_c g A1 A2 A3 c1 c2 c3 A9 c9 (P ++ Z) _ (HG32.out.below_ hHeld) HC9.out (HBD.out (P ++ Z) HPZI.out) HOPZ.out) (by simp [Act.eval]) ?_;rintro e w9 ⟨⟨FQ,fq,rfl,hf⟩,hb9⟩;refine ⟨_,rfl,?_⟩;have HQ9:=Aside0.mk (below_then hHeld hHeld.size hb9);have HFQ:=Aside0.mk hf;clear hf;clear hb9;refine hK.out _ _ HQ9.out (fun hHeld => ?_))
                      clear hK K
                      refine nm_ ?_ (some 164) ?_
                      refine pu_ ?_ ?_ 7 (some 157) (lb 12 0xff) ?_
                      refine pu_ ?_ ?_ 8 (some 165) (lb 12 0x1ff) ?_
                      refine pu_ ?_ ?_ 9 (some 166) (lb 12 0x3ff) ?_
                      refine pu_ ?_ ?_ 10 (some 22) (lb 12 0x7ff) ?_
                      refine pu_ ?_ ?_ 11 (some 23) (lb 12 0xfff) ?_
                      refine done_ (by kernel_rfl) ?_
                      simp only [if_true] at HFQ ⊢
                      rw [← HMQ.out] at HFQ ⊢
                      have HFA3:=Aside0.mk (Kd.R_below HFA2.out hHeld)
                      have HFZ3:=Aside0.mk (Kd.R_below HFZ.out hHeld)
                      have K33:=Aside0.mk (blk_below K32.out hHeld)
                      have HG33:=Aside0.mk (HG32.out.below_ hHeld)
                      have CP33:=Aside0.mk (Kd.C_below CP32.out hHeld)
                      have HV33:=Aside0.mk (below_then HVQ.out HVQ.out.size (below_then HX32.out HX32.out.size hHeld))
                      clear hHeld HFA2 HFZ K32 HG32 CP32 CQ32 HC9 HR7
                      rename World => W3
                      obtain ⟨pa,hpa⟩ : ∃ pa,allF (nullF g) P = pa:=⟨_,rfl⟩
                      have HPB : Aside0 (allB g P = pa):=⟨by rw [allB,HGD.out,hpa];rfl⟩
                      rw [hpa] at HTW
                      clear hpa
                      have a0:=(blk_cell K33.out 0).trans rfl
                      obtain ⟨q,hq⟩ : ∃ q,q = W3.heap.size:=⟨_,rfl⟩
                      obtain ⟨W4,hW4⟩ : ∃ W4,W4 = W3.alloc (.cells (madeCells #[.bool false] g.terms.length) 4):=⟨_,rfl⟩
                      have HZB : Aside0 (BB W4 q (List.replicate g.terms.length false)):=⟨by rw [hW4,hq];exact BB.new _ _⟩
                      have HB4 : Aside0 (Below W3.heap.size W3 W4):=⟨by rw [hW4];exact below_alloc (Below.refl _ _) _⟩
                      have HQ : Aside0 (q = W3.heap.size):=⟨hq⟩
                      go_upto_region 35 with (fail)
                      simp only [← hW4,← hq]
                      clear hW4 hq a0
                      cases pa
                      · simp only [Bool.false_eq_true,if_false] at HTW
                        go_upto_region 37 with (first | (have hx:=HBO.out;go_at_call 36;go_loud (refine (allP_c g A1 A2 A3 c1 c2 c3 Ap cp P _ (HG33.out.below_ HB5.out) (Kd.C_below CP33.out HB5.out) HPB.out).mono ?_;rintro e w6 ⟨rfl,hb6⟩;have HBO6:=Aside0.mk (HBO.out.below hb6);have HB6:=Aside0.mk (below_then HB5.out HB5.out.size hb6);clear hb6)) | (go_at_call 34;go_loud (refine (mark_c q g.terms.length (List.replicate g.terms.length false) FA fa MP.length MP _ HZB.out (by simp) (by omega) (fun w' hu => (Kd.R_reads' (R_upd (Kd.R_below HFA3.out HB4.out) (by decide) HZB.out hu)).2.2) (by rw [HMP.out];exact HMR.out P HPI.out)).mono ?_;rintro e w5 ⟨rfl,hbo,hu⟩;have HBO:=Aside0.mk hbo;have HB5:=Aside0.mk (hu.low HB4.out (by rw [HQ.out];exact Nat.le_refl _));clear hbo hu;have d0:=(blk_cell (blk_below K33.out HB5.out) 0).trans rfl;have d1:=(blk_cell (blk_below K33.out HB5.out) 1).trans rfl;have d2:=(blk_cell (blk_below K33.out HB5.out) 2).trans rfl)))
                        have HR6 : Aside0 (BB w6 q (beginsF g (P ++ Z))):=⟨by rw [← HTW.out];exact HBO6.out⟩
                        have HFQ6:=Aside0.mk (Kd.R_reads' (Kd.R_below HFQ.out HB6.out)).2.2
                        refine pl_start ?_
                        refine pl_held (B:=W3.heap.size) (v:=W3) (HB6.out) (fun hHeld => ?_)
                        refine pp_ ?_ ?_ ?_
                        refine pp_ ?_ ?_ ?_
                        refine goesCL_ (N:=(some 200)) Try.func35 (by kernel_rfl) rfl (by rfl) rfl rfl (same_c (some ⟨q,0,none⟩) FQ g.terms.length g.terms.length fq MQ.length (beginsF g (P ++ Z)) MQ _ (HR6.out.C' HBL.out (by omega)) HFQ6.out (v:=true) (decide_eq_true HMQ.out.symm)) (by simp [Act.eval]) ?_
                        rintro e x37_2 ⟨rfl,hb37_2⟩
                        refine ⟨_,rfl,?_⟩
                        simp only [Act.put,List.setIfInBounds_toArray,List.set_cons_zero,List.set_cons_succ]
                        refine pl_held (B:=W3.heap.size) (v:=W3) (below_then hHeld hHeld.size hb37_2) (fun hHeld => ?_)
                        refine pp_ ?_ ?_ ?_
                        refine goesCL_ (N:=(some 202)) Try.func27 (by kernel_rfl) rfl (by rfl) rfl rfl (wakes08_c _) (by simp [Act.eval]) ?_
                        rintro e x37_4 ⟨rfl,hb37_4⟩
                        refine ⟨_,rfl,?_⟩
                        simp only [Act.put,List.setIfInBounds_toArray,List.set_cons_zero,List.set_cons_succ]
                        refine pl_held (B:=W3.heap.size) (v:=W3) (below_then hHeld hHeld.size hb37_4) (fun hHeld => ?_)
                        refine pp_ ?_ ?_ ?_
                        refine pp_ ?_ ?_ ?_
                        refine pl_nil ?_
                        go_wp2
                        go_ret
                        exact ⟨ret_bool rfl,below_then HV33.out HV33.out.size hHeld⟩
                      · simp only [if_true] at HTW
                        go_upto_region 37 with (first | (have hx:=HBO6.out;go_at_call 34;go_loud (refine (mark_c q g.terms.length (setAll (List.replicate g.terms.length false) MP) FZ fz MZ.length MZ _ HBO6.out (by rw [setAll_len];simp) (by omega) (fun w' hu => (Kd.R_reads' (R_upd (Kd.R_below HFZ3.out HB6.out) (by decide) HBO6.out hu)).2.2) (by rw [HMZ.out];exact HMR.out Z HZI.out)).mono ?_;rintro e w7 ⟨rfl,hbo,hu⟩;have HBO7:=Aside0.mk hbo;have HB7:=Aside0.mk (hu.low HB6.out (by rw [HQ.out];exact Nat.le_refl _));clear hbo hu)) | (have hx:=HBO.out;go_at_call 36;go_loud (refine (allP_c g A1 A2 A3 c1 c2 c3 Ap cp P _ (HG33.out.below_ HB5.out) (Kd.C_below CP33.out HB5.out) HPB.out).mono ?_;rintro e w6 ⟨rfl,hb6⟩;have HBO6:=Aside0.mk (HBO.out.below hb6);have HB6:=Aside0.mk (below_then HB5.out HB5.out.size hb6);clear hb6)) | (go_at_call 34;go_loud (refine (mark_c q g.terms.length (List.replicate g.terms.length false) FA fa MP.length MP _ HZB.out (by simp) (by omega) (fun w' hu => (Kd.R_reads' (R_upd (Kd.R_below HFA3.out HB4.out) (by decide) HZB.out hu)).2.2) (by rw [HMP.out];exact HMR.out P HPI.out)).mono ?_;rintro e w5 ⟨rfl,hbo,hu⟩;have HBO:=Aside0.mk hbo;have HB5:=Aside0.mk (hu.low HB4.out (by rw [HQ.out];exact Nat.le_refl _));clear hbo hu;have d0:=(blk_cell (blk_below K33.out HB5.out) 0).trans rfl;have d1:=(blk_cell (blk_below K33.out HB5.out) 1).trans rfl;have d2:=(blk_cell (blk_below K33.out HB5.out) 2).trans rfl)))
                        have HR7 : Aside0 (BB w7 q (beginsF g (P ++ Z))):=⟨by rw [← HTW.out];exact HBO7.out⟩
                        have HFQ7:=Aside0.mk (Kd.R_reads' (Kd.R_below HFQ.out HB7.out)).2.2
                        refine pl_start ?_
                        refine pl_held (B:=W3.heap.size) (v:=W3) (HB7.out) (fun hHeld => ?_)
                        refine pp_ ?_ ?_ ?_
                        refine pp_ ?_ ?_ ?_
                        refine goesCL_ (N:=(some 200)) Try.func35 (by kernel_rfl) rfl (by rfl) rfl rfl (same_c (some ⟨q,0,none⟩) FQ g.terms.length g.terms.length fq MQ.length (beginsF g (P ++ Z)) MQ _ (HR7.out.C' HBL.out (by omega)) HFQ7.out (v:=true) (decide_eq_true HMQ.out.symm)) (by simp [Act.eval]) ?_
                        rintro e x37_2 ⟨rfl,hb37_2⟩
                        refine ⟨_,rfl,?_⟩
                        simp only [Act.put,List.setIfInBounds_toArray,List.set_cons_zero,List.set_cons_succ]
                        refine pl_held (B:=W3.heap.size) (v:=W3) (below_then hHeld hHeld.size hb37_2) (fun hHeld => ?_)
                        refine pp_ ?_ ?_ ?_
                        refine goesCL_ (N:=(some 202)) Try.func27 (by kernel_rfl) rfl (by rfl) rfl rfl (wakes08_c _) (by simp [Act.eval]) ?_
                        rintro e x37_4 ⟨rfl,hb37_4⟩
                        refine ⟨_,rfl,?_⟩
                        simp only [Act.put,List.setIfInBounds_toArray,List.set_cons_zero,List.set_cons_succ]
                        refine pl_held (B:=W3.heap.size) (v:=W3) (below_then hHeld hHeld.size hb37_4) (fun hHeld => ?_)
                        refine pp_ ?_ ?_ ?_
                        refine pp_ ?_ ?_ ?_
                        refine pl_nil ?_
                        go_wp2
                        go_ret
                        exact ⟨ret_bool rfl,below_then HV33.out HV33.out.size hHeld⟩
  · refine pp_ ?_ ?_ ?_
    refine pf_ ?_ ?_
    refine pf_ ?_ ?_
    refine pf_ ?_ ?_
    refine pp_ ?_ ?_ ?_
    refine pp_ ?_ ?_ ?_
    refine pf_ ?_ ?_
    refine pf_ ?_ ?_
    refine pf_ ?_ ?_
    refine pp_ ?_ ?_ ?_
    refine pp_ ?_ ?_ ?_
    refine pf_ ?_ ?_
    refine pf_ ?_ ?_
    refine pf_ ?_ ?_
    refine pp_ ?_ ?_ ?_
    refine pl_nil ?_
    go_upto_region 2 with (fail)
    refine pl_start ?_
    refine pl_held (B:=v0.heap.size) (v:=v0) (HX1.out) (fun hHeld => ?_)
    refine goesCL_ (N:=(some 42)) Try.func27 (by kernel_rfl) rfl (by rfl) rfl rfl (wakes08_c _) (by simp [Act.eval]) ?_
    rintro e x2_0 ⟨rfl,hb2_0⟩
    refine ⟨_,rfl,?_⟩
    simp only [Act.put,List.setIfInBounds_toArray,List.set_cons_zero,List.set_cons_succ]
    refine pl_held (B:=v0.heap.size) (v:=v0) (below_then hHeld hHeld.size hb2_0) (fun hHeld => ?_)
    refine pp_ ?_ ?_ ?_
    refine pl_nil ?_
    go_wp2
    go_ret
    exact ⟨ret_bool rfl,below_then HB0.out HB0.out.size hHeld⟩
end Go.Proofs.Ytdpdbgaoaibafaa
