/- The law FirstMore,walked: it answers true. -/
import Derived.Test.YtdpdbgaoaibafaaL0j
set_option linter.unusedVariables false
set_option linter.unusedSimpArgs false
namespace Go.Proofs.Ytdpdbgaoaibafaa
open Go.RowKit Go.Proofs.YtdpdbgaoaibafaaW.PrintWords Go.Proofs.YtdpdbgaoaibafaaW.PrintLast

set_option maxRecDepth 100000 in
set_option maxHeartbeats 16000000 in
theorem firstMore_c (g : Gram) (A1 A2 A3 : Option Addr) (c1 c2 c3 : Nat) (lft : Int) (L : Option Addr) (cl : Nat) (l : List Int) (w : World) (hg : RepG w g A1 A2 A3 c1 c2 c3) (hz : Sized g) (hlf : 0 ≤ lft ∧ lft ≤ 255) (hl : kU8m.C w L l.length l) (hlb : ∀ x ∈ l,0 ≤ x ∧ x ≤ 255) :
    Calls Try.prog 8 #[.agg #[.slice A1 g.terms.length c1,.slice A2 g.names.length c2,.slice A3 g.rules.length c3],.int .u8 lft,.slice L l.length cl] w fun e w' => e = .returned (.bool true) ∧ Below w.heap.size w w':=by
  obtain ⟨v0,hv0⟩ : ∃ v0 : World,v0 = w.alloc (.cells #[.slice A1 g.terms.length c1,.slice A2 g.names.length c2,.slice A3 g.rules.length c3] 25 (0,0)):=⟨_,rfl⟩
  have HB0 : Aside0 (Below w.heap.size w v0):=⟨by rw [hv0];exact (Below.refl w.heap.size w).alloc (Nat.le_refl _) _⟩
  have HP0 : Aside0 (v0.heap[w.heap.size]? = some (.cells #[.slice A1 g.terms.length c1,.slice A2 g.names.length c2,.slice A3 g.rules.length c3] 25 (0,0))):=⟨by rw [hv0];exact blk_new w _⟩
  have HG0:=Aside0.mk (hg.below_ HB0.out)
  have HL0:=Aside0.mk (Kd.C_below hl HB0.out)
  have HLB:=Aside0.mk hlb
  have HZ:=Aside0.mk hz
  have hlm:=C_max hl
  have hrm:=C_max hg.rules
  clear hg hz hl hlb
  go_enter Try.func8,Try.ntmps8
  go_upto_region 1 with (fail)
  simp only [← hv0]
  clear hv0
  refine pl_start ?_
  refine pl_held (B:=v0.heap.size) (v:=v0) (Below.refl _ _) (fun hHeld => ?_)
  refine pp_ ?_ ?_ ?_ (y:=by have d0:=(blk_cell (blk_below HP0.out hHeld) 0).trans rfl;have d1:=(blk_cell (blk_below HP0.out hHeld) 1).trans rfl;have d2:=(blk_cell (blk_below HP0.out hHeld) 2).trans rfl;go_simp;rfl)
  refine goesCL_ (N:=(some 17)) Try.func15 (by kernel_rfl) rfl (by rfl) rfl rfl (large_c g A1 A2 A3 c1 c2 c3 _ (HG0.out.below_ hHeld)) (by simp [Act.eval]) ?_
  rintro e x1_1 ⟨⟨lb,rfl,hs⟩,hb1_1⟩
  refine ⟨_,rfl,?_⟩
  simp only [Act.put,List.setIfInBounds_toArray,List.set_cons_zero,List.set_cons_succ]
  have HS:=Aside0.mk hs
  clear hs
  refine pl_held (B:=v0.heap.size) (v:=v0) (below_then hHeld hHeld.size hb1_1) (fun hHeld => ?_)
  have HX1:=Aside0.mk hHeld
  cases lb
  · have HS1:=Aside0.mk (HS.out rfl)
    cases hgd : goodF g
    · refine pp_ ?_ ?_ ?_
      refine pp_ ?_ ?_ ?_ (y:=by have d0:=(blk_cell (blk_below HP0.out hHeld) 0).trans rfl;have d1:=(blk_cell (blk_below HP0.out hHeld) 1).trans rfl;have d2:=(blk_cell (blk_below HP0.out hHeld) 2).trans rfl;go_simp;rfl)
      refine goesCL_ (N:=(some 20)) Try.func24 (by kernel_rfl) rfl (by rfl) rfl rfl (good1_v g A1 A2 A3 c1 c2 c3 _ (HG0.out.below_ hHeld) HZ.out hgd) (by simp [Act.eval]) ?_
      rintro e x1_4 ⟨rfl,hb1_4⟩
      refine ⟨_,rfl,?_⟩
      simp only [Act.put,List.setIfInBounds_toArray,List.set_cons_zero,List.set_cons_succ]
      refine pl_held (B:=v0.heap.size) (v:=v0) (below_then hHeld hHeld.size hb1_4) (fun hHeld => ?_)
      refine pp_ ?_ ?_ ?_
      refine pp_ ?_ ?_ ?_
      refine pp_ ?_ ?_ ?_
      refine pf_ ?_ ?_
      refine pf_ ?_ ?_
      refine pf_ ?_ ?_
      refine pp_ ?_ ?_ ?_
      refine pp_ ?_ ?_ ?_
      refine pf_ ?_ ?_
      refine pf_ ?_ ?_
      refine pf_ ?_ ?_
      refine pf_ ?_ ?_
      refine pp_ ?_ ?_ ?_
      refine pl_nil ?_
      go_upto_region 2 with (fail)
      refine pl_start ?_
      refine pl_held (B:=v0.heap.size) (v:=v0) (below_then HX1.out HX1.out.size hb1_4) (fun hHeld => ?_)
      refine goesCL_ (N:=(some 34)) Try.func27 (by kernel_rfl) rfl (by rfl) rfl rfl (wakes08_c _) (by simp [Act.eval]) ?_
      rintro e x2_0 ⟨rfl,hb2_0⟩
      refine ⟨_,rfl,?_⟩
      simp only [Act.put,List.setIfInBounds_toArray,List.set_cons_zero,List.set_cons_succ]
      refine pl_held (B:=v0.heap.size) (v:=v0) (below_then hHeld hHeld.size hb2_0) (fun hHeld => ?_)
      refine pp_ ?_ ?_ ?_
      refine pl_nil ?_
      go_wp2
      go_ret
      exact ⟨ret_bool rfl,below_then HB0.out HB0.out.size hHeld⟩
    · by_cases hl8 : 8 < l.length
      · have d1 : decide ((8 : Int) < (l.length : Int)) = true:=by simp;omega
        refine pp_ ?_ ?_ ?_
        refine pp_ ?_ ?_ ?_ (y:=by have d0:=(blk_cell (blk_below HP0.out hHeld) 0).trans rfl;have d1:=(blk_cell (blk_below HP0.out hHeld) 1).trans rfl;have d2:=(blk_cell (blk_below HP0.out hHeld) 2).trans rfl;go_simp;rfl)
        refine goesCL_ (N:=(some 20)) Try.func24 (by kernel_rfl) rfl (by rfl) rfl rfl (good1_v g A1 A2 A3 c1 c2 c3 _ (HG0.out.below_ hHeld) HZ.out hgd) (by simp [Act.eval]) ?_
        rintro e x1_4 ⟨rfl,hb1_4⟩
        refine ⟨_,rfl,?_⟩
        simp only [Act.put,List.setIfInBounds_toArray,List.set_cons_zero,List.set_cons_succ]
        refine pl_held (B:=v0.heap.size) (v:=v0) (below_then hHeld hHeld.size hb1_4) (fun hHeld => ?_)
        refine pp_ ?_ ?_ ?_
        refine pp_ ?_ ?_ ?_
        refine pp_ ?_ ?_ ?_
        refine pp_ ?_ ?_ ?_
        refine pp_ ?_ ?_ ?_
        refine pp_ ?_ ?_ ?_
        refine pp_ ?_ ?_ ?_
        refine pp_ ?_ ?_ ?_
        refine pf_ ?_ ?_
        refine pf_ ?_ ?_
        refine pf_ ?_ ?_
        refine pf_ ?_ ?_
        refine pp_ ?_ ?_ ?_
        refine pl_nil ?_
        go_upto_region 2 with (fail)
        refine pl_start ?_
        refine pl_held (B:=v0.heap.size) (v:=v0) (below_then HX1.out HX1.out.size hb1_4) (fun hHeld => ?_)
        refine goesCL_ (N:=(some 34)) Try.func27 (by kernel_rfl) rfl (by rfl) rfl rfl (wakes08_c _) (by simp [Act.eval]) ?_
        rintro e x2_0 ⟨rfl,hb2_0⟩
        refine ⟨_,rfl,?_⟩
        simp only [Act.put,List.setIfInBounds_toArray,List.set_cons_zero,List.set_cons_succ]
        refine pl_held (B:=v0.heap.size) (v:=v0) (below_then hHeld hHeld.size hb2_0) (fun hHeld => ?_)
        refine pp_ ?_ ?_ ?_
        refine pl_nil ?_
        go_wp2
        go_ret
        exact ⟨ret_bool rfl,below_then HB0.out HB0.out.size hHeld⟩
      · have d1 : decide ((8 : Int) < (l.length : Int)) = false:=by simp;omega
        by_cases hr60 : 60 ≤ g.rules.length
        · have d2 : decide ((60 : Int) ≤ (g.rules.length : Int)) = true:=by simp;omega
          refine pp_ ?_ ?_ ?_
          refine pp_ ?_ ?_ ?_ (y:=by have d0:=(blk_cell (blk_below HP0.out hHeld) 0).trans rfl;have d1:=(blk_cell (blk_below HP0.out hHeld) 1).trans rfl;have d2:=(blk_cell (blk_below HP0.out hHeld) 2).trans rfl;go_simp;rfl)
          refine goesCL_ (N:=(some 20)) Try.func24 (by kernel_rfl) rfl (by rfl) rfl rfl (good1_v g A1 A2 A3 c1 c2 c3 _ (HG0.out.below_ hHeld) HZ.out hgd) (by simp [Act.eval]) ?_
          rintro e x1_4 ⟨rfl,hb1_4⟩
          refine ⟨_,rfl,?_⟩
          simp only [Act.put,List.setIfInBounds_toArray,List.set_cons_zero,List.set_cons_succ]
          refine pl_held (B:=v0.heap.size) (v:=v0) (below_then hHeld hHeld.size hb1_4) (fun hHeld => ?_)
          refine pp_ ?_ ?_ ?_
          refine pp_ ?_ ?_ ?_
          refine pp_ ?_ ?_ ?_
          refine pp_ ?_ ?_ ?_
          refine pp_ ?_ ?_ ?_
          refine pp_ ?_ ?_ ?_
          refine pp_ ?_ ?_ ?_
          refine pp_ ?_ ?_ ?_
          refine pp_ ?_ ?_ ?_
          refine pp_ ?_ ?_ ?_ (y:=by have d0:=(blk_cell (blk_below HP0.out hHeld) 0).trans rfl;have d1:=(blk_cell (blk_below HP0.out hHeld) 1).trans rfl;have d2:=(blk_cell (blk_below HP0.out hHeld) 2).trans rfl;go_simp;rfl)
          refine pp_ ?_ ?_ ?_
          refine pp_ ?_ ?_ ?_
          refine pp_ ?_ ?_ ?_
          refine pl_nil ?_
          go_upto_region 2 with (fail)
          refine pl_start ?_
          refine pl_held (B:=v0.heap.size) (v:=v0) (below_then HX1.out HX1.out.size hb1_4) (fun hHeld => ?_)
          refine goesCL_ (N:=(some 34)) Try.func27 (by kernel_rfl) rfl (by rfl) rfl rfl (wakes08_c _) (by simp [Act.eval]) ?_
          rintro e x2_0 ⟨rfl,hb2_0⟩
          refine ⟨_,rfl,?_⟩
          simp only [Act.put,List.setIfInBounds_toArray,List.set_cons_zero,List.set_cons_succ]
          refine pl_held (B:=v0.heap.size) (v:=v0) (below_then hHeld hHeld.size hb2_0) (fun hHeld => ?_)
          refine pp_ ?_ ?_ ?_
          refine pl_nil ?_
          go_wp2
          go_ret
          exact ⟨ret_bool rfl,below_then HB0.out HB0.out.size hHeld⟩
        · have d2 : decide ((60 : Int) ≤ (g.rules.length : Int)) = false:=by simp;omega
          refine pp_ ?_ ?_ ?_
          refine pp_ ?_ ?_ ?_ (y:=by have d0:=(blk_cell (blk_below HP0.out hHeld) 0).trans rfl;have d1:=(blk_cell (blk_below HP0.out hHeld) 1).trans rfl;have d2:=(blk_cell (blk_below HP0.out hHeld) 2).trans rfl;go_simp;rfl)
          refine goesCL_ (N:=(some 20)) Try.func24 (by kernel_rfl) rfl (by rfl) rfl rfl (good1_v g A1 A2 A3 c1 c2 c3 _ (HG0.out.below_ hHeld) HZ.out hgd) (by simp [Act.eval]) ?_
          rintro e x1_4 ⟨rfl,hb1_4⟩
          refine ⟨_,rfl,?_⟩
          simp only [Act.put,List.setIfInBounds_toArray,List.set_cons_zero,List.set_cons_succ]
          refine pl_held (B:=v0.heap.size) (v:=v0) (below_then hHeld hHeld.size hb1_4) (fun hHeld => ?_)
          refine pp_ ?_ ?_ ?_
          refine pp_ ?_ ?_ ?_
          refine pp_ ?_ ?_ ?_
          refine pp_ ?_ ?_ ?_
          refine pp_ ?_ ?_ ?_
          refine pp_ ?_ ?_ ?_
          refine pp_ ?_ ?_ ?_
          refine pp_ ?_ ?_ ?_
          refine pp_ ?_ ?_ ?_
          refine pp_ ?_ ?_ ?_ (y:=by have d0:=(blk_cell (blk_below HP0.out hHeld) 0).trans rfl;have d1:=(blk_cell (blk_below HP0.out hHeld) 1).trans rfl;have d2:=(blk_cell (blk_below HP0.out hHeld) 2).trans rfl;go_simp;rfl)
          refine pp_ ?_ ?_ ?_
          refine pp_ ?_ ?_ ?_
          refine pp_ ?_ ?_ ?_
          refine pl_nil ?_
          clear d1 d2
          obtain ⟨q1,q2,q3,q4⟩:=goodF_small hgd
          have HX4:=Aside0.mk (below_then HX1.out HX1.out.size hb1_4)
          obtain ⟨n,hn⟩ : ∃ n,nsym g = n:=⟨_,rfl⟩
          have hn80 : n ≤ 80:=by rw [← hn];unfold nsym;omega
          have hn1 : 1 ≤ n:=by rw [← hn];unfold nsym;omega
          have hnT : g.terms.length < n:=by rw [← hn];unfold nsym;omega
          have e1 : IntKind.i64.wrap ((g.terms.length : Int) + (g.names.length : Int)) = (n : Int):=by rw [IntWalk.i64_in _ (by omega),← hn];unfold nsym;omega
          have HN:=Lib.hid hn
          have HGD:=Lib.hid hgd
          clear hn hgd hHeld hb1_1 hb1_4
          have HV5:=Aside0.mk (below_then HB0.out HB0.out.size HX4.out)
          have K6:=Aside0.mk (blk_below HP0.out HX4.out)
          have HG6:=Aside0.mk (HG0.out.below_ HX4.out)
          have HL5:=Aside0.mk (Kd.C_below HL0.out HX4.out)
          have HB:=Aside0.mk (Below.refl x1_4.heap.size x1_4)
          have a1:=(blk_cell K6.out 0).trans rfl
          have a2:=(blk_cell K6.out 1).trans rfl
          clear HX1 HX4 HP0 HG0 HL0 HB0
          rename World => wo
          go_upto_region 4 with (fail)
          clear e1 a1
          refine pl_start ?_
          refine pl_held (B:=wo.heap.size) (v:=wo) (Below.refl _ _) (fun hHeld => ?_)
          refine pp_ ?_ ?_ ?_ (y:=by have d0:=(blk_cell (blk_below K6.out hHeld) 0).trans rfl;have d1:=(blk_cell (blk_below K6.out hHeld) 1).trans rfl;have d2:=(blk_cell (blk_below K6.out hHeld) 2).trans rfl;go_simp;rfl)
          refine goesCL_ (N:=(some 43)) Try.func17 (by kernel_rfl) rfl (by rfl) rfl rfl (own_c g A1 A2 A3 c1 c2 c3 _ (HG6.out.below_ hHeld) HS1.out.own) (by simp [Act.eval]) ?_
          rintro e x4_1 ⟨⟨B1,B2,B3,e1,e2,e3,rfl,ho⟩,hb4_1⟩
          refine ⟨_,rfl,?_⟩
          simp only [Act.put,List.setIfInBounds_toArray,List.set_cons_zero,List.set_cons_succ]
          refine pl_held (B:=wo.heap.size) (v:=wo) (below_then hHeld hHeld.size hb4_1) (fun hHeld => ?_)
          refine pl_value (N:=(some 8)) (v:=?v107) (w1:=?w107) (by rfl) rfl ?h107 ?_
          case h107 => (go_simp;first | rfl | (constructor;rfl;rfl))
          simp only [Act.put,List.setIfInBounds_toArray,List.set_cons_zero,List.set_cons_succ]
          refine pl_skip (w1:=?w108) (by rfl) rfl ?h108 ?_
          case h108 => (go_simp;rfl)
          refine pl_world ?_
          intro x4_3 hb4_3 hx4_3 hs4_3 hq4_3
          refine pl_held (B:=wo.heap.size) (v:=wo) (below_then hHeld hHeld.size hb4_3) (fun hHeld => ?_)
          refine pl_nil ?_
          have HO:=Aside0.mk ho
          have HW:=Aside0.mk hHeld
          have HQ:=Aside0.mk hx4_3
          have HX13:=Aside0.mk hb4_3
          have hqw : wo.heap.size ≤ x4_1.heap.size:=hb4_1.size
          have hq3 : x4_3.heap.size = x4_1.heap.size + 1:=hs4_3
          have HQ3:=Lib.hid hq3
          have HQW:=Aside0.mk hqw
          have K7:=Aside0.mk (blk_below K6.out hHeld)
          have HL7:=Aside0.mk (Kd.C_below (Kd.C_below HL5.out HB.out) hHeld)
          clear ho hHeld hx4_3 hb4_3 hb4_1 hs4_3 hq4_3 hq3 hqw a2
          obtain ⟨ln,rfl⟩:=Int.eq_ofNat_of_zero_le hlf.1
          obtain ⟨zl,hzl⟩ : ∃ zl : Nat,(ln : Int).tmod (g.names.length : Int) = (zl : Int):=⟨ln % g.names.length,by rw [Int.tmod_eq_emod_of_nonneg (by omega)];simp⟩
          have hzb : zl < g.names.length:=by
            rw [Int.tmod_eq_emod_of_nonneg (by omega)] at hzl
            have:=Int.emod_lt_of_pos (ln : Int) (show (0 : Int) < g.names.length by omega)
            omega
          have he0 : IntKind.i64.wrap (ln : Int) = (ln : Int):=by rw [IntWalk.i64_in _ (by omega)]
          obtain ⟨lx,hlx⟩ : ∃ lx : Nat,lx = g.terms.length + zl:=⟨_,rfl⟩
          have he1 : IntKind.i64.wrap ((g.terms.length : Int) + (zl : Int)) = (lx : Int):=by rw [IntWalk.i64_in _ (by omega),hlx];omega
          have hn0 : ¬ g.names = []:=by intro h;rw [h] at q2;simp at q2
          have HLX:=Lib.hid hlx
          clear hlx
          go_upto_region 5 with (fail)
          refine start_ (n:=13) (S:=fun w' => Below x4_3.heap.size x4_3 w') (ds:=[12]) (lb 13 0x0) (by kernel_rfl) rfl (by kernel_rfl) (below_drew1 (Below.refl _ _)) (fun hHeld => ?_)
          refine pu_ ?_ ?_ 0 (some 44) (lb 13 0x1) ?_
          refine pu_ ?_ ?_ 3 (some 47) (lb 13 0x9) ?_
          refine pu_ ?_ ?_ 4 (some 48) (lb 13 0x19) ?_
          refine pu_ ?_ ?_ 5 (some 49) (lb 13 0x39) ?_
          refine ta_ ?_ ?_ 1 (some 45) (lb 13 0x3b) hHeld ?_ (y:=by rintro w' hS;have d0:=(blk_cell (blk_below K7.out hS) 0).trans rfl;have d1:=(blk_cell (blk_below K7.out hS) 1).trans rfl;have d2:=(blk_cell (blk_below K7.out hS) 2).trans rfl;go_simp;with_reducible rfl)
          refine pu_ ?_ ?_ 2 (some 46) (lb 13 0x3f) ?_
          refine ta_ ?_ ?_ 6 (some 50) (lb 13 0x7f) hHeld ?_ (y:=by rintro w' hS;have d0:=(blk_cell (blk_below K7.out hS) 0).trans rfl;have d1:=(blk_cell (blk_below K7.out hS) 1).trans rfl;have d2:=(blk_cell (blk_below K7.out hS) 2).trans rfl;go_simp;with_reducible rfl)
          refine pu_ ?_ ?_ 7 (some 51) (lb 13 0xff) ?_
          refine pu_ ?_ ?_ 8 (some 52) (lb 13 0x1ff) ?_
          refine pu_ ?_ ?_ 9 (some 53) (lb 13 0x3ff) ?_
          refine pu_ ?_ ?_ 10 (some 54) (lb 13 0x7ff) ?_
          refine on_ 11 (some 9) (lb 13 0xfff) (fun K hK => ?_)
          refine va_ ?_ ?_ ?_
          refine hK.out _ _ (hHeld.alloc hHeld.size _) (fun hHeld => ?_)
          clear hK K
          refine nm_ ?_ (some 9) ?_
          refine ls_ 12 none (lb 13 0x1fff) (fun K hK => ?_)
          skip
          refine skip_ (w1:=?_) (by rfl) rfl ?_ ?_
          rotate_left
          · (go_simp;first | rfl | (constructor;rfl;rfl))
          refine hK.out _ _ ?_
          clear hK K
          refine done_ (by kernel_rfl) ?_
          have KX0 : Aside0 ((x4_3.alloc (.cells #[.int .i64 (lx : Int),.slice none 0 0] 48 (0,0))).drew.heap[x4_3.heap.size]? = some (.cells #[.int .i64 (lx : Int),.slice none 0 0] 48 (0,0))):=⟨blk_drew (blk_new x4_3 _)⟩
          have HX0 : Aside0 (Below x4_3.heap.size x4_3 (x4_3.alloc (.cells #[.int .i64 (lx : Int),.slice none 0 0] 48 (0,0))).drew):=⟨below_drew1 (below_alloc (Below.refl _ _) _)⟩
          clear hzl he0 he1 hn0
          go_wp2
          go_loopw [10] (fun i wr => ∃ (k : Nat) (vR : Value),k ≤ l.length ∧ i = .int .i64 k ∧ Aside0 (wr.heap[x4_3.heap.size]? = some (.cells #[.int .i64 (lx : Int),vR] 48 (0,0))) ∧ Aside0 (kInt.R 3 wr x4_3.heap.size (fun _ => True) vR (modM n (l.take k))) ∧ Aside0 (Below x4_3.heap.size x4_3 wr)) (fun i _ => l.length - (intOf i).toNat)
          case atStart => exact ⟨0,_,Nat.zero_le _,rfl,KX0,⟨Kd.R_nil _ _ _ _ _⟩,HX0⟩
          case round =>
            clear KX0 HX0
            obtain ⟨k,vR,hk,rfl,KX,HR,HX⟩:=hrel
            rename World => wi
            by_cases hlt : k < l.length
            · obtain ⟨ad,ead,hy⟩:=at_int (Kd.C_below HL7.out HX.out) k hlt
              cases ead
              have i1 : (0 : Int) ≤ (k : Int):=by omega
              have i2 : (k : Int) < (l.length : Int):=by omega
              have hxb:=HLB.out (l[k]'hlt) (List.getElem_mem _)
              have HT:=Lib.hid (modM_take (n:=n) hlt)
              have hpl:=modM_len n (l.take k)
              rw [List.length_take,Nat.min_eq_left hk] at hpl
              obtain ⟨x,hx⟩ : ∃ x,x = l[k]'hlt:=⟨_,rfl⟩
              rw [← hx] at hy hxb HT
              have HY:=Aside0.mk hy
              clear hx hy
              obtain ⟨z,hz⟩ : ∃ z : Nat,x % (n : Int) = z:=⟨(x % (n : Int)).toNat,by have:=Int.emod_nonneg x (show (n : Int) ≠ 0 by omega);omega⟩
              obtain ⟨P,hP⟩ : ∃ P,P = modM n (l.take k):=⟨_,rfl⟩
              rw [← hP] at HR HT hpl
              have HPL:=Lib.hid hpl
              have HZM:=Lib.hid hz
              have ht : IntKind.i64.wrap x = x:=by rw [IntWalk.i64_in _ (by omega)]
              have ht2 : x.tmod (n : Int) = (z : Int):=by rw [Int.tmod_eq_emod_of_nonneg hxb.1,hz]
              have hnz : ¬ n = 0:=by omega
              obtain ⟨Ar,cr,rfl⟩:=Kd.R_slice HR.out
              clear hP hpl hz
              go_upto_region 9 with (fail)
              refine start_ (n:=13) (S:=fun w' => Below wi.heap.size wi w') (ds:=[10,12]) (lb 13 0x0) (by kernel_rfl) rfl (by kernel_rfl) (below_drew1 (Below.refl _ _)) (fun hHeld => ?_)
              refine pu_ ?_ ?_ 0 (some 61) (lb 13 0x1) ?_
              refine pu_ ?_ ?_ 2 (some 63) (lb 13 0x5) ?_
              refine pu_ ?_ ?_ 3 (some 64) (lb 13 0xd) ?_
              refine pu_ ?_ ?_ 4 (some 65) (lb 13 0x1d) ?_
              refine pu_ ?_ ?_ 7 (some 68) (lb 13 0x9d) ?_
              refine ta_ ?_ ?_ 1 (some 62) (lb 13 0x9f) hHeld ?_ (y:=by rintro w' hS;have d0:=(blk_cell (blk_below KX.out hS) 0).trans rfl;have d1:=(blk_cell (blk_below KX.out hS) 1).trans rfl;have d2:=cell_at hS HY.out;go_simp;with_reducible rfl)
              refine ta_ ?_ ?_ 5 (some 66) (lb 13 0xbf) hHeld ?_ (y:=by rintro w' hS;have d0:=(blk_cell (blk_below KX.out hS) 0).trans rfl;have d1:=(blk_cell (blk_below KX.out hS) 1).trans rfl;have d2:=cell_at hS HY.out;go_simp;with_reducible rfl)
              refine pu_ ?_ ?_ 6 (some 67) (lb 13 0xff) ?_
              refine pu_ ?_ ?_ 8 (some 69) (lb 13 0x1ff) ?_
              refine on_ 9 (some 70) (lb 13 0x3ff) (fun K hK => ?_)
              refine va_ ?_ ?_ ?_
              refine hK.out _ _ (hHeld.alloc hHeld.size _) (fun hHeld => ?_)
              clear hK K
              refine nm_ ?_ (some 70) ?_
              refine ls_ 10 (some 71) (lb 13 0x7ff) (fun K hK => ?_)
              (refine app_int_step (w0:=x4_3) (base:=x4_3.heap.size) (ok:=fun _ => True) (xs:=P) (p:=(z : Int)) (by rfl) rfl (Kd.R_drew HR.out) (below_drew1 HX.out) HX.out.size (by have:=HPL.out;omega) (fun _ _ => trivial) (by simp [Act.eval]) (by simp [Act.eval]) ?_;intro v3 w3 A3;obtain ⟨Av3,cv3,rfl⟩:=A3.shape;have e1:=blk_grown (blk_drew KX.out) A3.grown (Kd.R_ne (Kd.R_drew HR.out) (blk_drew KX.out) (by decide));have E1:=Aside0.mk e1;have e4:=(blk_cell e1 1).trans rfl;have e5:=blk_frozen e1 1;have A3':=Aside0.mk A3;clear A3 e1)
              refine hK.out _ _ ?_
              clear hK K
              refine nm_ ?_ (some 71) ?_
              refine pu_ ?_ ?_ 11 (some 72) (lb 13 0xfff) ?_
              refine ls_ 12 none (lb 13 0x1fff) (fun K hK => ?_)
              skip
              refine skip_ (w1:=?_) (by rfl) rfl ?_ ?_
              rotate_left
              · (go_simp;first | rfl | (constructor;rfl;rfl))
              refine hK.out _ _ ?_
              clear hK K
              refine done_ (by kernel_rfl) ?_
              have F1 : Aside0 ((w3.setCell ⟨x4_3.heap.size,1,none⟩ (.slice Av3 (P.length + 1) cv3)).heap[x4_3.heap.size]? = some (.cells #[.int .i64 (lx : Int),.slice Av3 (P.length + 1) cv3] 48 (0,0))):=⟨(blk_set E1.out 1 _).trans rfl⟩
              have F2:=Aside0.mk (Kd.R_set A3'.out.row E1.out (show ∀ q,q ∈ [3] → q ≠ 48 by decide) 1 (.slice Av3 (P.length + 1) cv3))
              have F3:=Aside0.mk (below_set A3'.out.below (Nat.le_refl _) 1 (.slice Av3 (P.length + 1) cv3))
              clear ht ht2 hnz e4 e5
              go_wp2
              go_roundw
              case rel => exact ⟨k + 1,_,by omega,by go_num,F1,by rw [HT.out,HZM.out];exact F2,F3⟩
              case measure => simp [intOf];omega
            · have hke : l.take k = l:=List.take_of_length_le (by omega)
              rw [hke] at HR
              clear hke
              obtain ⟨P,hP⟩ : ∃ P,P = modM n l:=⟨_,rfl⟩
              rw [← hP] at HR
              have hPl : P.length ≤ 8:=by rw [hP,modM_len];omega
              have HPL:=Aside0.mk hPl
              clear hP hPl
              obtain ⟨Ar,cr,rfl⟩:=Kd.R_slice HR.out
              have hbi:=below_then HX13.out HX13.out.size HX.out
              have HBI:=Aside0.mk hbi
              have KH:=Aside0.mk (blk_below HQ.out HX.out)
              have HU:=Aside0.mk (row_apart HR.out HX13.out.size HO.out.rules HQW.out)
              have HBO:=Aside0.mk (below_then HW.out HW.out.size HX.out)
              have HOI:=Aside0.mk (HO.out.below_ hbi)
              obtain ⟨Lr,hLr⟩ : ∃ Lr,Lr = g.rules ++ [⟨(lx : Int),P⟩]:=⟨_,rfl⟩
              have HLR:=Lib.hid hLr
              clear hbi hLr HR
              go_upto_region 10 with (fail)
              refine pl_start ?_
              refine pl_held (B:=wi.heap.size) (v:=wi) (Below.refl _ _) (fun hHeld => ?_)
              refine pp_ ?_ ?_ ?_
              refine pp_ ?_ ?_ ?_ (y:=by have d0:=(blk_cell (blk_below KH.out hHeld) 0).trans rfl;have d1:=(blk_cell (blk_below KH.out hHeld) 1).trans rfl;have d2:=(blk_cell (blk_below KH.out hHeld) 2).trans rfl;have d3:=(blk_cell (blk_below KX.out hHeld) 0).trans rfl;have d4:=(blk_cell (blk_below KX.out hHeld) 1).trans rfl;go_simp;rfl)
              refine pp_ ?_ ?_ ?_ (y:=by have d0:=(blk_cell (blk_below KH.out hHeld) 0).trans rfl;have d1:=(blk_cell (blk_below KH.out hHeld) 1).trans rfl;have d2:=(blk_cell (blk_below KH.out hHeld) 2).trans rfl;have d3:=(blk_cell (blk_below KX.out hHeld) 0).trans rfl;have d4:=(blk_cell (blk_below KX.out hHeld) 1).trans rfl;go_simp;rfl)
              refine pl_value (N:=some 76) (v:=?vb) (w1:=?wb) (by rfl) rfl ?hb ?_
              case hb => (go_simp;constructor;rfl;rfl)
              simp only [Act.put,List.setIfInBounds_toArray,List.set_cons_zero,List.set_cons_succ]
              refine pl_app_rule (N:=some 77) (w0:=wo) (xs:=g.rules) (p:=⟨(lx : Int),P⟩) (by rfl) rfl rfl HOI.out.rules HU.out HBO.out (by omega) (by rfl) (by rfl) ?_
              intro v1' w1' A1'
              obtain ⟨A4,c4,e4,z4,f4,hrep⟩:=more_rep HO.out HBI.out A1' KH.out HQW.out HLR.out
              subst e4
              have HREP:=Aside0.mk (hrep (.slice A4 Lr.length c4))
              clear A1' hrep
              simp only [Act.put,List.setIfInBounds_toArray,List.set_cons_zero,List.set_cons_succ]
              refine pp_ ?_ ?_ ?_
              refine pl_skip (w1:=?w13) (by rfl) rfl ?h13 ?_
              case h13 => (go_simp;rfl)
              refine pl_nil ?_
              clear z4 f4
              obtain ⟨W4,hW4⟩ : ∃ W4,W4 = w1'.setCell ⟨x4_1.heap.size,2,none⟩ (.slice A4 Lr.length c4):=⟨_,rfl⟩
              rw [← hW4] at HREP ⊢
              obtain ⟨hrg,hrb,hrk⟩:=HREP.out
              have HRG:=Aside0.mk hrg
              have HRB:=Aside0.mk hrb
              have KR:=Aside0.mk hrk
              have HV4:=Aside0.mk (below_then HV5.out HV5.out.size (below_then HB.out HB.out.size hrb))
              clear hrg hrb hrk HREP hW4
              have HZ4 : Aside0 (Sized ⟨g.terms,g.names,Lr⟩):=⟨⟨HZ.out.1,HZ.out.2⟩⟩
              have HN4 : Aside0 (nsym ⟨g.terms,g.names,Lr⟩ = n):=⟨HN.out⟩
              obtain ⟨gh,hgh⟩ : ∃ gh,goodF ⟨g.terms,g.names,Lr⟩ = gh:=⟨_,rfl⟩
              have HGH:=Lib.hid hgh
              clear hgh
              go_upto_region 11 with (fail)
              refine pl_start ?_
              refine pl_held (B:=W4.heap.size) (v:=W4) (Below.refl _ _) (fun hHeld => ?_)
              refine pp_ ?_ ?_ ?_ (y:=by have d0:=(blk_cell (blk_below KR.out hHeld) 0).trans rfl;have d1:=(blk_cell (blk_below KR.out hHeld) 1).trans rfl;have d2:=(blk_cell (blk_below KR.out hHeld) 2).trans rfl;go_simp;rfl)
              refine goesCL_ (N:=(some 80)) Try.func24 (by kernel_rfl) rfl (by rfl) rfl rfl (good1_3m g.terms g.names Lr B1 B2 A4 e1 e2 c4 _ (HRG.out.below_ hHeld) HZ4.out HGH.out) (by simp [Act.eval]) ?_
              rintro e x11_1 ⟨rfl,hb11_1⟩
              refine ⟨_,rfl,?_⟩
              simp only [Act.put,List.setIfInBounds_toArray,List.set_cons_zero,List.set_cons_succ]
              refine pl_held (B:=W4.heap.size) (v:=W4) (below_then hHeld hHeld.size hb11_1) (fun hHeld => ?_)
              refine pp_ ?_ ?_ ?_
              refine pl_nil ?_
              have HX24:=Aside0.mk hHeld
              clear hHeld hb11_1
              cases gh
              · go_upto_region 12 with (fail)
                refine pl_start ?_
                refine pl_held (B:=W4.heap.size) (v:=W4) (HX24.out) (fun hHeld => ?_)
                refine goesCL_ (N:=(some 82)) Try.func27 (by kernel_rfl) rfl (by rfl) rfl rfl (wakes08_c _) (by simp [Act.eval]) ?_
                rintro e x12_0 ⟨rfl,hb12_0⟩
                refine ⟨_,rfl,?_⟩
                simp only [Act.put,List.setIfInBounds_toArray,List.set_cons_zero,List.set_cons_succ]
                refine pl_held (B:=W4.heap.size) (v:=W4) (below_then hHeld hHeld.size hb12_0) (fun hHeld => ?_)
                refine pp_ ?_ ?_ ?_
                refine pl_nil ?_
                go_wp2
                go_ret
                exact ⟨ret_bool rfl,below_then HV4.out HV4.out.size hHeld⟩
              · have HWX:=Aside0.mk (below_then HB.out HB.out.size HRB.out)
                have GG:=Aside0.mk ((HG6.out.below_ HRB.out).below_ HX24.out)
                have GH:=Aside0.mk (HRG.out.below_ HX24.out)
                have KG:=Aside0.mk (blk_below (blk_below K6.out HRB.out) HX24.out)
                have KH2:=Aside0.mk (blk_below KR.out HX24.out)
                have HV7:=Aside0.mk (below_then HV4.out HV4.out.size HX24.out)
                have hmf:=print_make_of (P:=Try.prog) 60 4 (.bool false) 1 Try.underlying60 (by kernel_rfl) rfl (by decide) g.terms.length (by omega)
                go_upto_region 13 with (fail)
                refine start_ (n:=6) (S:=fun w' => Below x11_1.heap.size x11_1 w') (ds:=[]) (lb 6 0x0) (by kernel_rfl) rfl (by kernel_rfl) (below_drew1 (Below.refl _ _)) (fun hHeld => ?_)
                refine ta_ ?_ ?_ 0 (some 83) (lb 6 0x1) hHeld ?_ (y:=by rintro w' hS;have d0:=(blk_cell (blk_below KG.out hS) 0).trans rfl;have d1:=(blk_cell (blk_below KG.out hS) 1).trans rfl;have d2:=(blk_cell (blk_below KG.out hS) 2).trans rfl;have d3:=(blk_cell (blk_below KH2.out hS) 0).trans rfl;have d4:=(blk_cell (blk_below KH2.out hS) 1).trans rfl;have d5:=(blk_cell (blk_below KH2.out hS) 2).trans rfl;go_simp;with_reducible rfl)
                refine ta_ ?_ ?_ 2 (some 85) (lb 6 0x5) hHeld ?_ (y:=by rintro w' hS;have d0:=(blk_cell (blk_below KG.out hS) 0).trans rfl;have d1:=(blk_cell (blk_below KG.out hS) 1).trans rfl;have d2:=(blk_cell (blk_below KG.out hS) 2).trans rfl;have d3:=(blk_cell (blk_below KH2.out hS) 0).trans rfl;have d4:=(blk_cell (blk_below KH2.out hS) 1).trans rfl;have d5:=(blk_cell (blk_below KH2.out hS) 2).trans rfl;go_simp;with_reducible rfl)
                refine on_ 1 (some 84) (lb 6 0x7) (fun K hK => ?_)
                (refine goesC_ Try.func31 (by kernel_rfl) rfl (by rfl) rfl rfl (sets_yes g A1 A2 A3 c1 c2 c3 _ (GG.out.below_ hHeld) HGD.out HN.out) (by simp [Act.eval]) ?_;rintro e w9 ⟨⟨va,rfl,hra⟩,hb9⟩;refine ⟨_,rfl,?_⟩;have HQ9:=Aside0.mk (below_then hHeld hHeld.size hb9);obtain ⟨Ra,ra,rfl⟩:=Kd.R_slice hra;have HA1:=Aside0.mk hra;clear hra;clear hb9;refine hK.out _ _ HQ9.out (fun hHeld => ?_))
                clear hK K
                refine nm_ ?_ (some 84) ?_
                refine on_ 3 (some 86) (lb 6 0xf) (fun K hK => ?_)
                (refine goesC_ Try.func31 (by kernel_rfl) rfl (by rfl) rfl rfl (sets_3 g.terms g.names Lr B1 B2 A4 e1 e2 c4 _ (GH.out.below_ hHeld) HGH.out HN4.out) (by simp [Act.eval]) ?_;rintro e w9 ⟨⟨vb,rfl,hrb⟩,hb9⟩;refine ⟨_,rfl,?_⟩;have HQ9:=Aside0.mk (below_then hHeld hHeld.size hb9);obtain ⟨Rb,rb,rfl⟩:=Kd.R_slice hrb;have HA:=Aside0.mk (Kd.R_below HA1.out hb9);have HB9:=Aside0.mk hrb;clear hrb;clear hb9;refine hK.out _ _ HQ9.out (fun hHeld => ?_))
                clear hK K
                refine nm_ ?_ (some 86) ?_
                refine pu_ ?_ ?_ 4 (some 11) (lb 6 0x1f) ?_
                refine pu_ ?_ ?_ 5 (some 12) (lb 6 0x3f) ?_
                refine done_ (by kernel_rfl) ?_
                have HW1:=Aside0.mk hHeld
                have KG1:=Aside0.mk (blk_below KG.out HW1.out)
                have HV8:=Aside0.mk (below_then HV7.out HV7.out.size HW1.out)
                have hrl : ∀ r ∈ g.rules,r ∈ Lr:=fun r hr => by rw [HLR.out];exact List.mem_append_left _ hr
                have MR:=Aside0.mk (fun s t => first_more (h:=⟨g.terms,g.names,Lr⟩) (s:=s) (t:=t) HGD.out HGH.out rfl hrl)
                have LA : Aside0 ((setsF g).length = n):=⟨by rw [setsF_len,HN.out]⟩
                have LB : Aside0 ((setsF ⟨g.terms,g.names,Lr⟩).length = n):=⟨by rw [setsF_len,HN4.out]⟩
                clear hrl hHeld HA1
                rename World => y3
                go_upto_region 14 with (fail)
                simp only [LA.out,LB.out]
                go_wp2
                go_loopw [13] (fun iv wr => ∃ s : Nat,s ≤ n ∧ iv = .int .i64 s ∧ Aside0 (Below y3.heap.size y3 wr)) (fun iv _ => n - (intOf iv).toNat)
                case atStart => exact ⟨0,Nat.zero_le _,rfl,⟨Below.refl _ _⟩⟩
                case round =>
                  obtain ⟨s,hs,rfl,HY⟩:=hrel
                  rename World => yi
                  by_cases hsn : s < n
                  · have a0:=(blk_cell (blk_below KG1.out HY.out) 0).trans rfl
                    have i1 : (0 : Int) ≤ (s : Int):=by omega
                    have i2 : (s : Int) < (n : Int):=by omega
                    obtain ⟨b,hb⟩ : ∃ b,b = yi.heap.size:=⟨_,rfl⟩
                    obtain ⟨yj,hyj⟩ : ∃ yj,yj = yi.alloc (.cells (madeCells #[.bool false] g.terms.length) 4):=⟨_,rfl⟩
                    have HZB : Aside0 (BB yj b (List.replicate g.terms.length false)):=⟨by rw [hyj,hb];exact BB.new _ _⟩
                    have HYJ : Aside0 (Below y3.heap.size y3 yj):=⟨by rw [hyj];exact HY.out.alloc HY.out.size _⟩
                    have HBY : Aside0 (y3.heap.size ≤ b):=⟨by rw [hb];exact HY.out.size⟩
                    have HAJ:=Aside0.mk (Kd.R_below HA.out HYJ.out)
                    have HBJ:=Aside0.mk (Kd.R_below HB9.out HYJ.out)
                    have hsb : s < (setsF ⟨g.terms,g.names,Lr⟩).length:=by rw [LB.out];exact hsn
                    have hsa : s < (setsF g).length:=by rw [LA.out];exact hsn
                    obtain ⟨bd,Ab,cb,ebd,hxb,hcb,hCb⟩:=at_row (Kd.R_reads' HBJ.out).2.2 s hsb
                    cases ebd
                    have HFB:=Aside0.mk (fun w' (hu : Upd yj w' b) => ll_far HBJ.out HZB.out hsb hxb hu)
                    obtain ⟨ad,Aa,ca,ead,hxa,hca,hCa⟩:=at_row (Kd.R_reads' HAJ.out).2.2 s hsa
                    cases ead
                    have HRA:=Aside0.mk (fun w' (hu : Upd yj w' b) => (Kd.R_reads' (R_upd HAJ.out (by decide) HZB.out hu)).2.2)
                    rw [setsF_at hsb] at hxb HFB
                    have HMB : Aside0 (∀ y ∈ membF (rowT (firstF ⟨g.terms,g.names,Lr⟩) (s : Int)),0 ≤ y ∧ y < (g.terms.length : Int)):=⟨fun y hy => ((firstF_sh ⟨g.terms,g.names,Lr⟩).dom (mem_membF.1 hy)).2⟩
                    have HMA : Aside0 (∀ y ∈ membF (rowT (firstF g) (s : Int)),(0 ≤ y ∧ y < (g.terms.length : Int)) ∧ y ∈ membF (rowT (firstF ⟨g.terms,g.names,Lr⟩) (s : Int))):=⟨fun y hy => ⟨((firstF_sh g).dom (mem_membF.1 hy)).2,mem_membF.2 (MR.out _ _ (mem_membF.1 hy))⟩⟩
                    obtain ⟨mb,hmb⟩ : ∃ mb,mb = membF (rowT (firstF ⟨g.terms,g.names,Lr⟩) (s : Int)):=⟨_,rfl⟩
                    obtain ⟨ma,hma⟩ : ∃ ma,ma = membF (rowT (firstF g) (s : Int)):=⟨_,rfl⟩
                    rw [← hmb] at hxb HFB HMB HMA
                    rw [← hma] at HMA
                    have HME:=Lib.hid (show (setsF g)[s]'hsa = ma by rw [setsF_at hsa,hma])
                    have HSA:=Aside0.mk hsa
                    clear hmb hma hsb hca hcb hCa hCb hxa
                    go_upto_region 20 with (fail)
                    simp only [← hyj,← hb]
                    clear hyj hb a0
                    go_wp2_with (go_at_call 34;go_loud (refine (mark_c b g.terms.length (List.replicate g.terms.length false) Ab cb mb.length mb _ HZB.out (by simp) (by omega) HFB.out HMB.out).mono ?_;rintro e y5 ⟨rfl,hbo,hu⟩;have HBO:=Aside0.mk hbo;have HU:=Aside0.mk hu;clear hbo hu))
                    obtain ⟨ad5,A5,c5,ead5,hx5,_,hC5⟩:=at_row (HRA.out y5 HU.out) s HSA.out
                    cases ead5
                    rw [HME.out] at hx5 hC5
                    have HC5:=Aside0.mk hC5
                    have HHV : Aside0 (∀ y ∈ mb,getB (setAll (List.replicate g.terms.length false) mb) y = true):=⟨fun y hy => (getB_setAll (by simpa using HMB.out) y).2 (Or.inr hy)⟩
                    have HSL : Aside0 ((setAll (List.replicate g.terms.length false) mb).length = g.terms.length):=⟨by rw [setAll_len];simp⟩
                    have hma5:=C_max hC5
                    have HY5:=Aside0.mk (HU.out.low HYJ.out HBY.out)
                    clear hC5 hxb
                    go_loop [15] (fun iv => ∃ i : Nat,i ≤ ma.length ∧ iv = .int .i64 i) (fun iv => ma.length - (intOf iv).toNat)
                    case atStart => exact ⟨0,Nat.zero_le _,rfl⟩
                    case round =>
                      obtain ⟨i,hi,rfl⟩:=hrel
                      by_cases hil : i < ma.length
                      · have j1 : (0 : Int) ≤ (i : Int):=by omega
                        have j2 : (i : Int) < (ma.length : Int):=by omega
                        obtain ⟨ae,eae,hy⟩:=at_int HC5.out i hil
                        cases eae
                        have hin:=HMA.out _ (List.getElem_mem hil)
                        obtain ⟨y,hy1⟩ : ∃ y,y = ma[i]'hil:=⟨_,rfl⟩
                        rw [← hy1] at hy hin
                        clear hy1
                        obtain ⟨ys,rfl⟩:=Int.eq_ofNat_of_zero_le hin.1.1
                        have hyn : ys < g.terms.length:=by omega
                        have j3 : (ys : Int) < (g.terms.length : Int):=by omega
                        have d1 : decide ((ys : Int) < 0) = false:=by simp
                        have d2 : decide ((g.terms.length : Int) ≤ (ys : Int)) = false:=by simp;omega
                        have z:=HBO.out.cell' (i:=ys) (by rw [HSL.out];exact hyn) (HHV.out _ hin.2)
                        clear hin
                        go_wp2
                        go_round
                        case rel => exact ⟨i + 1,by omega,by go_num⟩
                        case measure => simp [intOf];omega
                      · go_wp2
                        go_roundw
                        case rel => exact ⟨s + 1,by omega,by go_num⟩
                        case measure => simp [intOf];omega
                  · go_upto_region 27 with (fail)
                    refine pl_start ?_
                    refine pl_held (B:=yi.heap.size) (v:=yi) (Below.refl _ _) (fun hHeld => ?_)
                    refine goesCL_ (N:=(some 155)) Try.func27 (by kernel_rfl) rfl (by rfl) rfl rfl (wakes08_c _) (by simp [Act.eval]) ?_
                    rintro e x27_0 ⟨rfl,hb27_0⟩
                    refine ⟨_,rfl,?_⟩
                    simp only [Act.put,List.setIfInBounds_toArray,List.set_cons_zero,List.set_cons_succ]
                    refine pl_held (B:=yi.heap.size) (v:=yi) (below_then hHeld hHeld.size hb27_0) (fun hHeld => ?_)
                    refine pp_ ?_ ?_ ?_
                    refine pl_nil ?_
                    go_wp2
                    go_ret
                    exact ⟨ret_bool rfl,below_then HV8.out HV8.out.size (below_then HY.out HY.out.size hHeld)⟩
  · refine pp_ ?_ ?_ ?_
    refine pf_ ?_ ?_
    refine pf_ ?_ ?_
    refine pf_ ?_ ?_
    refine pp_ ?_ ?_ ?_
    refine pp_ ?_ ?_ ?_
    refine pf_ ?_ ?_
    refine pf_ ?_ ?_
    refine pf_ ?_ ?_
    refine pp_ ?_ ?_ ?_
    refine pp_ ?_ ?_ ?_
    refine pf_ ?_ ?_
    refine pf_ ?_ ?_
    refine pf_ ?_ ?_
    refine pf_ ?_ ?_
    refine pp_ ?_ ?_ ?_
    refine pl_nil ?_
    go_upto_region 2 with (fail)
    refine pl_start ?_
    refine pl_held (B:=v0.heap.size) (v:=v0) (HX1.out) (fun hHeld => ?_)
    refine goesCL_ (N:=(some 34)) Try.func27 (by kernel_rfl) rfl (by rfl) rfl rfl (wakes08_c _) (by simp [Act.eval]) ?_
    rintro e x2_0 ⟨rfl,hb2_0⟩
    refine ⟨_,rfl,?_⟩
    simp only [Act.put,List.setIfInBounds_toArray,List.set_cons_zero,List.set_cons_succ]
    refine pl_held (B:=v0.heap.size) (v:=v0) (below_then hHeld hHeld.size hb2_0) (fun hHeld => ?_)
    refine pp_ ?_ ?_ ?_
    refine pl_nil ?_
    go_wp2
    go_ret
    exact ⟨ret_bool rfl,below_then HB0.out HB0.out.size hHeld⟩
end Go.Proofs.Ytdpdbgaoaibafaa
