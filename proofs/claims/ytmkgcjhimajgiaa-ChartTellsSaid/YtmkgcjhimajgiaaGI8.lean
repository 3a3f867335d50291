/- Contracts of functions of the program, and plain laws (text I8): each theorem says what it proves. -/
import Derived.Test.YtmkgcjhimajgiaaGI2
import Derived.Test.YtmkgcjhimajgiaaGI
import Derived.Test.YtmkgcjhimajgiaaGO
import Derived.Test.YtmkgcjhimajgiaaGK
set_option linter.unusedVariables false
set_option linter.unusedSimpArgs false
namespace Go.Proofs.Ytmkgcjhimajgiaa.Fast
open Go.RowKit Go.Proofs.YtmkgcjhimajgiaaW.PrintWords Go.Proofs.YtmkgcjhimajgiaaW.PrintLast Go.Conc

set_option maxRecDepth 100000 in
set_option maxHeartbeats 16000000 in
theorem chartTells_c (g : Gram) (A1 A2 A3 : Option Addr) (c1 c2 c3 : Nat) (B : Option Addr) (d : Nat) (l : List Int) (xa xb xc xd xe xf xg : Int) (w : World) (hg : RepG w g A1 A2 A3 c1 c2 c3) (hz : Sized g) (hl : kInt.C w B l.length l) (hb : ∀ y ∈ l,-9223372036854775808 ≤ y ∧ y ≤ 9223372036854775807)
    (hxa : I64 xa) (hxb : I64 xb) (hxc : I64 xc) (hxd : I64 xd) (hxe : I64 xe) (hxf : I64 xf) (hxg : I64 xg) :
    Calls Try.prog 3 #[.agg #[.slice A1 g.terms.length c1,.slice A2 g.names.length c2,.slice A3 g.rules.length c3],.slice B l.length d,.agg #[.int .i64 xa,.int .i64 xb,.int .i64 xc,.int .i64 xd,.int .i64 xe,.int .i64 xf,.int .i64 xg]] w fun e w' => e = .returned (.bool true) ∧ Below w.heap.size w w':=by
  obtain ⟨x0,hx0⟩ : ∃ x0,x0 = w.heap.size:=⟨_,rfl⟩
  obtain ⟨v0,hv0⟩ : ∃ v0 : World,v0 = (w.alloc (.cells #[.slice A1 g.terms.length c1,.slice A2 g.names.length c2,.slice A3 g.rules.length c3] 25 (0,0))).alloc (.cells #[.int .i64 xa,.int .i64 xb,.int .i64 xc,.int .i64 xd,.int .i64 xe,.int .i64 xf,.int .i64 xg] 32 (0,0)):=⟨_,rfl⟩
  have HB0 : Aside0 (Below w.heap.size w v0):=⟨by rw [hv0];exact ((Below.refl w.heap.size w).alloc (Nat.le_refl _) _).alloc (by simp) _⟩
  have HP0 : Aside0 (v0.heap[x0]? = some (.cells #[.slice A1 g.terms.length c1,.slice A2 g.names.length c2,.slice A3 g.rules.length c3] 25 (0,0))):=⟨by rw [hv0,hx0];exact blk_alloc (blk_new w _) _⟩
  have HT0 : Aside0 (v0.heap[x0 + 1]? = some (.cells #[.int .i64 xa,.int .i64 xb,.int .i64 xc,.int .i64 xd,.int .i64 xe,.int .i64 xf,.int .i64 xg] 32 (0,0))):=⟨by rw [hv0,hx0];exact blk_snd w _ _⟩
  have HG0:=Aside0.mk (hg.below_ HB0.out)
  have HL0:=Aside0.mk (Kd.C_below hl HB0.out)
  have HZ:=Aside0.mk hz
  have HBD:=Aside0.mk hb
  have HXA : Aside0 (I64 xa):=⟨hxa⟩
  have HXD : Aside0 (I64 xd ∧ I64 xe):=⟨⟨hxd,hxe⟩⟩
  have hlm:=C_max hl
  obtain ⟨gv,hgv⟩ : ∃ gv,goodF g = gv:=⟨_,rfl⟩
  have HGV:=Lib.hid hgv
  clear hg hz hl hb hgv hxa hxb hxc hxd hxe hxf hxg
  go_enter Try.func3,Try.ntmps3
  go_upto_region 1 with (fail)
  simp only [← hv0]
  simp only [← hx0]
  have HX0:=Lib.hid hx0
  clear hv0 hx0
  refine pl_start ?_
  refine pl_held (B:=v0.heap.size) (v:=v0) (Below.refl _ _) (fun hHeld => ?_)
  refine pp_ ?_ ?_ ?_ (y:=by have d0:=(blk_cell (blk_below HP0.out hHeld) 0).trans rfl;have d1:=(blk_cell (blk_below HP0.out hHeld) 1).trans rfl;have d2:=(blk_cell (blk_below HP0.out hHeld) 2).trans rfl;go_simp;rfl)
  refine pp_ ?_ ?_ ?_
  refine goesCL_ (N:=(some 22)) Try.func15 (by kernel_rfl) rfl (by rfl) rfl rfl (small24_c g A1 A2 A3 c1 c2 c3 B d l _ (HG0.out.below_ hHeld) HZ.out) (by simp [Act.eval]) ?_
  rintro e x1_2 ⟨⟨sv,rfl,hsm⟩,hb1_2⟩
  refine ⟨_,rfl,?_⟩
  simp only [Act.put,List.setIfInBounds_toArray,List.set_cons_zero,List.set_cons_succ]
  refine pl_held (B:=v0.heap.size) (v:=v0) (below_then hHeld hHeld.size hb1_2) (fun hHeld => ?_)
  refine pp_ ?_ ?_ ?_
  refine pl_nil ?_
  cases sv
  · clear hsm
    go_wp2_with (go_at_call 16;refine (wakes24_c _).mono ?_;rintro e w9 ⟨rfl,hb9⟩)
    go_ret
    exact ⟨rfl,below_then (below_then HB0.out HB0.out.size hHeld) (below_then HB0.out HB0.out.size hHeld).size hb9⟩
  have HSM:=Aside0.mk (hsm rfl)
  have hl100 : l.length ≤ 100:=by have:=(hsm rfl).w;omega
  clear hsm
  go_upto_region 3 with (fail)
  refine pl_start ?_
  refine pl_held (B:=v0.heap.size) (v:=v0) (hHeld) (fun hHeld => ?_)
  refine pl_alloc (N:=(some 25)) (v:=?v1) (o:=?o1) (by rfl) rfl ?h1 ?_
  case h1 => (go_simp;first | rfl | (constructor;rfl;rfl))
  intro x3_0 hb3_0 hx3_0 hs3_0 hq3_0
  simp only [Act.put,List.setIfInBounds_toArray,List.set_cons_zero,List.set_cons_succ]
  refine pl_held (B:=v0.heap.size) (v:=v0) (below_then hHeld hHeld.size hb3_0) (fun hHeld => ?_)
  refine pp_ ?_ ?_ ?_
  refine pl_copy_ints (N:=some 27) (w0:=x1_2) (ys:=l) (by rfl) rfl rfl hb3_0 hx3_0 hs3_0 (by omega) (by rfl) (by rfl) (Kd.C_below HL0.out (below_then (Below.refl _ _) (Nat.le_refl _) hb1_2)) hq3_0.out ?_
  intro LA lc x3_2 hlc hC hb3_2
  simp only [Act.put,List.setIfInBounds_toArray,List.set_cons_zero,List.set_cons_succ]
  refine pl_held (B:=v0.heap.size) (v:=v0) (below_then hb1_2 hb1_2.size hb3_2) (fun hHeld => ?_)
  refine pp_ ?_ ?_ ?_
  refine pl_nil ?_
  have HP1:=Aside0.mk (blk_below HP0.out hHeld)
  have HT1:=Aside0.mk (blk_below HT0.out hHeld)
  have HG1:=Aside0.mk (HG0.out.below_ hHeld)
  have HL1:=Aside0.mk (Kd.C_below HL0.out hHeld)
  have HA1:=Aside0.mk hC
  have HV1:=Aside0.mk (below_then HB0.out HB0.out.size hHeld)
  have hii : decide (l = l) = true:=decide_eq_true rfl
  rename World => v1
  clear hC hHeld hb1_2 hb3_2 hx3_0 hs3_0 hq3_0 hb3_0 HP0 HT0 HG0 HL0 HB0
  go_upto_region 4 with (fail)
  cases gv
  · refine pl_start ?_
    refine pl_held (B:=v1.heap.size) (v:=v1) (Below.refl _ _) (fun hHeld => ?_)
    refine pp_ ?_ ?_ ?_ (y:=by have d0:=(blk_cell (blk_below HP1.out hHeld) 0).trans rfl;have d1:=(blk_cell (blk_below HP1.out hHeld) 1).trans rfl;have d2:=(blk_cell (blk_below HP1.out hHeld) 2).trans rfl;go_simp;rfl)
    refine pp_ ?_ ?_ ?_
    refine goesCL_ (N:=(some 31)) Try.func17 (by kernel_rfl) rfl (by rfl) rfl rfl (ofC_form g A1 A2 A3 c1 c2 c3 LA lc l _ (HG1.out.below_ hHeld) HGV.out) (by simp [Act.eval]) ?_
    rintro e x4_2 ⟨rfl,hb4_2⟩
    refine ⟨_,rfl,?_⟩
    simp only [Act.put,List.setIfInBounds_toArray,List.set_cons_zero,List.set_cons_succ]
    refine pl_held (B:=v1.heap.size) (v:=v1) (below_then hHeld hHeld.size hb4_2) (fun hHeld => ?_)
    refine pp_ ?_ ?_ ?_
    refine pp_ ?_ ?_ ?_
    refine pp_ ?_ ?_ ?_
    refine pp_ ?_ ?_ ?_
    refine pp_ ?_ ?_ ?_
    refine pl_nil ?_
    go_upto_region 5 with (fail)
    refine pl_start ?_
    refine pl_held (B:=v1.heap.size) (v:=v1) (hHeld) (fun hHeld => ?_)
    refine pp_ ?_ ?_ ?_ (y:=by have d0:=(blk_cell (blk_below HP1.out hHeld) 0).trans rfl;have d1:=(blk_cell (blk_below HP1.out hHeld) 1).trans rfl;have d2:=(blk_cell (blk_below HP1.out hHeld) 2).trans rfl;go_simp;rfl)
    refine pp_ ?_ ?_ ?_
    refine goesCL_ (N:=(some 37)) Try.func18 (by kernel_rfl) rfl (by rfl) rfl rfl (ofR_form g A1 A2 A3 c1 c2 c3 B d l _ (HG1.out.below_ hHeld) HZ.out HGV.out) (by simp [Act.eval]) ?_
    rintro e x5_2 ⟨rfl,hb5_2⟩
    refine ⟨_,rfl,?_⟩
    simp only [Act.put,List.setIfInBounds_toArray,List.set_cons_zero,List.set_cons_succ]
    refine pl_held (B:=v1.heap.size) (v:=v1) (below_then hHeld hHeld.size hb5_2) (fun hHeld => ?_)
    refine pp_ ?_ ?_ ?_
    refine pp_ ?_ ?_ ?_
    refine pp_ ?_ ?_ ?_
    refine pp_ ?_ ?_ ?_
    refine pp_ ?_ ?_ ?_
    refine pl_nil ?_
    go_upto_region 6 with (fail)
    refine pl_start ?_
    refine pl_held (B:=v1.heap.size) (v:=v1) (hHeld) (fun hHeld => ?_)
    refine pp_ ?_ ?_ ?_
    refine pp_ ?_ ?_ ?_
    refine pp_ ?_ ?_ ?_
    refine pp_ ?_ ?_ ?_
    refine pp_ ?_ ?_ ?_
    refine pp_ ?_ ?_ ?_
    refine pp_ ?_ ?_ ?_
    refine pp_ ?_ ?_ ?_
    refine pp_ ?_ ?_ ?_
    refine pp_ ?_ ?_ ?_
    refine pp_ ?_ ?_ ?_
    refine pp_ ?_ ?_ ?_
    refine pp_ ?_ ?_ ?_
    refine goesCL_ (N:=(some 53)) Try.func19 (by kernel_rfl) rfl (by rfl) rfl rfl (keepInts_v LA B lc d l.length l.length l l _ (Kd.C_below HA1.out hHeld) (Kd.C_below HL1.out hHeld) hii) (by simp [Act.eval]) ?_
    rintro e x6_13 ⟨rfl,hb6_13⟩
    refine ⟨_,rfl,?_⟩
    simp only [Act.put,List.setIfInBounds_toArray,List.set_cons_zero,List.set_cons_succ]
    refine pl_held (B:=v1.heap.size) (v:=v1) (below_then hHeld hHeld.size hb6_13) (fun hHeld => ?_)
    refine pp_ ?_ ?_ ?_
    refine pp_ ?_ ?_ ?_
    refine pl_nil ?_
    go_wp2_with (go_at_call 16;refine (wakes24_c _).mono ?_;rintro e w9 ⟨rfl,hb9⟩)
    go_ret
    exact ⟨rfl,below_then HV1.out HV1.out.size (below_then hHeld hHeld.size hb9)⟩
  by_cases hl40 : 40 < l.length
  · refine pl_start ?_
    refine pl_held (B:=v1.heap.size) (v:=v1) (Below.refl _ _) (fun hHeld => ?_)
    refine pp_ ?_ ?_ ?_ (y:=by have d0:=(blk_cell (blk_below HP1.out hHeld) 0).trans rfl;have d1:=(blk_cell (blk_below HP1.out hHeld) 1).trans rfl;have d2:=(blk_cell (blk_below HP1.out hHeld) 2).trans rfl;go_simp;rfl)
    refine pp_ ?_ ?_ ?_
    refine goesCL_ (N:=(some 31)) Try.func17 (by kernel_rfl) rfl (by rfl) rfl rfl (ofC_large g A1 A2 A3 c1 c2 c3 LA lc l _ (HG1.out.below_ hHeld) HGV.out hl40) (by simp [Act.eval]) ?_
    rintro e x4_2 ⟨rfl,hb4_2⟩
    refine ⟨_,rfl,?_⟩
    simp only [Act.put,List.setIfInBounds_toArray,List.set_cons_zero,List.set_cons_succ]
    refine pl_held (B:=v1.heap.size) (v:=v1) (below_then hHeld hHeld.size hb4_2) (fun hHeld => ?_)
    refine pp_ ?_ ?_ ?_
    refine pp_ ?_ ?_ ?_
    refine pp_ ?_ ?_ ?_
    refine pp_ ?_ ?_ ?_
    refine pp_ ?_ ?_ ?_
    refine pl_nil ?_
    go_upto_region 5 with (fail)
    refine pl_start ?_
    refine pl_held (B:=v1.heap.size) (v:=v1) (hHeld) (fun hHeld => ?_)
    refine pp_ ?_ ?_ ?_ (y:=by have d0:=(blk_cell (blk_below HP1.out hHeld) 0).trans rfl;have d1:=(blk_cell (blk_below HP1.out hHeld) 1).trans rfl;have d2:=(blk_cell (blk_below HP1.out hHeld) 2).trans rfl;go_simp;rfl)
    refine pp_ ?_ ?_ ?_
    refine goesCL_ (N:=(some 37)) Try.func18 (by kernel_rfl) rfl (by rfl) rfl rfl (ofR_large g A1 A2 A3 c1 c2 c3 B d l _ (HG1.out.below_ hHeld) HZ.out HGV.out hl40) (by simp [Act.eval]) ?_
    rintro e x5_2 ⟨rfl,hb5_2⟩
    refine ⟨_,rfl,?_⟩
    simp only [Act.put,List.setIfInBounds_toArray,List.set_cons_zero,List.set_cons_succ]
    refine pl_held (B:=v1.heap.size) (v:=v1) (below_then hHeld hHeld.size hb5_2) (fun hHeld => ?_)
    refine pp_ ?_ ?_ ?_
    refine pp_ ?_ ?_ ?_
    refine pp_ ?_ ?_ ?_
    refine pp_ ?_ ?_ ?_
    refine pp_ ?_ ?_ ?_
    refine pl_nil ?_
    go_upto_region 6 with (fail)
    refine pl_start ?_
    refine pl_held (B:=v1.heap.size) (v:=v1) (hHeld) (fun hHeld => ?_)
    refine pp_ ?_ ?_ ?_
    refine pp_ ?_ ?_ ?_
    refine pp_ ?_ ?_ ?_
    refine pp_ ?_ ?_ ?_
    refine pp_ ?_ ?_ ?_
    refine pp_ ?_ ?_ ?_
    refine pp_ ?_ ?_ ?_
    refine pp_ ?_ ?_ ?_
    refine pp_ ?_ ?_ ?_
    refine pp_ ?_ ?_ ?_
    refine pp_ ?_ ?_ ?_
    refine pp_ ?_ ?_ ?_
    refine pp_ ?_ ?_ ?_
    refine goesCL_ (N:=(some 53)) Try.func19 (by kernel_rfl) rfl (by rfl) rfl rfl (keepInts_v LA B lc d l.length l.length l l _ (Kd.C_below HA1.out hHeld) (Kd.C_below HL1.out hHeld) hii) (by simp [Act.eval]) ?_
    rintro e x6_13 ⟨rfl,hb6_13⟩
    refine ⟨_,rfl,?_⟩
    simp only [Act.put,List.setIfInBounds_toArray,List.set_cons_zero,List.set_cons_succ]
    refine pl_held (B:=v1.heap.size) (v:=v1) (below_then hHeld hHeld.size hb6_13) (fun hHeld => ?_)
    refine pp_ ?_ ?_ ?_
    refine pp_ ?_ ?_ ?_
    refine pl_nil ?_
    go_wp2_with (go_at_call 16;refine (wakes24_c _).mono ?_;rintro e w9 ⟨rfl,hb9⟩)
    go_ret
    exact ⟨rfl,below_then HV1.out HV1.out.size (below_then hHeld hHeld.size hb9)⟩
  have hl9 : l.length ≤ 9:=by have:=HSM.out.w;omega
  clear hl40
  obtain ⟨q1,q2,q3,q4⟩:=goodF_small HGV.out
  have HQ : Aside0 (Sm40 g l):=⟨⟨q1,q3,by omega⟩⟩
  refine pl_start ?_
  refine pl_held (B:=v1.heap.size) (v:=v1) (Below.refl _ _) (fun hHeld => ?_)
  refine pp_ ?_ ?_ ?_ (y:=by have d0:=(blk_cell (blk_below HP1.out hHeld) 0).trans rfl;have d1:=(blk_cell (blk_below HP1.out hHeld) 1).trans rfl;have d2:=(blk_cell (blk_below HP1.out hHeld) 2).trans rfl;go_simp;rfl)
  refine pp_ ?_ ?_ ?_
  refine goesCL_ (N:=(some 31)) Try.func17 (by kernel_rfl) rfl (by rfl) rfl rfl (ofC_yes g A1 A2 A3 c1 c2 c3 LA lc l _ (HG1.out.below_ hHeld) (Kd.C_below HA1.out hHeld) HGV.out (by omega) HBD.out) (by simp [Act.eval]) ?_
  rintro e x4_2 ⟨⟨k,rfl,hcf,hlo⟩,hb4_2⟩
  refine ⟨_,rfl,?_⟩
  simp only [Act.put,List.setIfInBounds_toArray,List.set_cons_zero,List.set_cons_succ]
  refine pl_held (B:=v1.heap.size) (v:=v1) (below_then hHeld hHeld.size hb4_2) (fun hHeld => ?_)
  refine pp_ ?_ ?_ ?_
  refine pp_ ?_ ?_ ?_
  refine pp_ ?_ ?_ ?_
  refine pp_ ?_ ?_ ?_
  refine pp_ ?_ ?_ ?_
  refine pl_nil ?_
  go_upto_region 5 with (fail)
  have HC4:=Aside0.mk hcf
  clear hcf hlo
  refine pl_start ?_
  refine pl_held (B:=v1.heap.size) (v:=v1) (hHeld) (fun hHeld => ?_)
  refine pp_ ?_ ?_ ?_ (y:=by have d0:=(blk_cell (blk_below HP1.out hHeld) 0).trans rfl;have d1:=(blk_cell (blk_below HP1.out hHeld) 1).trans rfl;have d2:=(blk_cell (blk_below HP1.out hHeld) 2).trans rfl;go_simp;rfl)
  refine pp_ ?_ ?_ ?_
  refine goesCL_ (N:=(some 37)) Try.func18 (by kernel_rfl) rfl (by rfl) rfl rfl (ofR_yes g A1 A2 A3 c1 c2 c3 B d l _ (HG1.out.below_ hHeld) HZ.out (Kd.C_below HL1.out hHeld) HGV.out (by omega)) (by simp [Act.eval]) ?_
  rintro e x5_2 ⟨⟨kk,M,lo,rfl,hrc,hfu⟩,hb5_2⟩
  refine ⟨_,rfl,?_⟩
  simp only [Act.put,List.setIfInBounds_toArray,List.set_cons_zero,List.set_cons_succ]
  refine pl_held (B:=v1.heap.size) (v:=v1) (below_then hHeld hHeld.size hb5_2) (fun hHeld => ?_)
  refine pp_ ?_ ?_ ?_
  refine pp_ ?_ ?_ ?_
  refine pp_ ?_ ?_ ?_
  refine pp_ ?_ ?_ ?_
  refine pp_ ?_ ?_ ?_
  refine pl_nil ?_
  go_upto_region 6 with (fail)
  have HC5:=Aside0.mk (HC4.out.below_ hb5_2)
  have HR5:=Aside0.mk hrc
  have HM:=Aside0.mk hfu
  clear hrc hfu HC4 hb4_2 hb5_2
  refine pl_start ?_
  refine pl_held (B:=v1.heap.size) (v:=v1) (hHeld) (fun hHeld => ?_)
  refine pp_ ?_ ?_ ?_
  refine pp_ ?_ ?_ ?_
  refine pp_ ?_ ?_ ?_
  refine pp_ ?_ ?_ ?_
  refine pp_ ?_ ?_ ?_
  refine pp_ ?_ ?_ ?_
  refine pp_ ?_ ?_ ?_
  refine pp_ ?_ ?_ ?_
  refine pp_ ?_ ?_ ?_
  refine pp_ ?_ ?_ ?_
  refine pp_ ?_ ?_ ?_
  refine pp_ ?_ ?_ ?_
  refine pp_ ?_ ?_ ?_
  refine goesCL_ (N:=(some 53)) Try.func19 (by kernel_rfl) rfl (by rfl) rfl rfl (keepInts_v LA B lc d l.length l.length l l _ (Kd.C_below HA1.out hHeld) (Kd.C_below HL1.out hHeld) hii) (by simp [Act.eval]) ?_
  rintro e x6_13 ⟨rfl,hb6_13⟩
  refine ⟨_,rfl,?_⟩
  simp only [Act.put,List.setIfInBounds_toArray,List.set_cons_zero,List.set_cons_succ]
  refine pl_held (B:=v1.heap.size) (v:=v1) (below_then hHeld hHeld.size hb6_13) (fun hHeld => ?_)
  refine pp_ ?_ ?_ ?_
  refine pp_ ?_ ?_ ?_
  refine pl_nil ?_
  have HC6:=Aside0.mk (HC5.out.below_ hb6_13)
  have HR6:=Aside0.mk (HR5.out.below_ hb6_13)
  clear HC5 HR5 hb6_13 hii
  go_upto_region 10 with (fail)
  refine pl_start ?_
  refine pl_held (B:=v1.heap.size) (v:=v1) (hHeld) (fun hHeld => ?_)
  refine pp_ ?_ ?_ ?_
  refine goesCL_ (N:=(some 60)) Try.func20 (by kernel_rfl) rfl (by rfl) rfl rfl (spansM_c k g l _ HC6.out) (by simp [Act.eval]) ?_
  rintro e x10_1 ⟨⟨As,cs,rfl,hsp⟩,hb10_1⟩
  refine ⟨_,rfl,?_⟩
  simp only [Act.put,List.setIfInBounds_toArray,List.set_cons_zero,List.set_cons_succ]
  refine pl_held (B:=v1.heap.size) (v:=v1) (below_then hHeld hHeld.size hb10_1) (fun hHeld => ?_)
  refine pp_ ?_ ?_ ?_
  refine goesCL_ (N:=(some 62)) Try.func21 (by kernel_rfl) rfl (by rfl) rfl rfl (spansR_c kk g l M lo _ (HR6.out.below_ hb10_1) HQ.out HGV.out HM.out) (by simp [Act.eval]) ?_
  rintro e x10_3 ⟨⟨At,ct,rfl,hst⟩,hb10_3⟩
  refine ⟨_,rfl,?_⟩
  simp only [Act.put,List.setIfInBounds_toArray,List.set_cons_zero,List.set_cons_succ]
  refine pl_held (B:=v1.heap.size) (v:=v1) (below_then hHeld hHeld.size hb10_3) (fun hHeld => ?_)
  refine pp_ ?_ ?_ ?_
  refine pp_ ?_ ?_ ?_
  refine pl_nil ?_
  have HC:=Aside0.mk ((HC6.out.below_ hb10_1).below_ hb10_3)
  have HR:=Aside0.mk ((HR6.out.below_ hb10_1).below_ hb10_3)
  have HS1:=Aside0.mk (Kd.C_below (Kd.R_reads' hsp).2.2 hb10_3)
  have HS2:=Aside0.mk (Kd.R_reads' hst).2.2
  have HP:=Aside0.mk (blk_below HP1.out hHeld)
  have HT:=Aside0.mk (blk_below HT1.out hHeld)
  have HG:=Aside0.mk (HG1.out.below_ hHeld)
  have HBv:=Aside0.mk (below_then HV1.out HV1.out.size hHeld)
  obtain ⟨v,hv⟩ : ∃ v,v = x10_3:=⟨_,rfl⟩
  rw [← hv] at HC HR HS1 HS2 HP HT HG HBv ⊢
  have hlm5 : (spansF g l).length ≤ 200000:=by
    have h1:=spansL_len g l g.names.length
    have h4 : (l.length + 1) * (l.length + 1) ≤ 10 * 10:=Nat.mul_le_mul (by omega) (by omega)
    have h5 : g.names.length * ((l.length + 1) * (l.length + 1)) ≤ 40 * (10 * 10):=Nat.mul_le_mul q3 h4
    unfold spansF
    omega
  obtain ⟨SL,hSL⟩ : ∃ SL,SL = spansF g l:=⟨_,rfl⟩
  rw [← hSL] at HS1 HS2 hlm5 ⊢
  clear hSL hv hsp hst hHeld hb10_1 hb10_3 HC6 HR6 HP1 HT1 HG1 HL1 HA1 HV1
  go_wp2
  go_loopw [14] (fun iv wr => ∃ i : Nat,i ≤ SL.length ∧ iv = .int .i64 i ∧ Aside0 (Below v.heap.size v wr)) (fun iv _ => SL.length - (intOf iv).toNat)
  case atStart => exact ⟨0,Nat.zero_le _,rfl,⟨Below.refl _ _⟩⟩
  case round =>
    obtain ⟨i,hi,rfl,HB⟩:=hrel
    rename World => wi
    by_cases hil : i < SL.length
    · have i2 : (i : Int) < (SL.length : Int):=by omega
      have i0 : (0 : Int) ≤ (i : Int):=by omega
      obtain ⟨ad,ead,z0,z1,z2⟩:=at_sp HS1.out i hil
      obtain ⟨ae,eae,y0,y1,y2⟩:=at_sp HS2.out i hil
      cases ead
      cases eae
      obtain ⟨p,hp⟩ : ∃ p,p = SL[i]'hil:=⟨_,rfl⟩
      rw [← hp] at z0 z1 z2 y0 y1 y2
      have HZ0:=Aside0.mk (pw_cell_below HB.out z0)
      have HZ1:=Aside0.mk (pw_cell_below HB.out z1)
      have HZ2:=Aside0.mk (pw_cell_below HB.out z2)
      have HY0:=Aside0.mk (pw_cell_below HB.out y0)
      have HY1:=Aside0.mk (pw_cell_below HB.out y1)
      have HY2:=Aside0.mk (pw_cell_below HB.out y2)
      clear hp z0 z1 z2 y0 y1 y2
      go_upto_region 16 with (fail)
      refine start_ (n:=9) (S:=fun w' => Below wi.heap.size wi w') (ds:=[]) (lb 9 0x0) (by kernel_rfl) rfl (by kernel_rfl) (below_drew1 (Below.refl _ _)) (fun hHeld => ?_)
      refine pu_ ?_ ?_ 0 (some 74) (lb 9 0x1) ?_
      refine pu_ ?_ ?_ 1 (some 75) (lb 9 0x3) ?_
      refine pu_ ?_ ?_ 2 (some 76) (lb 9 0x7) ?_
      refine pu_ ?_ ?_ 4 (some 78) (lb 9 0x17) ?_
      refine pu_ ?_ ?_ 5 (some 79) (lb 9 0x37) ?_
      refine pu_ ?_ ?_ 6 (some 80) (lb 9 0x77) ?_
      refine ta_ ?_ ?_ 3 (some 77) (lb 9 0x7f) hHeld ?_ (y:=by rintro w' hS;have d0:=cell_at hS HZ0.out;have d1:=cell_at hS HZ1.out;have d2:=cell_at hS HZ2.out;have d3:=cell_at hS HY0.out;have d4:=cell_at hS HY1.out;have d5:=cell_at hS HY2.out;go_simp;with_reducible rfl)
      refine ta_ ?_ ?_ 7 (some 81) (lb 9 0xff) hHeld ?_ (y:=by rintro w' hS;have d0:=cell_at hS HZ0.out;have d1:=cell_at hS HZ1.out;have d2:=cell_at hS HZ2.out;have d3:=cell_at hS HY0.out;have d4:=cell_at hS HY1.out;have d5:=cell_at hS HY2.out;go_simp;with_reducible rfl)
      refine pu_ ?_ ?_ 8 (some 82) (lb 9 0x1ff) ?_
      refine done_ (by kernel_rfl) ?_
      have HB6:=Aside0.mk (below_then HB.out HB.out.size hHeld)
      clear hHeld
      go_wp2
      go_roundw
      case rel => exact ⟨i + 1,by omega,by go_num,HB6⟩
      case measure => simp [intOf];omega
    · have i2 : ¬ (i : Int) < (SL.length : Int):=by omega
      have HC1:=Aside0.mk (HC.out.below_ HB.out)
      have HR1:=Aside0.mk (HR.out.below_ HB.out)
      have HP1:=Aside0.mk (blk_below HP.out HB.out)
      have HT1:=Aside0.mk (blk_below HT.out HB.out)
      have HG1:=Aside0.mk (HG.out.below_ HB.out)
      have HB1:=Aside0.mk (below_then HBv.out HBv.out.size HB.out)
      clear HC HR HP HT HG HBv HB
      go_wp2
      clear i2
      go_loopw [15] (fun rv wr => ∃ r : Nat,r ≤ g.rules.length ∧ rv = .int .i64 r ∧ Aside0 (Below wi.heap.size wi wr)) (fun rv _ => g.rules.length - (intOf rv).toNat)
      case atStart => exact ⟨0,Nat.zero_le _,rfl,⟨Below.refl _ _⟩⟩
      case round =>
        obtain ⟨r,hr,rfl,HB⟩:=hrel
        rename World => wr_
        have a3 : wr_.cell? ⟨x0,2,none⟩ = some (.slice A3 g.rules.length c3):=(blk_cell (blk_below HP1.out HB.out) 2).trans rfl
        by_cases hgo : r < g.rules.length ∧ l.length ≤ 6
        · obtain ⟨hrl,hl6⟩:=hgo
          have r2 : (r : Int) < (g.rules.length : Int):=by omega
          have r3 : decide ((r : Int) < (g.rules.length : Int)) = true:=decide_eq_true r2
          have l6 : (l.length : Int) ≤ 6:=by omega
          have l7 : decide ((l.length : Int) ≤ 6) = true:=decide_eq_true l6
          obtain ⟨ad,Br,d1,ead,hx,hy,hd1,hC1⟩:=at_rule HG1.out.rules r hrl
          cases ead
          have HY:=Aside0.mk hy
          have hr8:=(goodF_mem HGV.out (g.rules[r]'hrl) (List.getElem_mem _)).2.2.1
          obtain ⟨xr,hxr⟩ : ∃ xr,xr = g.rules[r]'hrl:=⟨_,rfl⟩
          rw [← hxr] at HY hr8
          have HRL:=Aside0.mk hrl
          clear hx hy hC1 hxr hd1
          go_wp2
          clear a3 r3 l6 l7 r2
          go_loopw [16] (fun dv wr => ∃ dd : Nat,dd ≤ xr.right.length + 1 ∧ dv = .int .i64 dd ∧ Aside0 (Below wi.heap.size wi wr)) (fun dv _ => xr.right.length + 1 - (intOf dv).toNat)
          case atStart => exact ⟨0,by omega,rfl,HB⟩
          case round =>
            clear HB
            obtain ⟨dd,hd2,rfl,HB⟩:=hrel
            rename World => wd_
            have a3 : wd_.cell? ⟨x0,2,none⟩ = some (.slice (some ad) g.rules.length c3):=(blk_cell (blk_below HP1.out HB.out) 2).trans rfl
            have ay:=pw_cell_below HB.out HY.out
            have r2 : (r : Int) < (g.rules.length : Int):=by have:=HRL.out;omega
            by_cases hdl : dd ≤ xr.right.length
            · have d2 : (dd : Int) ≤ (xr.right.length : Int):=by omega
              go_wp2
              clear a3 ay d2 r2
              go_loopw [17] (fun iv wr => ∃ i : Nat,i ≤ l.length + 1 ∧ iv = .int .i64 i ∧ Aside0 (Below wi.heap.size wi wr)) (fun iv _ => l.length + 1 - (intOf iv).toNat)
              case atStart => exact ⟨0,Nat.zero_le _,rfl,HB⟩
              case round =>
                clear HB
                obtain ⟨i,hi,rfl,HB⟩:=hrel
                rename World => wq
                by_cases hil : i ≤ l.length
                · have i2 : (i : Int) ≤ (l.length : Int):=by omega
                  go_wp2
                  clear i2
                  go_loopw [18] (fun jv wr => ∃ t : Nat,t ≤ l.length + 1 - i ∧ jv = .int .i64 ((i + t : Nat) : Int) ∧ Aside0 (Below wi.heap.size wi wr)) (fun jv _ => l.length + 1 - (intOf jv).toNat)
                  case atStart => exact ⟨0,Nat.zero_le _,rfl,HB⟩
                  case round =>
                    as_aux_lemma =>
                      clear HB
                      obtain ⟨t,ht,rfl,HB⟩:=hrel
                      rename World => wt
                      by_cases htl : i + t ≤ l.length
                      · have t2 : ((i + t : Nat) : Int) ≤ (l.length : Int):=by omega
                        obtain ⟨j,hj⟩ : ∃ j,j = i + t:=⟨_,rfl⟩
                        rw [← hj] at t2 htl ⊢
                        have HJ:=Lib.hid hj
                        obtain ⟨b0,hb0⟩ : ∃ b0,b0 = wt.heap.size:=⟨_,rfl⟩
                        obtain ⟨w1,hw1⟩ : ∃ w1,w1 = wt.alloc (.cells #[.int .i64 (r : Int),.int .i64 (dd : Int),.int .i64 (i : Int),.int .i64 (j : Int)] 30 (0,0)):=⟨_,rfl⟩
                        have HB1_:=Aside0.mk (show Below wi.heap.size wi w1 from by rw [hw1];exact HB.out.alloc HB.out.size _)
                        have HX1:=Aside0.mk (show w1.heap[b0]? = some (.cells #[.int .i64 (r : Int),.int .i64 (dd : Int),.int .i64 (i : Int),.int .i64 (j : Int)] 30 (0,0)) from by rw [hw1,hb0];exact blk_new wt _)
                        clear hj
                        go_upto_region 31 with (fail)
                        simp only [← hw1]
                        simp only [← hb0]
                        clear hw1 t2 hb0
                        have hbd : (-9223372036854775808 ≤ (r : Int) ∧ (r : Int) ≤ 9223372036854775807) ∧ (-9223372036854775808 ≤ (dd : Int) ∧ (dd : Int) ≤ 9223372036854775807):=by have:=HRL.out;omega
                        obtain ⟨pv,hpv⟩ : ∃ pv,partV g l r dd i j = pv:=⟨_,rfl⟩
                        have HPV:=Lib.hid hpv
                        have hne : (pv != pv) = false:=by cases pv <;> rfl
                        have HCt:=Aside0.mk (HC1.out.below_ HB1_.out)
                        have HRt:=Aside0.mk (HR1.out.below_ HB1_.out)
                        have HBD2:=Aside0.mk hbd
                        clear hpv hbd
                        refine start_ (n:=17) (S:=fun w' => Below w1.heap.size w1 w') (ds:=[]) (lb 17 0x0) (by kernel_rfl) rfl (by kernel_rfl) (below_drew1 (Below.refl _ _)) (fun hHeld => ?_)
                        refine pu_ ?_ ?_ 0 (some 124) (lb 17 0x1) ?_
                        refine pu_ ?_ ?_ 3 (some 127) (lb 17 0x9) ?_
                        refine ta_ ?_ ?_ 1 (some 125) (lb 17 0xb) hHeld ?_ (y:=by rintro w' hS;have d0:=(blk_cell (blk_below HX1.out hS) 0).trans rfl;have d1:=(blk_cell (blk_below HX1.out hS) 1).trans rfl;have d2:=(blk_cell (blk_below HX1.out hS) 2).trans rfl;have d3:=(blk_cell (blk_below HX1.out hS) 3).trans rfl;go_simp;with_reducible rfl)
                        refine ta_ ?_ ?_ 4 (some 128) (lb 17 0x1b) hHeld ?_ (y:=by rintro w' hS;have d0:=(blk_cell (blk_below HX1.out hS) 0).trans rfl;have d1:=(blk_cell (blk_below HX1.out hS) 1).trans rfl;have d2:=(blk_cell (blk_below HX1.out hS) 2).trans rfl;have d3:=(blk_cell (blk_below HX1.out hS) 3).trans rfl;go_simp;with_reducible rfl)
                        refine on_ 2 (some 126) (lb 17 0x1f) (fun K hK => ?_)
                        (refine goesC_ Try.func22 (by kernel_rfl) rfl (by rfl) rfl rfl (partM_c k g l r dd i j _ (HCt.out.below_ hHeld) HBD2.out HPV.out) (by simp [Act.eval]) ?_;rintro e w9 ⟨rfl,hb9⟩;refine ⟨_,rfl,?_⟩;have HQ9:=Aside0.mk (below_then hHeld hHeld.size hb9);clear hb9;refine hK.out _ _ HQ9.out (fun hHeld => ?_))
                        clear hK K
                        refine nm_ ?_ (some 126) ?_
                        refine on_ 5 (some 129) (lb 17 0x3f) (fun K hK => ?_)
                        (refine goesC_ Try.func23 (by kernel_rfl) rfl (by rfl) rfl rfl (partR_c kk g l M lo r dd i j _ (HRt.out.below_ hHeld) HQ.out HGV.out HM.out HPV.out) (by simp [Act.eval]) ?_;rintro e w9 ⟨rfl,hb9⟩;refine ⟨_,rfl,?_⟩;have HQ9:=Aside0.mk (below_then hHeld hHeld.size hb9);clear hb9;refine hK.out _ _ HQ9.out (fun hHeld => ?_))
                        clear hK K
                        refine nm_ ?_ (some 129) ?_
                        refine pu_ ?_ ?_ 6 (some 130) (lb 17 0x7f) ?_
                        refine pu_ ?_ ?_ 7 (some 131) (lb 17 0xff) ?_
                        refine pu_ ?_ ?_ 8 (some 132) (lb 17 0x1ff) ?_
                        refine pu_ ?_ ?_ 11 (some 135) (lb 17 0x9ff) ?_
                        refine ta_ ?_ ?_ 9 (some 133) (lb 17 0xbff) hHeld ?_ (y:=by rintro w' hS;have d0:=(blk_cell (blk_below HX1.out hS) 0).trans rfl;have d1:=(blk_cell (blk_below HX1.out hS) 1).trans rfl;have d2:=(blk_cell (blk_below HX1.out hS) 2).trans rfl;have d3:=(blk_cell (blk_below HX1.out hS) 3).trans rfl;go_simp;with_reducible rfl)
                        refine ta_ ?_ ?_ 12 (some 136) (lb 17 0x1bff) hHeld ?_ (y:=by rintro w' hS;have d0:=(blk_cell (blk_below HX1.out hS) 0).trans rfl;have d1:=(blk_cell (blk_below HX1.out hS) 1).trans rfl;have d2:=(blk_cell (blk_below HX1.out hS) 2).trans rfl;have d3:=(blk_cell (blk_below HX1.out hS) 3).trans rfl;go_simp;with_reducible rfl)
                        refine on_ 10 (some 134) (lb 17 0x1fff) (fun K hK => ?_)
                        (refine goesC_ Try.func24 (by kernel_rfl) rfl (by rfl) rfl rfl (pivM_c k g l r dd i j _ (HCt.out.below_ hHeld) HBD2.out) (by simp [Act.eval]) ?_;rintro e w9 ⟨⟨Ap,cp,rfl,hp1⟩,hb9⟩;refine ⟨_,rfl,?_⟩;have HQ9:=Aside0.mk (below_then hHeld hHeld.size hb9);have HV1_:=Aside0.mk (Kd.R_reads' hp1).2.2;clear hp1;clear hb9;refine hK.out _ _ HQ9.out (fun hHeld => ?_))
                        clear hK K
                        refine nm_ ?_ (some 134) ?_
                        refine on_ 13 (some 137) (lb 17 0x3fff) (fun K hK => ?_)
                        (refine goesC_ Try.func25 (by kernel_rfl) rfl (by rfl) rfl rfl (pivR_c kk g l M lo r dd i j _ (HRt.out.below_ hHeld) HQ.out HGV.out HM.out) (by simp [Act.eval]) ?_;rintro e w9 ⟨⟨Aq,cq,rfl,hp2⟩,hb9⟩;refine ⟨_,rfl,?_⟩;have HQ9:=Aside0.mk (below_then hHeld hHeld.size hb9);have HV2_:=Aside0.mk (Kd.R_reads' hp2).2.2;have HV3_:=Aside0.mk (Kd.C_below HV1_.out hb9);clear hp2;clear hb9;refine hK.out _ _ HQ9.out (fun hHeld => ?_))
                        clear hK K
                        refine nm_ ?_ (some 137) ?_
                        refine on_ 14 (some 138) (lb 17 0x7fff) (fun K hK => ?_)
                        (refine goesC_ Try.func19 (by kernel_rfl) rfl (by rfl) rfl rfl (keepInts_v Ap Aq cp cq _ _ _ _ _ HV3_.out HV2_.out (decide_eq_true rfl)) (by simp [Act.eval]) ?_;rintro e w9 ⟨rfl,hb9⟩;refine ⟨_,rfl,?_⟩;have HQ9:=Aside0.mk (below_then hHeld hHeld.size hb9);clear hb9;refine hK.out _ _ HQ9.out (fun hHeld => ?_))
                        clear hK K
                        refine nm_ ?_ (some 138) ?_
                        refine pu_ ?_ ?_ 15 (some 139) (lb 17 0xffff) ?_
                        refine pu_ ?_ ?_ 16 (some 140) (lb 17 0x1ffff) ?_
                        refine done_ (by kernel_rfl) ?_
                        rename World => w6
                        have HB6:=Aside0.mk (below_then HB1_.out HB1_.out.size hHeld)
                        clear hHeld
                        go_wp2
                        go_roundw
                        case rel => exact ⟨t + 1,by have:=HJ.out;omega,by rw [HJ.out];go_num,HB6⟩
                        case measure => have:=HJ.out;simp [intOf];omega
                      · have t2 : ¬ ((i + t : Nat) : Int) ≤ (l.length : Int):=by omega
                        go_wp2
                        go_roundw
                        case rel => exact ⟨i + 1,by omega,by go_num,HB⟩
                        case measure => simp [intOf];omega
                · have i2 : ¬ (i : Int) ≤ (l.length : Int):=by omega
                  go_wp2
                  go_roundw
                  case rel => exact ⟨dd + 1,by omega,by go_num,HB⟩
                  case measure => simp [intOf];omega
            · have d2 : ¬ (dd : Int) ≤ (xr.right.length : Int):=by omega
              go_wp2
              go_roundw
              case rel => exact ⟨r + 1,by have:=HRL.out;omega,by go_num,HB⟩
              case measure => have:=HRL.out;simp [intOf];omega
        · have hex : (decide ((r : Int) < (g.rules.length : Int)) = false ∧ ¬ (r : Int) < (g.rules.length : Int)) ∨ ((decide ((r : Int) < (g.rules.length : Int)) = true ∧ (r : Int) < (g.rules.length : Int)) ∧ decide ((l.length : Int) ≤ 6) = false ∧ ¬ (l.length : Int) ≤ 6):=by
            by_cases h1 : r < g.rules.length
            · exact .inr ⟨⟨decide_eq_true (by omega),by omega⟩,decide_eq_false (by omega),by omega⟩
            · exact .inl ⟨decide_eq_false (by omega),by omega⟩
          have HC2:=Aside0.mk (HC1.out.below_ HB.out)
          have HR2:=Aside0.mk (HR1.out.below_ HB.out)
          have HT2:=Aside0.mk (blk_below HT1.out HB.out)
          have HB2:=Aside0.mk (below_then HB1.out HB1.out.size HB.out)
          have HLD : Aside0 (∀ w' : World,Below wr_.heap.size wr_ w' → w'.cell? ⟨(x0 + 1),0,none⟩ = some (.int .i64 xa) ∧ w'.cell? ⟨(x0 + 1),1,none⟩ = some (.int .i64 xb) ∧ w'.cell? ⟨(x0 + 1),2,none⟩ = some (.int .i64 xc) ∧ w'.cell? ⟨(x0 + 1),3,none⟩ = some (.int .i64 xd) ∧ w'.cell? ⟨(x0 + 1),4,none⟩ = some (.int .i64 xe) ∧ w'.cell? ⟨(x0 + 1),5,none⟩ = some (.int .i64 xf) ∧ w'.cell? ⟨(x0 + 1),6,none⟩ = some (.int .i64 xg)):=⟨fun w' h => ⟨(blk_cell (blk_below HT2.out h) 0).trans rfl,(blk_cell (blk_below HT2.out h) 1).trans rfl,(blk_cell (blk_below HT2.out h) 2).trans rfl,(blk_cell (blk_below HT2.out h) 3).trans rfl,(blk_cell (blk_below HT2.out h) 4).trans rfl,(blk_cell (blk_below HT2.out h) 5).trans rfl,(blk_cell (blk_below HT2.out h) 6).trans rfl⟩⟩
          obtain ⟨sv,hsv⟩ : ∃ sv,symV g l xa xb xc = sv:=⟨_,rfl⟩
          obtain ⟨pv,hpv⟩ : ∃ pv,partV g l xd xe xf xg = pv:=⟨_,rfl⟩
          have HSV:=Lib.hid hsv
          have HSW:=Lib.hid ((HM.out.sym xa xb xc).trans hsv)
          have HPV:=Lib.hid hpv
          have n1 : (sv == sv) = true:=by cases sv <;> rfl
          have n2 : (pv == pv) = true:=by cases pv <;> rfl
          clear hgo hsv hpv
          rcases hex with ⟨h1,h2⟩ | ⟨⟨h1,h2⟩,h3,h4⟩ <;> go_upto_region 33 with (fail)
          all_goals
            refine start_ (n:=35) (S:=fun w' => Below wr_.heap.size wr_ w') (ds:=[]) (lb 35 0x0) (by kernel_rfl) rfl (by kernel_rfl) (below_drew1 (Below.refl _ _)) (fun hHeld => ?_)
            refine pu_ ?_ ?_ 0 (some 141) (lb 35 0x1) ?_
            refine pu_ ?_ ?_ 1 (some 142) (lb 35 0x3) ?_
            refine pu_ ?_ ?_ 4 (some 145) (lb 35 0x13) ?_
            refine pu_ ?_ ?_ 5 (some 146) (lb 35 0x33) ?_
            refine ta_ ?_ ?_ 2 (some 143) (lb 35 0x37) hHeld ?_ (y:=by rintro w' hS;obtain ⟨d0,d1,d2,d3,d4,d5,d6⟩:=HLD.out w' hS;go_simp;with_reducible rfl)
            refine ta_ ?_ ?_ 6 (some 147) (lb 35 0x77) hHeld ?_ (y:=by rintro w' hS;obtain ⟨d0,d1,d2,d3,d4,d5,d6⟩:=HLD.out w' hS;go_simp;with_reducible rfl)
            refine on_ 3 (some 144) (lb 35 0x7f) (fun K hK => ?_)
            (refine goesC_ Try.func26 (by kernel_rfl) rfl (by rfl) rfl rfl (symM_c k g l xa xb xc _ (HC2.out.below_ hHeld) HXA.out HSV.out) (by simp [Act.eval]) ?_;rintro e w9 ⟨rfl,hb9⟩;refine ⟨_,rfl,?_⟩;have HQ9:=Aside0.mk (below_then hHeld hHeld.size hb9);clear hb9;refine hK.out _ _ HQ9.out (fun hHeld => ?_))
            clear hK K
            refine nm_ ?_ (some 144) ?_
            refine on_ 7 (some 148) (lb 35 0xff) (fun K hK => ?_)
            (refine goesC_ Try.func27 (by kernel_rfl) rfl (by rfl) rfl rfl (symR_c kk g l M lo xa xb xc _ (HR2.out.below_ hHeld) HQ.out HSW.out) (by simp [Act.eval]) ?_;rintro e w9 ⟨rfl,hb9⟩;refine ⟨_,rfl,?_⟩;have HQ9:=Aside0.mk (below_then hHeld hHeld.size hb9);clear hb9;refine hK.out _ _ HQ9.out (fun hHeld => ?_))
            clear hK K
            refine nm_ ?_ (some 148) ?_
            refine pu_ ?_ ?_ 8 (some 149) (lb 35 0x1ff) ?_
            refine pu_ ?_ ?_ 9 (some 150) (lb 35 0x3ff) ?_
            refine pu_ ?_ ?_ 10 (some 151) (lb 35 0x7ff) ?_
            refine pu_ ?_ ?_ 11 (some 152) (lb 35 0xfff) ?_
            refine pu_ ?_ ?_ 14 (some 155) (lb 35 0x4fff) ?_
            refine pu_ ?_ ?_ 15 (some 156) (lb 35 0xcfff) ?_
            refine ta_ ?_ ?_ 12 (some 153) (lb 35 0xdfff) hHeld ?_ (y:=by rintro w' hS;obtain ⟨d0,d1,d2,d3,d4,d5,d6⟩:=HLD.out w' hS;go_simp;with_reducible rfl)
            refine ta_ ?_ ?_ 16 (some 157) (lb 35 0x1dfff) hHeld ?_ (y:=by rintro w' hS;obtain ⟨d0,d1,d2,d3,d4,d5,d6⟩:=HLD.out w' hS;go_simp;with_reducible rfl)
            refine on_ 13 (some 154) (lb 35 0x1ffff) (fun K hK => ?_)
            (refine goesC_ Try.func22 (by kernel_rfl) rfl (by rfl) rfl rfl (partM_c k g l xd xe xf xg _ (HC2.out.below_ hHeld) HXD.out HPV.out) (by simp [Act.eval]) ?_;rintro e w9 ⟨rfl,hb9⟩;refine ⟨_,rfl,?_⟩;have HQ9:=Aside0.mk (below_then hHeld hHeld.size hb9);clear hb9;refine hK.out _ _ HQ9.out (fun hHeld => ?_))
            clear hK K
            refine nm_ ?_ (some 154) ?_
            refine on_ 17 (some 158) (lb 35 0x3ffff) (fun K hK => ?_)
            (refine goesC_ Try.func23 (by kernel_rfl) rfl (by rfl) rfl rfl (partR_c kk g l M lo xd xe xf xg _ (HR2.out.below_ hHeld) HQ.out HGV.out HM.out HPV.out) (by simp [Act.eval]) ?_;rintro e w9 ⟨rfl,hb9⟩;refine ⟨_,rfl,?_⟩;have HQ9:=Aside0.mk (below_then hHeld hHeld.size hb9);clear hb9;refine hK.out _ _ HQ9.out (fun hHeld => ?_))
            clear hK K
            refine nm_ ?_ (some 158) ?_
            refine pu_ ?_ ?_ 18 (some 159) (lb 35 0x7ffff) ?_
            refine pu_ ?_ ?_ 19 (some 160) (lb 35 0xfffff) ?_
            refine pu_ ?_ ?_ 20 (some 161) (lb 35 0x1fffff) ?_
            refine pu_ ?_ ?_ 21 (some 162) (lb 35 0x3fffff) ?_
            refine pu_ ?_ ?_ 22 (some 163) (lb 35 0x7fffff) ?_
            refine pu_ ?_ ?_ 25 (some 166) (lb 35 0x27fffff) ?_
            refine pu_ ?_ ?_ 26 (some 167) (lb 35 0x67fffff) ?_
            refine ta_ ?_ ?_ 23 (some 164) (lb 35 0x6ffffff) hHeld ?_ (y:=by rintro w' hS;obtain ⟨d0,d1,d2,d3,d4,d5,d6⟩:=HLD.out w' hS;go_simp;with_reducible rfl)
            refine ta_ ?_ ?_ 27 (some 168) (lb 35 0xeffffff) hHeld ?_ (y:=by rintro w' hS;obtain ⟨d0,d1,d2,d3,d4,d5,d6⟩:=HLD.out w' hS;go_simp;with_reducible rfl)
            refine on_ 24 (some 165) (lb 35 0xfffffff) (fun K hK => ?_)
            (refine goesC_ Try.func24 (by kernel_rfl) rfl (by rfl) rfl rfl (pivM_c k g l xd xe xf xg _ (HC2.out.below_ hHeld) HXD.out) (by simp [Act.eval]) ?_;rintro e w9 ⟨⟨Ap,cp,rfl,hp1⟩,hb9⟩;refine ⟨_,rfl,?_⟩;have HQ9:=Aside0.mk (below_then hHeld hHeld.size hb9);have HV1_:=Aside0.mk (Kd.R_reads' hp1).2.2;clear hp1;clear hb9;refine hK.out _ _ HQ9.out (fun hHeld => ?_))
            clear hK K
            refine nm_ ?_ (some 165) ?_
            refine on_ 28 (some 169) (lb 35 0x1fffffff) (fun K hK => ?_)
            (refine goesC_ Try.func25 (by kernel_rfl) rfl (by rfl) rfl rfl (pivR_c kk g l M lo xd xe xf xg _ (HR2.out.below_ hHeld) HQ.out HGV.out HM.out) (by simp [Act.eval]) ?_;rintro e w9 ⟨⟨Aq,cq,rfl,hp2⟩,hb9⟩;refine ⟨_,rfl,?_⟩;have HQ9:=Aside0.mk (below_then hHeld hHeld.size hb9);have HV2_:=Aside0.mk (Kd.R_reads' hp2).2.2;have HV3_:=Aside0.mk (Kd.C_below HV1_.out hb9);clear hp2;clear hb9;refine hK.out _ _ HQ9.out (fun hHeld => ?_))
            clear hK K
            refine nm_ ?_ (some 169) ?_
            refine on_ 29 (some 170) (lb 35 0x3fffffff) (fun K hK => ?_)
            (refine goesC_ Try.func19 (by kernel_rfl) rfl (by rfl) rfl rfl (keepInts_v Ap Aq cp cq _ _ _ _ _ HV3_.out HV2_.out (decide_eq_true rfl)) (by simp [Act.eval]) ?_;rintro e w9 ⟨rfl,hb9⟩;refine ⟨_,rfl,?_⟩;have HQ9:=Aside0.mk (below_then hHeld hHeld.size hb9);clear hb9;refine hK.out _ _ HQ9.out (fun hHeld => ?_))
            clear hK K
            refine nm_ ?_ (some 170) ?_
            refine pu_ ?_ ?_ 30 (some 171) (lb 35 0x7fffffff) ?_
            refine pu_ ?_ ?_ 31 (some 172) (lb 35 0xffffffff) ?_
            refine on_ 32 (some 173) (lb 35 0x1ffffffff) (fun K hK => ?_)
            (refine goesC_ Try.func16 (by kernel_rfl) rfl (by rfl) rfl rfl (wakes24_c _) (by simp [Act.eval]) ?_;rintro e w9 ⟨rfl,hb9⟩;refine ⟨_,rfl,?_⟩;have HQ9:=Aside0.mk (below_then hHeld hHeld.size hb9);clear hb9;refine hK.out _ _ HQ9.out (fun hHeld => ?_))
            clear hK K
            refine nm_ ?_ (some 173) ?_
            refine pu_ ?_ ?_ 33 (some 174) (lb 35 0x3ffffffff) ?_
            refine pu_ ?_ ?_ 34 (some 6) (lb 35 0x7ffffffff) ?_
            refine done_ (by kernel_rfl) ?_
            go_wp2
            go_ret
            exact ⟨rfl,below_then HB2.out HB2.out.size hHeld⟩
end Go.Proofs.Ytmkgcjhimajgiaa.Fast

