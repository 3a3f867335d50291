/- The law UsefulMore,walked: it answers true. -/
import Derived.Test.YtphmmppmhphgeaaJV
import Derived.Test.YtphmmppmhphgeaaJZ
import Derived.Test.YtphmmppmhphgeaaX5j
set_option linter.unusedVariables false
set_option linter.unusedSimpArgs false
namespace Go.Proofs.Ytphmmppmhphgeaa
open Go.RowKit Go.Proofs.YtphmmppmhphgeaaW.PrintWords Go.Proofs.YtphmmppmhphgeaaW.PrintLast

abbrev kU8m : Kd Int:=Kd.int .u8
def modM (n : Int) (l : List Int) : List Int:=l.map (· % n)
theorem modM_take {n : Int} {l : List Int} {k : Nat} (h : k < l.length) : modM n (l.take (k + 1)) = modM n (l.take k) ++ [(l[k]'h) % n]:=by
  rw [modM,List.take_succ_eq_append_getElem h,List.map_append];rfl
theorem modM_len (n : Int) (l : List Int) : (modM n l).length = l.length:=by simp [modM]
def allP (m : List Bool) (s : Nat) : Bool:=(List.range s).all fun t => getB m (t : Int)
theorem allP_next (m : List Bool) (s : Nat) : allP m (s + 1) = (allP m s && getB m (s : Int)):=by simp [allP,List.range_succ,List.all_append]
theorem allP_all {m : List Bool} {n : Nat} (h : allP m n = true) : ∀ s : Nat,s < n → getB m (s : Int) = true:=by
  rw [allP,List.all_eq_true] at h
  exact fun s hs => h s (List.mem_range.2 hs)
theorem good1_3m (ts ns : List ByteArray) (rs : List Rule) (A1 A2 A3 : Option Addr) (c1 c2 c3 : Nat) (w : World) (hg : RepG w ⟨ts,ns,rs⟩ A1 A2 A3 c1 c2 c3) (hz : Sized ⟨ts,ns,rs⟩) {v : Bool} (hv : goodF ⟨ts,ns,rs⟩ = v) :
    Calls Try.prog 24 #[.agg #[.slice A1 ts.length c1,.slice A2 ns.length c2,.slice A3 rs.length c3]] w fun e w' => e = .returned (.bool v) ∧ Below w.heap.size w w':=good1_v ⟨ts,ns,rs⟩ A1 A2 A3 c1 c2 c3 w hg hz hv
theorem reach_3 (ts ns : List ByteArray) (rs : List Rule) (A1 A2 A3 : Option Addr) (c1 c2 c3 : Nat) (a : Int) (w : World) (hg : RepG w ⟨ts,ns,rs⟩ A1 A2 A3 c1 c2 c3) (hgd : goodF ⟨ts,ns,rs⟩ = true) {n : Nat} (hn : nsym ⟨ts,ns,rs⟩ = n) (h0 : 0 ≤ a) (h1 : a < n) :
    Calls Try.prog 38 #[.agg #[.slice A1 ts.length c1,.slice A2 ns.length c2,.slice A3 rs.length c3],.int .i64 a] w fun e w' => AnsB w n (reachF ⟨ts,ns,rs⟩ allOk a) e w' ∧ Below w.heap.size w w':=reachU_yes ⟨ts,ns,rs⟩ A1 A2 A3 c1 c2 c3 a w hg hgd hn h0 h1
theorem prod_3 (ts ns : List ByteArray) (rs : List Rule) (A1 A2 A3 : Option Addr) (c1 c2 c3 : Nat) (w : World) (hg : RepG w ⟨ts,ns,rs⟩ A1 A2 A3 c1 c2 c3) (hgd : goodF ⟨ts,ns,rs⟩ = true) {n : Nat} (hn : nsym ⟨ts,ns,rs⟩ = n) :
    Calls Try.prog 40 #[.agg #[.slice A1 ts.length c1,.slice A2 ns.length c2,.slice A3 rs.length c3]] w fun e w' => AnsB w n (prodF ⟨ts,ns,rs⟩) e w' ∧ Below w.heap.size w w':=prod_yes ⟨ts,ns,rs⟩ A1 A2 A3 c1 c2 c3 w hg hgd hn
theorem useful_3 (ts ns : List ByteArray) (rs : List Rule) (A1 A2 A3 : Option Addr) (c1 c2 c3 : Nat) (w : World) (hg : RepG w ⟨ts,ns,rs⟩ A1 A2 A3 c1 c2 c3) (hgd : goodF ⟨ts,ns,rs⟩ = true) {n : Nat} (hn : nsym ⟨ts,ns,rs⟩ = n) :
    Calls Try.prog 42 #[.agg #[.slice A1 ts.length c1,.slice A2 ns.length c2,.slice A3 rs.length c3]] w fun e w' => AnsB w n (usefulF ⟨ts,ns,rs⟩) e w' ∧ Below w.heap.size w w':=useful_yes ⟨ts,ns,rs⟩ A1 A2 A3 c1 c2 c3 w hg hgd hn
set_option maxRecDepth 100000 in
set_option maxHeartbeats 16000000 in
theorem usefulMore_c (g : Gram) (A1 A2 A3 : Option Addr) (c1 c2 c3 : Nat) (lft : Int) (L : Option Addr) (cl : Nat) (l : List Int) (w : World) (hg : RepG w g A1 A2 A3 c1 c2 c3) (hz : Sized g) (hlf : 0 ≤ lft ∧ lft ≤ 255) (hl : kU8m.C w L l.length l) (hlb : ∀ x ∈ l,0 ≤ x ∧ x ≤ 255) :
    Calls Try.prog 14 #[.agg #[.slice A1 g.terms.length c1,.slice A2 g.names.length c2,.slice A3 g.rules.length c3],.int .u8 lft,.slice L l.length cl] w fun e w' => e = .returned (.bool true) ∧ Below w.heap.size w w':=by
  obtain ⟨v0,hv0⟩ : ∃ v0 : World,v0 = w.alloc (.cells #[.slice A1 g.terms.length c1,.slice A2 g.names.length c2,.slice A3 g.rules.length c3] 25 (0,0)):=⟨_,rfl⟩
  have HB0 : Aside0 (Below w.heap.size w v0):=⟨by rw [hv0];exact (Below.refl w.heap.size w).alloc (Nat.le_refl _) _⟩
  have HP0 : Aside0 (v0.heap[w.heap.size]? = some (.cells #[.slice A1 g.terms.length c1,.slice A2 g.names.length c2,.slice A3 g.rules.length c3] 25 (0,0))):=⟨by rw [hv0];exact blk_new w _⟩
  have HG0:=Aside0.mk (hg.below_ HB0.out)
  have HL0:=Aside0.mk (Kd.C_below hl HB0.out)
  have HLB:=Aside0.mk hlb
  have HZ:=Aside0.mk hz
  have hlm:=C_max hl
  have hrm:=C_max hg.rules
  clear hg hz hl hlb
  go_enter Try.func14,Try.ntmps14
  go_upto_region 1 with (fail)
  simp only [← hv0]
  clear hv0
  refine pl_start ?_
  refine pl_held (B:=v0.heap.size) (v:=v0) (Below.refl _ _) (fun hHeld => ?_)
  refine pl_pure (N:=(some 20)) (v:=?v43) (by rfl) rfl ?h43 ?_
  case h43 => (have d0:=(blk_cell (blk_below HP0.out hHeld) 0).trans rfl;have d1:=(blk_cell (blk_below HP0.out hHeld) 1).trans rfl;have d2:=(blk_cell (blk_below HP0.out hHeld) 2).trans rfl;go_simp;rfl)
  simp only [Act.put,List.setIfInBounds_toArray,List.set_cons_zero,List.set_cons_succ]
  refine goesCL_ (N:=(some 21)) Try.func15 (by kernel_rfl) rfl (by rfl) rfl rfl (large_c g A1 A2 A3 c1 c2 c3 _ (HG0.out.below_ hHeld)) (by simp [Act.eval]) ?_
  rintro e x1_1 ⟨⟨lb,rfl,hs⟩,hb1_1⟩
  refine ⟨_,rfl,?_⟩
  simp only [Act.put,List.setIfInBounds_toArray,List.set_cons_zero,List.set_cons_succ]
  have HS:=Aside0.mk hs
  clear hs
  refine pl_held (B:=v0.heap.size) (v:=v0) (below_then hHeld hHeld.size hb1_1) (fun hHeld => ?_)
  have HX1:=Aside0.mk hHeld
  cases lb
  · have HS1:=Aside0.mk (HS.out rfl)
    cases hgd : goodF g
    · refine pl_pure (N:=(some 22)) (v:=?v45) (by rfl) rfl ?h45 ?_
      case h45 => (go_simp;rfl)
      simp only [Act.put,List.setIfInBounds_toArray,List.set_cons_zero,List.set_cons_succ]
      refine pl_pure (N:=(some 23)) (v:=?v46) (by rfl) rfl ?h46 ?_
      case h46 => (have d0:=(blk_cell (blk_below HP0.out hHeld) 0).trans rfl;have d1:=(blk_cell (blk_below HP0.out hHeld) 1).trans rfl;have d2:=(blk_cell (blk_below HP0.out hHeld) 2).trans rfl;go_simp;rfl)
      simp only [Act.put,List.setIfInBounds_toArray,List.set_cons_zero,List.set_cons_succ]
      refine goesCL_ (N:=(some 24)) Try.func24 (by kernel_rfl) rfl (by rfl) rfl rfl (good1_v g A1 A2 A3 c1 c2 c3 _ (HG0.out.below_ hHeld) HZ.out hgd) (by simp [Act.eval]) ?_
      rintro e x1_4 ⟨rfl,hb1_4⟩
      refine ⟨_,rfl,?_⟩
      simp only [Act.put,List.setIfInBounds_toArray,List.set_cons_zero,List.set_cons_succ]
      refine pl_held (B:=v0.heap.size) (v:=v0) (below_then hHeld hHeld.size hb1_4) (fun hHeld => ?_)
      refine pl_pure (N:=(some 25)) (v:=?v48) (by rfl) rfl ?h48 ?_
      case h48 => (go_simp;rfl)
      simp only [Act.put,List.setIfInBounds_toArray,List.set_cons_zero,List.set_cons_succ]
      refine pl_pure (N:=(some 26)) (v:=?v49) (by rfl) rfl ?h49 ?_
      case h49 => (go_simp;rfl)
      simp only [Act.put,List.setIfInBounds_toArray,List.set_cons_zero,List.set_cons_succ]
      refine pl_pure (N:=(some 27)) (v:=?v50) (by rfl) rfl ?h50 ?_
      case h50 => (go_simp;rfl)
      simp only [Act.put,List.setIfInBounds_toArray,List.set_cons_zero,List.set_cons_succ]
      refine pl_off (N:=(some 28)) (by rfl) rfl ?_
      simp only [Act.put,List.setIfInBounds_toArray,List.set_cons_zero,List.set_cons_succ]
      refine pl_off (N:=(some 29)) (by rfl) rfl ?_
      simp only [Act.put,List.setIfInBounds_toArray,List.set_cons_zero,List.set_cons_succ]
      refine pl_off (N:=(some 30)) (by rfl) rfl ?_
      simp only [Act.put,List.setIfInBounds_toArray,List.set_cons_zero,List.set_cons_succ]
      refine pl_pure (N:=(some 31)) (v:=?v54) (by rfl) rfl ?h54 ?_
      case h54 => (go_simp;rfl)
      simp only [Act.put,List.setIfInBounds_toArray,List.set_cons_zero,List.set_cons_succ]
      refine pl_pure (N:=(some 32)) (v:=?v55) (by rfl) rfl ?h55 ?_
      case h55 => (go_simp;rfl)
      simp only [Act.put,List.setIfInBounds_toArray,List.set_cons_zero,List.set_cons_succ]
      refine pl_off (N:=(some 33)) (by rfl) rfl ?_
      simp only [Act.put,List.setIfInBounds_toArray,List.set_cons_zero,List.set_cons_succ]
      refine pl_off (N:=(some 34)) (by rfl) rfl ?_
      simp only [Act.put,List.setIfInBounds_toArray,List.set_cons_zero,List.set_cons_succ]
      refine pl_off (N:=(some 35)) (by rfl) rfl ?_
      simp only [Act.put,List.setIfInBounds_toArray,List.set_cons_zero,List.set_cons_succ]
      refine pl_off (N:=(some 36)) (by rfl) rfl ?_
      simp only [Act.put,List.setIfInBounds_toArray,List.set_cons_zero,List.set_cons_succ]
      refine pl_pure (N:=(some 37)) (v:=?v60) (by rfl) rfl ?h60 ?_
      case h60 => (go_simp;rfl)
      simp only [Act.put,List.setIfInBounds_toArray,List.set_cons_zero,List.set_cons_succ]
      refine pl_nil ?_
      go_upto_region 2 with (fail)
      refine pl_start ?_
      refine pl_held (B:=v0.heap.size) (v:=v0) (below_then HX1.out HX1.out.size hb1_4) (fun hHeld => ?_)
      refine goesCL_ (N:=(some 38)) Try.func37 (by kernel_rfl) rfl (by rfl) rfl rfl (wakes07_c _) (by simp [Act.eval]) ?_
      rintro e x2_0 ⟨rfl,hb2_0⟩
      refine ⟨_,rfl,?_⟩
      simp only [Act.put,List.setIfInBounds_toArray,List.set_cons_zero,List.set_cons_succ]
      refine pl_held (B:=v0.heap.size) (v:=v0) (below_then hHeld hHeld.size hb2_0) (fun hHeld => ?_)
      refine pl_pure (N:=(some 6)) (v:=?v2) (by rfl) rfl ?h2 ?_
      case h2 => (go_simp;rfl)
      simp only [Act.put,List.setIfInBounds_toArray,List.set_cons_zero,List.set_cons_succ]
      refine pl_nil ?_
      go_wp2
      go_ret
      exact ⟨ret_bool rfl,below_then HB0.out HB0.out.size hHeld⟩
    · by_cases hl8 : 8 < l.length
      · have d1 : decide ((8 : Int) < (l.length : Int)) = true:=by simp;omega
        refine pl_pure (N:=(some 22)) (v:=?v61) (by rfl) rfl ?h61 ?_
        case h61 => (go_simp;rfl)
        simp only [Act.put,List.setIfInBounds_toArray,List.set_cons_zero,List.set_cons_succ]
        refine pl_pure (N:=(some 23)) (v:=?v62) (by rfl) rfl ?h62 ?_
        case h62 => (have d0:=(blk_cell (blk_below HP0.out hHeld) 0).trans rfl;have d1:=(blk_cell (blk_below HP0.out hHeld) 1).trans rfl;have d2:=(blk_cell (blk_below HP0.out hHeld) 2).trans rfl;go_simp;rfl)
        simp only [Act.put,List.setIfInBounds_toArray,List.set_cons_zero,List.set_cons_succ]
        refine goesCL_ (N:=(some 24)) Try.func24 (by kernel_rfl) rfl (by rfl) rfl rfl (good1_v g A1 A2 A3 c1 c2 c3 _ (HG0.out.below_ hHeld) HZ.out hgd) (by simp [Act.eval]) ?_
        rintro e x1_4 ⟨rfl,hb1_4⟩
        refine ⟨_,rfl,?_⟩
        simp only [Act.put,List.setIfInBounds_toArray,List.set_cons_zero,List.set_cons_succ]
        refine pl_held (B:=v0.heap.size) (v:=v0) (below_then hHeld hHeld.size hb1_4) (fun hHeld => ?_)
        refine pl_pure (N:=(some 25)) (v:=?v64) (by rfl) rfl ?h64 ?_
        case h64 => (go_simp;rfl)
        simp only [Act.put,List.setIfInBounds_toArray,List.set_cons_zero,List.set_cons_succ]
        refine pl_pure (N:=(some 26)) (v:=?v65) (by rfl) rfl ?h65 ?_
        case h65 => (go_simp;rfl)
        simp only [Act.put,List.setIfInBounds_toArray,List.set_cons_zero,List.set_cons_succ]
        refine pl_pure (N:=(some 27)) (v:=?v66) (by rfl) rfl ?h66 ?_
        case h66 => (go_simp;rfl)
        simp only [Act.put,List.setIfInBounds_toArray,List.set_cons_zero,List.set_cons_succ]
        refine pl_pure (N:=(some 28)) (v:=?v67) (by rfl) rfl ?h67 ?_
        case h67 => (go_simp;rfl)
        simp only [Act.put,List.setIfInBounds_toArray,List.set_cons_zero,List.set_cons_succ]
        refine pl_pure (N:=(some 29)) (v:=?v68) (by rfl) rfl ?h68 ?_
        case h68 => (go_simp;rfl)
        simp only [Act.put,List.setIfInBounds_toArray,List.set_cons_zero,List.set_cons_succ]
        refine pl_pure (N:=(some 30)) (v:=?v69) (by rfl) rfl ?h69 ?_
        case h69 => (go_simp;rfl)
        simp only [Act.put,List.setIfInBounds_toArray,List.set_cons_zero,List.set_cons_succ]
        refine pl_pure (N:=(some 31)) (v:=?v70) (by rfl) rfl ?h70 ?_
        case h70 => (go_simp;rfl)
        simp only [Act.put,List.setIfInBounds_toArray,List.set_cons_zero,List.set_cons_succ]
        refine pl_pure (N:=(some 32)) (v:=?v71) (by rfl) rfl ?h71 ?_
        case h71 => (go_simp;rfl)
        simp only [Act.put,List.setIfInBounds_toArray,List.set_cons_zero,List.set_cons_succ]
        refine pl_off (N:=(some 33)) (by rfl) rfl ?_
        simp only [Act.put,List.setIfInBounds_toArray,List.set_cons_zero,List.set_cons_succ]
        refine pl_off (N:=(some 34)) (by rfl) rfl ?_
        simp only [Act.put,List.setIfInBounds_toArray,List.set_cons_zero,List.set_cons_succ]
        refine pl_off (N:=(some 35)) (by rfl) rfl ?_
        simp only [Act.put,List.setIfInBounds_toArray,List.set_cons_zero,List.set_cons_succ]
        refine pl_off (N:=(some 36)) (by rfl) rfl ?_
        simp only [Act.put,List.setIfInBounds_toArray,List.set_cons_zero,List.set_cons_succ]
        refine pl_pure (N:=(some 37)) (v:=?v76) (by rfl) rfl ?h76 ?_
        case h76 => (go_simp;rfl)
        simp only [Act.put,List.setIfInBounds_toArray,List.set_cons_zero,List.set_cons_succ]
        refine pl_nil ?_
        go_upto_region 2 with (fail)
        refine pl_start ?_
        refine pl_held (B:=v0.heap.size) (v:=v0) (below_then HX1.out HX1.out.size hb1_4) (fun hHeld => ?_)
        refine goesCL_ (N:=(some 38)) Try.func37 (by kernel_rfl) rfl (by rfl) rfl rfl (wakes07_c _) (by simp [Act.eval]) ?_
        rintro e x2_0 ⟨rfl,hb2_0⟩
        refine ⟨_,rfl,?_⟩
        simp only [Act.put,List.setIfInBounds_toArray,List.set_cons_zero,List.set_cons_succ]
        refine pl_held (B:=v0.heap.size) (v:=v0) (below_then hHeld hHeld.size hb2_0) (fun hHeld => ?_)
        refine pl_pure (N:=(some 6)) (v:=?v4) (by rfl) rfl ?h4 ?_
        case h4 => (go_simp;rfl)
        simp only [Act.put,List.setIfInBounds_toArray,List.set_cons_zero,List.set_cons_succ]
        refine pl_nil ?_
        go_wp2
        go_ret
        exact ⟨ret_bool rfl,below_then HB0.out HB0.out.size hHeld⟩
      · have d1 : decide ((8 : Int) < (l.length : Int)) = false:=by simp;omega
        by_cases hr60 : 60 ≤ g.rules.length
        · have d2 : decide ((60 : Int) ≤ (g.rules.length : Int)) = true:=by simp;omega
          refine pl_pure (N:=(some 22)) (v:=?v77) (by rfl) rfl ?h77 ?_
          case h77 => (go_simp;rfl)
          simp only [Act.put,List.setIfInBounds_toArray,List.set_cons_zero,List.set_cons_succ]
          refine pl_pure (N:=(some 23)) (v:=?v78) (by rfl) rfl ?h78 ?_
          case h78 => (have d0:=(blk_cell (blk_below HP0.out hHeld) 0).trans rfl;have d1:=(blk_cell (blk_below HP0.out hHeld) 1).trans rfl;have d2:=(blk_cell (blk_below HP0.out hHeld) 2).trans rfl;go_simp;rfl)
          simp only [Act.put,List.setIfInBounds_toArray,List.set_cons_zero,List.set_cons_succ]
          refine goesCL_ (N:=(some 24)) Try.func24 (by kernel_rfl) rfl (by rfl) rfl rfl (good1_v g A1 A2 A3 c1 c2 c3 _ (HG0.out.below_ hHeld) HZ.out hgd) (by simp [Act.eval]) ?_
          rintro e x1_4 ⟨rfl,hb1_4⟩
          refine ⟨_,rfl,?_⟩
          simp only [Act.put,List.setIfInBounds_toArray,List.set_cons_zero,List.set_cons_succ]
          refine pl_held (B:=v0.heap.size) (v:=v0) (below_then hHeld hHeld.size hb1_4) (fun hHeld => ?_)
          refine pl_pure (N:=(some 25)) (v:=?v80) (by rfl) rfl ?h80 ?_
          case h80 => (go_simp;rfl)
          simp only [Act.put,List.setIfInBounds_toArray,List.set_cons_zero,List.set_cons_succ]
          refine pl_pure (N:=(some 26)) (v:=?v81) (by rfl) rfl ?h81 ?_
          case h81 => (go_simp;rfl)
          simp only [Act.put,List.setIfInBounds_toArray,List.set_cons_zero,List.set_cons_succ]
          refine pl_pure (N:=(some 27)) (v:=?v82) (by rfl) rfl ?h82 ?_
          case h82 => (go_simp;rfl)
          simp only [Act.put,List.setIfInBounds_toArray,List.set_cons_zero,List.set_cons_succ]
          refine pl_pure (N:=(some 28)) (v:=?v83) (by rfl) rfl ?h83 ?_
          case h83 => (go_simp;rfl)
          simp only [Act.put,List.setIfInBounds_toArray,List.set_cons_zero,List.set_cons_succ]
          refine pl_pure (N:=(some 29)) (v:=?v84) (by rfl) rfl ?h84 ?_
          case h84 => (go_simp;rfl)
          simp only [Act.put,List.setIfInBounds_toArray,List.set_cons_zero,List.set_cons_succ]
          refine pl_pure (N:=(some 30)) (v:=?v85) (by rfl) rfl ?h85 ?_
          case h85 => (go_simp;rfl)
          simp only [Act.put,List.setIfInBounds_toArray,List.set_cons_zero,List.set_cons_succ]
          refine pl_pure (N:=(some 31)) (v:=?v86) (by rfl) rfl ?h86 ?_
          case h86 => (go_simp;rfl)
          simp only [Act.put,List.setIfInBounds_toArray,List.set_cons_zero,List.set_cons_succ]
          refine pl_pure (N:=(some 32)) (v:=?v87) (by rfl) rfl ?h87 ?_
          case h87 => (go_simp;rfl)
          simp only [Act.put,List.setIfInBounds_toArray,List.set_cons_zero,List.set_cons_succ]
          refine pl_pure (N:=(some 33)) (v:=?v88) (by rfl) rfl ?h88 ?_
          case h88 => (go_simp;rfl)
          simp only [Act.put,List.setIfInBounds_toArray,List.set_cons_zero,List.set_cons_succ]
          refine pl_pure (N:=(some 34)) (v:=?v89) (by rfl) rfl ?h89 ?_
          case h89 => (have d0:=(blk_cell (blk_below HP0.out hHeld) 0).trans rfl;have d1:=(blk_cell (blk_below HP0.out hHeld) 1).trans rfl;have d2:=(blk_cell (blk_below HP0.out hHeld) 2).trans rfl;go_simp;rfl)
          simp only [Act.put,List.setIfInBounds_toArray,List.set_cons_zero,List.set_cons_succ]
          refine pl_pure (N:=(some 35)) (v:=?v90) (by rfl) rfl ?h90 ?_
          case h90 => (go_simp;rfl)
          simp only [Act.put,List.setIfInBounds_toArray,List.set_cons_zero,List.set_cons_succ]
          refine pl_pure (N:=(some 36)) (v:=?v91) (by rfl) rfl ?h91 ?_
          case h91 => (go_simp;rfl)
          simp only [Act.put,List.setIfInBounds_toArray,List.set_cons_zero,List.set_cons_succ]
          refine pl_pure (N:=(some 37)) (v:=?v92) (by rfl) rfl ?h92 ?_
          case h92 => (go_simp;rfl)
          simp only [Act.put,List.setIfInBounds_toArray,List.set_cons_zero,List.set_cons_succ]
          refine pl_nil ?_
          go_upto_region 2 with (fail)
          refine pl_start ?_
          refine pl_held (B:=v0.heap.size) (v:=v0) (below_then HX1.out HX1.out.size hb1_4) (fun hHeld => ?_)
          refine goesCL_ (N:=(some 38)) Try.func37 (by kernel_rfl) rfl (by rfl) rfl rfl (wakes07_c _) (by simp [Act.eval]) ?_
          rintro e x2_0 ⟨rfl,hb2_0⟩
          refine ⟨_,rfl,?_⟩
          simp only [Act.put,List.setIfInBounds_toArray,List.set_cons_zero,List.set_cons_succ]
          refine pl_held (B:=v0.heap.size) (v:=v0) (below_then hHeld hHeld.size hb2_0) (fun hHeld => ?_)
          refine pl_pure (N:=(some 6)) (v:=?v6) (by rfl) rfl ?h6 ?_
          case h6 => (go_simp;rfl)
          simp only [Act.put,List.setIfInBounds_toArray,List.set_cons_zero,List.set_cons_succ]
          refine pl_nil ?_
          go_wp2
          go_ret
          exact ⟨ret_bool rfl,below_then HB0.out HB0.out.size hHeld⟩
        · have d2 : decide ((60 : Int) ≤ (g.rules.length : Int)) = false:=by simp;omega
          refine pl_pure (N:=(some 22)) (v:=?v93) (by rfl) rfl ?h93 ?_
          case h93 => (go_simp;rfl)
          simp only [Act.put,List.setIfInBounds_toArray,List.set_cons_zero,List.set_cons_succ]
          refine pl_pure (N:=(some 23)) (v:=?v94) (by rfl) rfl ?h94 ?_
          case h94 => (have d0:=(blk_cell (blk_below HP0.out hHeld) 0).trans rfl;have d1:=(blk_cell (blk_below HP0.out hHeld) 1).trans rfl;have d2:=(blk_cell (blk_below HP0.out hHeld) 2).trans rfl;go_simp;rfl)
          simp only [Act.put,List.setIfInBounds_toArray,List.set_cons_zero,List.set_cons_succ]
          refine goesCL_ (N:=(some 24)) Try.func24 (by kernel_rfl) rfl (by rfl) rfl rfl (good1_v g A1 A2 A3 c1 c2 c3 _ (HG0.out.below_ hHeld) HZ.out hgd) (by simp [Act.eval]) ?_
          rintro e x1_4 ⟨rfl,hb1_4⟩
          refine ⟨_,rfl,?_⟩
          simp only [Act.put,List.setIfInBounds_toArray,List.set_cons_zero,List.set_cons_succ]
          refine pl_held (B:=v0.heap.size) (v:=v0) (below_then hHeld hHeld.size hb1_4) (fun hHeld => ?_)
          refine pl_pure (N:=(some 25)) (v:=?v96) (by rfl) rfl ?h96 ?_
          case h96 => (go_simp;rfl)
          simp only [Act.put,List.setIfInBounds_toArray,List.set_cons_zero,List.set_cons_succ]
          refine pl_pure (N:=(some 26)) (v:=?v97) (by rfl) rfl ?h97 ?_
          case h97 => (go_simp;rfl)
          simp only [Act.put,List.setIfInBounds_toArray,List.set_cons_zero,List.set_cons_succ]
          refine pl_pure (N:=(some 27)) (v:=?v98) (by rfl) rfl ?h98 ?_
          case h98 => (go_simp;rfl)
          simp only [Act.put,List.setIfInBounds_toArray,List.set_cons_zero,List.set_cons_succ]
          refine pl_pure (N:=(some 28)) (v:=?v99) (by rfl) rfl ?h99 ?_
          case h99 => (go_simp;rfl)
          simp only [Act.put,List.setIfInBounds_toArray,List.set_cons_zero,List.set_cons_succ]
          refine pl_pure (N:=(some 29)) (v:=?v100) (by rfl) rfl ?h100 ?_
          case h100 => (go_simp;rfl)
          simp only [Act.put,List.setIfInBounds_toArray,List.set_cons_zero,List.set_cons_succ]
          refine pl_pure (N:=(some 30)) (v:=?v101) (by rfl) rfl ?h101 ?_
          case h101 => (go_simp;rfl)
          simp only [Act.put,List.setIfInBounds_toArray,List.set_cons_zero,List.set_cons_succ]
          refine pl_pure (N:=(some 31)) (v:=?v102) (by rfl) rfl ?h102 ?_
          case h102 => (go_simp;rfl)
          simp only [Act.put,List.setIfInBounds_toArray,List.set_cons_zero,List.set_cons_succ]
          refine pl_pure (N:=(some 32)) (v:=?v103) (by rfl) rfl ?h103 ?_
          case h103 => (go_simp;rfl)
          simp only [Act.put,List.setIfInBounds_toArray,List.set_cons_zero,List.set_cons_succ]
          refine pl_pure (N:=(some 33)) (v:=?v104) (by rfl) rfl ?h104 ?_
          case h104 => (go_simp;rfl)
          simp only [Act.put,List.setIfInBounds_toArray,List.set_cons_zero,List.set_cons_succ]
          refine pl_pure (N:=(some 34)) (v:=?v105) (by rfl) rfl ?h105 ?_
          case h105 => (have d0:=(blk_cell (blk_below HP0.out hHeld) 0).trans rfl;have d1:=(blk_cell (blk_below HP0.out hHeld) 1).trans rfl;have d2:=(blk_cell (blk_below HP0.out hHeld) 2).trans rfl;go_simp;rfl)
          simp only [Act.put,List.setIfInBounds_toArray,List.set_cons_zero,List.set_cons_succ]
          refine pl_pure (N:=(some 35)) (v:=?v106) (by rfl) rfl ?h106 ?_
          case h106 => (go_simp;rfl)
          simp only [Act.put,List.setIfInBounds_toArray,List.set_cons_zero,List.set_cons_succ]
          refine pl_pure (N:=(some 36)) (v:=?v107) (by rfl) rfl ?h107 ?_
          case h107 => (go_simp;rfl)
          simp only [Act.put,List.setIfInBounds_toArray,List.set_cons_zero,List.set_cons_succ]
          refine pl_pure (N:=(some 37)) (v:=?v108) (by rfl) rfl ?h108 ?_
          case h108 => (go_simp;rfl)
          simp only [Act.put,List.setIfInBounds_toArray,List.set_cons_zero,List.set_cons_succ]
          refine pl_nil ?_
          clear d1 d2
          obtain ⟨q1,q2,q3,q4⟩:=goodF_small hgd
          have HX4:=Aside0.mk (below_then HX1.out HX1.out.size hb1_4)
          obtain ⟨n,hn⟩ : ∃ n,nsym g = n:=⟨_,rfl⟩
          have hn80 : n ≤ 80:=by rw [← hn];unfold nsym;omega
          have hn1 : 1 ≤ n:=by rw [← hn];unfold nsym;omega
          have hnT : g.terms.length < n:=by rw [← hn];unfold nsym;omega
          have e1 : IntKind.i64.wrap ((g.terms.length : Int) + (g.names.length : Int)) = (n : Int):=by rw [IntWalk.i64_in _ (by omega),← hn];unfold nsym;omega
          have HN:=Lib.hid hn
          have HGD:=Lib.hid hgd
          clear hn hgd hHeld hb1_1 hb1_4
          have HV5:=Aside0.mk (below_then HB0.out HB0.out.size HX4.out)
          have K6:=Aside0.mk (blk_below HP0.out HX4.out)
          have HG6:=Aside0.mk (HG0.out.below_ HX4.out)
          have HL5:=Aside0.mk (Kd.C_below HL0.out HX4.out)
          have HB:=Aside0.mk (Below.refl x1_4.heap.size x1_4)
          have a1:=(blk_cell K6.out 0).trans rfl
          have a2:=(blk_cell K6.out 1).trans rfl
          clear HX1 HX4 HP0 HG0 HL0 HB0
          rename World => wo
          go_upto_region 4 with (fail)
          clear e1 a1
          refine pl_start ?_
          refine pl_held (B:=wo.heap.size) (v:=wo) (Below.refl _ _) (fun hHeld => ?_)
          refine pl_pure (N:=(some 46)) (v:=?v109) (by rfl) rfl ?h109 ?_
          case h109 => (have d0:=(blk_cell (blk_below K6.out hHeld) 0).trans rfl;have d1:=(blk_cell (blk_below K6.out hHeld) 1).trans rfl;have d2:=(blk_cell (blk_below K6.out hHeld) 2).trans rfl;go_simp;rfl)
          simp only [Act.put,List.setIfInBounds_toArray,List.set_cons_zero,List.set_cons_succ]
          refine goesCL_ (N:=(some 47)) Try.func19 (by kernel_rfl) rfl (by rfl) rfl rfl (own_c g A1 A2 A3 c1 c2 c3 _ (HG6.out.below_ hHeld) HS1.out.own) (by simp [Act.eval]) ?_
          rintro e x4_1 ⟨⟨B1,B2,B3,e1,e2,e3,rfl,ho⟩,hb4_1⟩
          refine ⟨_,rfl,?_⟩
          simp only [Act.put,List.setIfInBounds_toArray,List.set_cons_zero,List.set_cons_succ]
          refine pl_held (B:=wo.heap.size) (v:=wo) (below_then hHeld hHeld.size hb4_1) (fun hHeld => ?_)
          refine pl_value (N:=(some 8)) (v:=?v111) (w1:=?w111) (by rfl) rfl ?h111 ?_
          case h111 => (go_simp;first | rfl | (constructor;rfl;rfl))
          simp only [Act.put,List.setIfInBounds_toArray,List.set_cons_zero,List.set_cons_succ]
          refine pl_skip (w1:=?w112) (by rfl) rfl ?h112 ?_
          case h112 => (go_simp;rfl)
          refine pl_world ?_
          intro x4_3 hb4_3 hx4_3 hs4_3 hq4_3
          refine pl_held (B:=wo.heap.size) (v:=wo) (below_then hHeld hHeld.size hb4_3) (fun hHeld => ?_)
          refine pl_nil ?_
          have HO:=Aside0.mk ho
          have HW:=Aside0.mk hHeld
          have HQ:=Aside0.mk hx4_3
          have HX13:=Aside0.mk hb4_3
          have hqw : wo.heap.size ≤ x4_1.heap.size:=hb4_1.size
          have hq3 : x4_3.heap.size = x4_1.heap.size + 1:=hs4_3
          have HQ3:=Lib.hid hq3
          have HQW:=Aside0.mk hqw
          have K7:=Aside0.mk (blk_below K6.out hHeld)
          have HL7:=Aside0.mk (Kd.C_below (Kd.C_below HL5.out HB.out) hHeld)
          clear ho hHeld hx4_3 hb4_3 hb4_1 hs4_3 hq4_3 hq3 hqw a2
          obtain ⟨ln,rfl⟩:=Int.eq_ofNat_of_zero_le hlf.1
          obtain ⟨zl,hzl⟩ : ∃ zl : Nat,(ln : Int).tmod (g.names.length : Int) = (zl : Int):=⟨ln % g.names.length,by rw [Int.tmod_eq_emod_of_nonneg (by omega)];simp⟩
          have hzb : zl < g.names.length:=by
            rw [Int.tmod_eq_emod_of_nonneg (by omega)] at hzl
            have:=Int.emod_lt_of_pos (ln : Int) (show (0 : Int) < g.names.length by omega)
            omega
          have he0 : IntKind.i64.wrap (ln : Int) = (ln : Int):=by rw [IntWalk.i64_in _ (by omega)]
          obtain ⟨lx,hlx⟩ : ∃ lx : Nat,lx = g.terms.length + zl:=⟨_,rfl⟩
          have he1 : IntKind.i64.wrap ((g.terms.length : Int) + (zl : Int)) = (lx : Int):=by rw [IntWalk.i64_in _ (by omega),hlx];omega
          have hn0 : ¬ g.names = []:=by intro h;rw [h] at q2;simp at q2
          have HLX:=Lib.hid hlx
          clear hlx
          go_upto_region 5 with (fail)
          refine start_ (n:=13) (S:=fun w' => Below x4_3.heap.size x4_3 w') (ds:=[12]) (lb 13 0x0) (by kernel_rfl) rfl (by kernel_rfl) (below_drew1 (Below.refl _ _)) (fun hHeld => ?_)
          refine pure_ (i:=0) (N:=(some 48)) (v:=?_) (a':=?_) (lb 13 0x1) rfl rfl (by kernel_rfl) (fun _ _ _ h => h) (Or.inl ⟨by rfl,?_⟩) ?_ ?_
          rotate_left
          · (intro w';go_simp;with_reducible rfl)
          rotate_left
          · (simp only [Act.put,List.setIfInBounds_toArray,List.set_cons_zero,List.set_cons_succ];rfl)
          refine pure_ (i:=3) (N:=(some 51)) (v:=?_) (a':=?_) (lb 13 0x9) rfl rfl (by kernel_rfl) (fun _ _ _ h => h) (Or.inl ⟨by rfl,?_⟩) ?_ ?_
          rotate_left
          · (intro w';go_simp;with_reducible rfl)
          rotate_left
          · (simp only [Act.put,List.setIfInBounds_toArray,List.set_cons_zero,List.set_cons_succ];rfl)
          refine pure_ (i:=4) (N:=(some 52)) (v:=?_) (a':=?_) (lb 13 0x19) rfl rfl (by kernel_rfl) (fun _ _ _ h => h) (Or.inl ⟨by rfl,?_⟩) ?_ ?_
          rotate_left
          · (intro w';go_simp;with_reducible rfl)
          rotate_left
          · (simp only [Act.put,List.setIfInBounds_toArray,List.set_cons_zero,List.set_cons_succ];rfl)
          refine pure_ (i:=5) (N:=(some 53)) (v:=?_) (a':=?_) (lb 13 0x39) rfl rfl (by kernel_rfl) (fun _ _ _ h => h) (Or.inl ⟨by rfl,?_⟩) ?_ ?_
          rotate_left
          · (intro w';go_simp;with_reducible rfl)
          rotate_left
          · (simp only [Act.put,List.setIfInBounds_toArray,List.set_cons_zero,List.set_cons_succ];rfl)
          refine take_ (i:=1) (N:=(some 49)) (v:=?_) (a':=?_) (lb 13 0x3b) rfl rfl (by kernel_rfl) (fun _ _ _ h => h) (Or.inl ⟨by rfl,?_⟩) hHeld ?_ ?_
          rotate_left
          · (rintro w' hS;have d0:=(blk_cell (blk_below K7.out hS) 0).trans rfl;have d1:=(blk_cell (blk_below K7.out hS) 1).trans rfl;have d2:=(blk_cell (blk_below K7.out hS) 2).trans rfl;go_simp;with_reducible rfl)
          rotate_left
          · (simp only [Act.put,List.setIfInBounds_toArray,List.set_cons_zero,List.set_cons_succ];rfl)
          refine pure_ (i:=2) (N:=(some 50)) (v:=?_) (a':=?_) (lb 13 0x3f) rfl rfl (by kernel_rfl) (fun _ _ _ h => h) (Or.inl ⟨by rfl,?_⟩) ?_ ?_
          rotate_left
          · (intro w';go_simp;with_reducible rfl)
          rotate_left
          · (simp only [Act.put,List.setIfInBounds_toArray,List.set_cons_zero,List.set_cons_succ];rfl)
          refine take_ (i:=6) (N:=(some 54)) (v:=?_) (a':=?_) (lb 13 0x7f) rfl rfl (by kernel_rfl) (fun _ _ _ h => h) (Or.inl ⟨by rfl,?_⟩) hHeld ?_ ?_
          rotate_left
          · (rintro w' hS;have d0:=(blk_cell (blk_below K7.out hS) 0).trans rfl;have d1:=(blk_cell (blk_below K7.out hS) 1).trans rfl;have d2:=(blk_cell (blk_below K7.out hS) 2).trans rfl;go_simp;with_reducible rfl)
          rotate_left
          · (simp only [Act.put,List.setIfInBounds_toArray,List.set_cons_zero,List.set_cons_succ];rfl)
          refine pure_ (i:=7) (N:=(some 55)) (v:=?_) (a':=?_) (lb 13 0xff) rfl rfl (by kernel_rfl) (fun _ _ _ h => h) (Or.inl ⟨by rfl,?_⟩) ?_ ?_
          rotate_left
          · (intro w';go_simp;with_reducible rfl)
          rotate_left
          · (simp only [Act.put,List.setIfInBounds_toArray,List.set_cons_zero,List.set_cons_succ];rfl)
          refine pure_ (i:=8) (N:=(some 56)) (v:=?_) (a':=?_) (lb 13 0x1ff) rfl rfl (by kernel_rfl) (fun _ _ _ h => h) (Or.inl ⟨by rfl,?_⟩) ?_ ?_
          rotate_left
          · (intro w';go_simp;with_reducible rfl)
          rotate_left
          · (simp only [Act.put,List.setIfInBounds_toArray,List.set_cons_zero,List.set_cons_succ];rfl)
          refine pure_ (i:=9) (N:=(some 57)) (v:=?_) (a':=?_) (lb 13 0x3ff) rfl rfl (by kernel_rfl) (fun _ _ _ h => h) (Or.inl ⟨by rfl,?_⟩) ?_ ?_
          rotate_left
          · (intro w';go_simp;with_reducible rfl)
          rotate_left
          · (simp only [Act.put,List.setIfInBounds_toArray,List.set_cons_zero,List.set_cons_succ];rfl)
          refine pure_ (i:=10) (N:=(some 58)) (v:=?_) (a':=?_) (lb 13 0x7ff) rfl rfl (by kernel_rfl) (fun _ _ _ h => h) (Or.inl ⟨by rfl,?_⟩) ?_ ?_
          rotate_left
          · (intro w';go_simp;with_reducible rfl)
          rotate_left
          · (simp only [Act.put,List.setIfInBounds_toArray,List.set_cons_zero,List.set_cons_succ];rfl)
          refine one_ (i:=11) (N:=(some 9)) (lb 13 0xfff) rfl rfl (by kernel_rfl) (by decide) (fun K hK => ?_)
          refine value_ (w1:=?_) (v:=?_) (by rfl) rfl ?_ ?_
          rotate_left 2
          · (go_simp;constructor;rfl;rfl)
          skip
          refine hK.out _ _ (hHeld.alloc hHeld.size _) (fun hHeld => ?_)
          clear hK K
          refine norm_ (a':=?_) ?_ ?_
          rotate_left
          · (show Act.put _ (some 9) _ = _;simp only [Act.put,List.setIfInBounds_toArray,List.set_cons_zero,List.set_cons_succ];rfl)
          refine last_ (i:=12) (N:=none) (lb 13 0x1fff) rfl rfl (by kernel_rfl) (by decide) (fun K hK => ?_)
          skip
          refine skip_ (w1:=?_) (by rfl) rfl ?_ ?_
          rotate_left
          · (go_simp;first | rfl | (constructor;rfl;rfl))
          refine hK.out _ _ ?_
          clear hK K
          refine done_ (by kernel_rfl) ?_
          have KX0 : Aside0 ((x4_3.alloc (.cells #[.int .i64 (lx : Int),.slice none 0 0] 56 (0,0))).drew.heap[x4_3.heap.size]? = some (.cells #[.int .i64 (lx : Int),.slice none 0 0] 56 (0,0))):=⟨blk_drew (blk_new x4_3 _)⟩
          have HX0 : Aside0 (Below x4_3.heap.size x4_3 (x4_3.alloc (.cells #[.int .i64 (lx : Int),.slice none 0 0] 56 (0,0))).drew):=⟨below_drew1 (below_alloc (Below.refl _ _) _)⟩
          clear hzl he0 he1 hn0
          go_wp2
          go_loopw [10] (fun i wr => ∃ (k : Nat) (vR : Value),k ≤ l.length ∧ i = .int .i64 k ∧ Aside0 (wr.heap[x4_3.heap.size]? = some (.cells #[.int .i64 (lx : Int),vR] 56 (0,0))) ∧ Aside0 (kInt.R 3 wr x4_3.heap.size (fun _ => True) vR (modM n (l.take k))) ∧ Aside0 (Below x4_3.heap.size x4_3 wr)) (fun i _ => l.length - (intOf i).toNat)
          case atStart => exact ⟨0,_,Nat.zero_le _,rfl,KX0,⟨Kd.R_nil _ _ _ _ _⟩,HX0⟩
          case round =>
            clear KX0 HX0
            obtain ⟨k,vR,hk,rfl,KX,HR,HX⟩:=hrel
            rename World => wi
            by_cases hlt : k < l.length
            · obtain ⟨ad,ead,hy⟩:=at_int (Kd.C_below HL7.out HX.out) k hlt
              cases ead
              have i1 : (0 : Int) ≤ (k : Int):=by omega
              have i2 : (k : Int) < (l.length : Int):=by omega
              have hxb:=HLB.out (l[k]'hlt) (List.getElem_mem _)
              have HT:=Lib.hid (modM_take (n:=n) hlt)
              have hpl:=modM_len n (l.take k)
              rw [List.length_take,Nat.min_eq_left hk] at hpl
              obtain ⟨x,hx⟩ : ∃ x,x = l[k]'hlt:=⟨_,rfl⟩
              rw [← hx] at hy hxb HT
              have HY:=Aside0.mk hy
              clear hx hy
              obtain ⟨z,hz⟩ : ∃ z : Nat,x % (n : Int) = z:=⟨(x % (n : Int)).toNat,by have:=Int.emod_nonneg x (show (n : Int) ≠ 0 by omega);omega⟩
              obtain ⟨P,hP⟩ : ∃ P,P = modM n (l.take k):=⟨_,rfl⟩
              rw [← hP] at HR HT hpl
              have HPL:=Lib.hid hpl
              have HZM:=Lib.hid hz
              have ht : IntKind.i64.wrap x = x:=by rw [IntWalk.i64_in _ (by omega)]
              have ht2 : x.tmod (n : Int) = (z : Int):=by rw [Int.tmod_eq_emod_of_nonneg hxb.1,hz]
              have hnz : ¬ n = 0:=by omega
              obtain ⟨Ar,cr,rfl⟩:=Kd.R_slice HR.out
              clear hP hpl hz
              go_upto_region 9 with (fail)
              refine start_ (n:=13) (S:=fun w' => Below wi.heap.size wi w') (ds:=[10,12]) (lb 13 0x0) (by kernel_rfl) rfl (by kernel_rfl) (below_drew1 (Below.refl _ _)) (fun hHeld => ?_)
              refine pure_ (i:=0) (N:=(some 65)) (v:=?_) (a':=?_) (lb 13 0x1) rfl rfl (by kernel_rfl) (fun _ _ _ h => h) (Or.inl ⟨by rfl,?_⟩) ?_ ?_
              rotate_left
              · (intro w';go_simp;with_reducible rfl)
              rotate_left
              · (simp only [Act.put,List.setIfInBounds_toArray,List.set_cons_zero,List.set_cons_succ];rfl)
              refine pure_ (i:=2) (N:=(some 67)) (v:=?_) (a':=?_) (lb 13 0x5) rfl rfl (by kernel_rfl) (fun _ _ _ h => h) (Or.inl ⟨by rfl,?_⟩) ?_ ?_
              rotate_left
              · (intro w';go_simp;with_reducible rfl)
              rotate_left
              · (simp only [Act.put,List.setIfInBounds_toArray,List.set_cons_zero,List.set_cons_succ];rfl)
              refine pure_ (i:=3) (N:=(some 68)) (v:=?_) (a':=?_) (lb 13 0xd) rfl rfl (by kernel_rfl) (fun _ _ _ h => h) (Or.inl ⟨by rfl,?_⟩) ?_ ?_
              rotate_left
              · (intro w';go_simp;with_reducible rfl)
              rotate_left
              · (simp only [Act.put,List.setIfInBounds_toArray,List.set_cons_zero,List.set_cons_succ];rfl)
              refine pure_ (i:=4) (N:=(some 69)) (v:=?_) (a':=?_) (lb 13 0x1d) rfl rfl (by kernel_rfl) (fun _ _ _ h => h) (Or.inl ⟨by rfl,?_⟩) ?_ ?_
              rotate_left
              · (intro w';go_simp;with_reducible rfl)
              rotate_left
              · (simp only [Act.put,List.setIfInBounds_toArray,List.set_cons_zero,List.set_cons_succ];rfl)
              refine pure_ (i:=7) (N:=(some 72)) (v:=?_) (a':=?_) (lb 13 0x9d) rfl rfl (by kernel_rfl) (fun _ _ _ h => h) (Or.inl ⟨by rfl,?_⟩) ?_ ?_
              rotate_left
              · (intro w';go_simp;with_reducible rfl)
              rotate_left
              · (simp only [Act.put,List.setIfInBounds_toArray,List.set_cons_zero,List.set_cons_succ];rfl)
              refine take_ (i:=1) (N:=(some 66)) (v:=?_) (a':=?_) (lb 13 0x9f) rfl rfl (by kernel_rfl) (fun _ _ _ h => h) (Or.inl ⟨by rfl,?_⟩) hHeld ?_ ?_
              rotate_left
              · (rintro w' hS;have d0:=(blk_cell (blk_below KX.out hS) 0).trans rfl;have d1:=(blk_cell (blk_below KX.out hS) 1).trans rfl;have d2:=cell_at hS HY.out;go_simp;with_reducible rfl)
              rotate_left
              · (simp only [Act.put,List.setIfInBounds_toArray,List.set_cons_zero,List.set_cons_succ];rfl)
              refine take_ (i:=5) (N:=(some 70)) (v:=?_) (a':=?_) (lb 13 0xbf) rfl rfl (by kernel_rfl) (fun _ _ _ h => h) (Or.inl ⟨by rfl,?_⟩) hHeld ?_ ?_
              rotate_left
              · (rintro w' hS;have d0:=(blk_cell (blk_below KX.out hS) 0).trans rfl;have d1:=(blk_cell (blk_below KX.out hS) 1).trans rfl;have d2:=cell_at hS HY.out;go_simp;with_reducible rfl)
              rotate_left
              · (simp only [Act.put,List.setIfInBounds_toArray,List.set_cons_zero,List.set_cons_succ];rfl)
              refine pure_ (i:=6) (N:=(some 71)) (v:=?_) (a':=?_) (lb 13 0xff) rfl rfl (by kernel_rfl) (fun _ _ _ h => h) (Or.inl ⟨by rfl,?_⟩) ?_ ?_
              rotate_left
              · (intro w';go_simp;with_reducible rfl)
              rotate_left
              · (simp only [Act.put,List.setIfInBounds_toArray,List.set_cons_zero,List.set_cons_succ];rfl)
              refine pure_ (i:=8) (N:=(some 73)) (v:=?_) (a':=?_) (lb 13 0x1ff) rfl rfl (by kernel_rfl) (fun _ _ _ h => h) (Or.inl ⟨by rfl,?_⟩) ?_ ?_
              rotate_left
              · (intro w';go_simp;with_reducible rfl)
              rotate_left
              · (simp only [Act.put,List.setIfInBounds_toArray,List.set_cons_zero,List.set_cons_succ];rfl)
              refine one_ (i:=9) (N:=(some 74)) (lb 13 0x3ff) rfl rfl (by kernel_rfl) (by decide) (fun K hK => ?_)
              refine value_ (w1:=?_) (v:=?_) (by rfl) rfl ?_ ?_
              rotate_left 2
              · (go_simp;constructor;rfl;rfl)
              skip
              refine hK.out _ _ (hHeld.alloc hHeld.size _) (fun hHeld => ?_)
              clear hK K
              refine norm_ (a':=?_) ?_ ?_
              rotate_left
              · (show Act.put _ (some 74) _ = _;simp only [Act.put,List.setIfInBounds_toArray,List.set_cons_zero,List.set_cons_succ];rfl)
              refine last_ (i:=10) (N:=(some 75)) (lb 13 0x7ff) rfl rfl (by kernel_rfl) (by decide) (fun K hK => ?_)
              (refine app_int_step (w0:=x4_3) (base:=x4_3.heap.size) (ok:=fun _ => True) (xs:=P) (p:=(z : Int)) (by rfl) rfl (Kd.R_drew HR.out) (below_drew1 HX.out) HX.out.size (by have:=HPL.out;omega) (fun _ _ => trivial) (by simp [Act.eval]) (by simp [Act.eval]) ?_;intro v3 w3 A3;obtain ⟨Av3,cv3,rfl⟩:=A3.shape;have e1:=blk_grown (blk_drew KX.out) A3.grown (Kd.R_ne (Kd.R_drew HR.out) (blk_drew KX.out) (by decide));have E1:=Aside0.mk e1;have e4:=(blk_cell e1 1).trans rfl;have e5:=blk_frozen e1 1;have A3':=Aside0.mk A3;clear A3 e1)
              refine hK.out _ _ ?_
              clear hK K
              refine norm_ (a':=?_) ?_ ?_
              rotate_left
              · (show Act.put _ (some 75) _ = _;simp only [Act.put,List.setIfInBounds_toArray,List.set_cons_zero,List.set_cons_succ];rfl)
              refine pure_ (i:=11) (N:=(some 76)) (v:=?_) (a':=?_) (lb 13 0xfff) rfl rfl (by kernel_rfl) (fun _ _ _ h => h) (Or.inl ⟨by rfl,?_⟩) ?_ ?_
              rotate_left
              · (intro w';go_simp;with_reducible rfl)
              rotate_left
              · (simp only [Act.put,List.setIfInBounds_toArray,List.set_cons_zero,List.set_cons_succ];rfl)
              refine last_ (i:=12) (N:=none) (lb 13 0x1fff) rfl rfl (by kernel_rfl) (by decide) (fun K hK => ?_)
              skip
              refine skip_ (w1:=?_) (by rfl) rfl ?_ ?_
              rotate_left
              · (go_simp;first | rfl | (constructor;rfl;rfl))
              refine hK.out _ _ ?_
              clear hK K
              refine done_ (by kernel_rfl) ?_
              have F1 : Aside0 ((w3.setCell ⟨x4_3.heap.size,1,none⟩ (.slice Av3 (P.length + 1) cv3)).heap[x4_3.heap.size]? = some (.cells #[.int .i64 (lx : Int),.slice Av3 (P.length + 1) cv3] 56 (0,0))):=⟨(blk_set E1.out 1 _).trans rfl⟩
              have F2:=Aside0.mk (Kd.R_set A3'.out.row E1.out (show ∀ q,q ∈ [3] → q ≠ 56 by decide) 1 (.slice Av3 (P.length + 1) cv3))
              have F3:=Aside0.mk (below_set A3'.out.below (Nat.le_refl _) 1 (.slice Av3 (P.length + 1) cv3))
              clear ht ht2 hnz e4 e5
              go_wp2
              go_roundw
              case rel => exact ⟨k + 1,_,by omega,by go_num,F1,by rw [HT.out,HZM.out];exact F2,F3⟩
              case measure => simp [intOf];omega
            · have hke : l.take k = l:=List.take_of_length_le (by omega)
              rw [hke] at HR
              clear hke
              obtain ⟨P,hP⟩ : ∃ P,P = modM n l:=⟨_,rfl⟩
              rw [← hP] at HR
              have hPl : P.length ≤ 8:=by rw [hP,modM_len];omega
              have HPL:=Aside0.mk hPl
              clear hP hPl
              obtain ⟨Ar,cr,rfl⟩:=Kd.R_slice HR.out
              have hbi:=below_then HX13.out HX13.out.size HX.out
              have HBI:=Aside0.mk hbi
              have KH:=Aside0.mk (blk_below HQ.out HX.out)
              have HU:=Aside0.mk (row_apart HR.out HX13.out.size HO.out.rules HQW.out)
              have HBO:=Aside0.mk (below_then HW.out HW.out.size HX.out)
              have HOI:=Aside0.mk (HO.out.below_ hbi)
              obtain ⟨Lr,hLr⟩ : ∃ Lr,Lr = g.rules ++ [⟨(lx : Int),P⟩]:=⟨_,rfl⟩
              have HLR:=Lib.hid hLr
              clear hbi hLr HR
              go_upto_region 10 with (fail)
              refine pl_start ?_
              refine pl_held (B:=wi.heap.size) (v:=wi) (Below.refl _ _) (fun hHeld => ?_)
              refine pl_pure (N:=(some 77)) (v:=?v7) (by rfl) rfl ?h7 ?_
              case h7 => (go_simp;rfl)
              simp only [Act.put,List.setIfInBounds_toArray,List.set_cons_zero,List.set_cons_succ]
              refine pl_pure (N:=(some 78)) (v:=?v8) (by rfl) rfl ?h8 ?_
              case h8 => (have d0:=(blk_cell (blk_below KH.out hHeld) 0).trans rfl;have d1:=(blk_cell (blk_below KH.out hHeld) 1).trans rfl;have d2:=(blk_cell (blk_below KH.out hHeld) 2).trans rfl;have d3:=(blk_cell (blk_below KX.out hHeld) 0).trans rfl;have d4:=(blk_cell (blk_below KX.out hHeld) 1).trans rfl;go_simp;rfl)
              simp only [Act.put,List.setIfInBounds_toArray,List.set_cons_zero,List.set_cons_succ]
              refine pl_pure (N:=(some 79)) (v:=?v9) (by rfl) rfl ?h9 ?_
              case h9 => (have d0:=(blk_cell (blk_below KH.out hHeld) 0).trans rfl;have d1:=(blk_cell (blk_below KH.out hHeld) 1).trans rfl;have d2:=(blk_cell (blk_below KH.out hHeld) 2).trans rfl;have d3:=(blk_cell (blk_below KX.out hHeld) 0).trans rfl;have d4:=(blk_cell (blk_below KX.out hHeld) 1).trans rfl;go_simp;rfl)
              simp only [Act.put,List.setIfInBounds_toArray,List.set_cons_zero,List.set_cons_succ]
              refine pl_value (N:=some 80) (v:=?vb) (w1:=?wb) (by rfl) rfl ?hb ?_
              case hb => (go_simp;constructor;rfl;rfl)
              simp only [Act.put,List.setIfInBounds_toArray,List.set_cons_zero,List.set_cons_succ]
              refine pl_app_rule (N:=some 81) (w0:=wo) (xs:=g.rules) (p:=⟨(lx : Int),P⟩) (by rfl) rfl rfl HOI.out.rules HU.out HBO.out (by omega) (by rfl) (by rfl) ?_
              intro v1' w1' A1'
              obtain ⟨A4,c4,e4,z4,f4,hrep⟩:=more_rep HO.out HBI.out A1' KH.out HQW.out HLR.out
              subst e4
              have HREP:=Aside0.mk (hrep (.slice A4 Lr.length c4))
              clear A1' hrep
              simp only [Act.put,List.setIfInBounds_toArray,List.set_cons_zero,List.set_cons_succ]
              refine pl_pure (N:=(some 82)) (v:=?v12) (by rfl) rfl ?h12 ?_
              case h12 => (go_simp;rfl)
              simp only [Act.put,List.setIfInBounds_toArray,List.set_cons_zero,List.set_cons_succ]
              refine pl_skip (w1:=?w13) (by rfl) rfl ?h13 ?_
              case h13 => (go_simp;rfl)
              refine pl_nil ?_
              clear z4 f4
              obtain ⟨W4,hW4⟩ : ∃ W4,W4 = w1'.setCell ⟨x4_1.heap.size,2,none⟩ (.slice A4 Lr.length c4):=⟨_,rfl⟩
              rw [← hW4] at HREP ⊢
              obtain ⟨hrg,hrb,hrk⟩:=HREP.out
              have HRG:=Aside0.mk hrg
              have HRB:=Aside0.mk hrb
              have KR:=Aside0.mk hrk
              have HV4:=Aside0.mk (below_then HV5.out HV5.out.size (below_then HB.out HB.out.size hrb))
              clear hrg hrb hrk HREP hW4
              have HZ4 : Aside0 (Sized ⟨g.terms,g.names,Lr⟩):=⟨⟨HZ.out.1,HZ.out.2⟩⟩
              have HN4 : Aside0 (nsym ⟨g.terms,g.names,Lr⟩ = n):=⟨HN.out⟩
              obtain ⟨gh,hgh⟩ : ∃ gh,goodF ⟨g.terms,g.names,Lr⟩ = gh:=⟨_,rfl⟩
              have HGH:=Lib.hid hgh
              clear hgh
              go_upto_region 11 with (fail)
              refine pl_start ?_
              refine pl_held (B:=W4.heap.size) (v:=W4) (Below.refl _ _) (fun hHeld => ?_)
              refine pl_pure (N:=(some 83)) (v:=?v14) (by rfl) rfl ?h14 ?_
              case h14 => (have d0:=(blk_cell (blk_below KR.out hHeld) 0).trans rfl;have d1:=(blk_cell (blk_below KR.out hHeld) 1).trans rfl;have d2:=(blk_cell (blk_below KR.out hHeld) 2).trans rfl;go_simp;rfl)
              simp only [Act.put,List.setIfInBounds_toArray,List.set_cons_zero,List.set_cons_succ]
              refine goesCL_ (N:=(some 84)) Try.func24 (by kernel_rfl) rfl (by rfl) rfl rfl (good1_3m g.terms g.names Lr B1 B2 A4 e1 e2 c4 _ (HRG.out.below_ hHeld) HZ4.out HGH.out) (by simp [Act.eval]) ?_
              rintro e x11_1 ⟨rfl,hb11_1⟩
              refine ⟨_,rfl,?_⟩
              simp only [Act.put,List.setIfInBounds_toArray,List.set_cons_zero,List.set_cons_succ]
              refine pl_held (B:=W4.heap.size) (v:=W4) (below_then hHeld hHeld.size hb11_1) (fun hHeld => ?_)
              refine pl_pure (N:=(some 85)) (v:=?v16) (by rfl) rfl ?h16 ?_
              case h16 => (go_simp;rfl)
              simp only [Act.put,List.setIfInBounds_toArray,List.set_cons_zero,List.set_cons_succ]
              refine pl_nil ?_
              have HX24:=Aside0.mk hHeld
              clear hHeld hb11_1
              cases gh
              · go_upto_region 12 with (fail)
                refine pl_start ?_
                refine pl_held (B:=W4.heap.size) (v:=W4) (HX24.out) (fun hHeld => ?_)
                refine goesCL_ (N:=(some 86)) Try.func37 (by kernel_rfl) rfl (by rfl) rfl rfl (wakes07_c _) (by simp [Act.eval]) ?_
                rintro e x12_0 ⟨rfl,hb12_0⟩
                refine ⟨_,rfl,?_⟩
                simp only [Act.put,List.setIfInBounds_toArray,List.set_cons_zero,List.set_cons_succ]
                refine pl_held (B:=W4.heap.size) (v:=W4) (below_then hHeld hHeld.size hb12_0) (fun hHeld => ?_)
                refine pl_pure (N:=(some 6)) (v:=?v18) (by rfl) rfl ?h18 ?_
                case h18 => (go_simp;rfl)
                simp only [Act.put,List.setIfInBounds_toArray,List.set_cons_zero,List.set_cons_succ]
                refine pl_nil ?_
                go_wp2
                go_ret
                exact ⟨ret_bool rfl,below_then HV4.out HV4.out.size hHeld⟩
              · have HWX:=Aside0.mk (below_then HB.out HB.out.size HRB.out)
                have GG:=Aside0.mk ((HG6.out.below_ HRB.out).below_ HX24.out)
                have GH:=Aside0.mk (HRG.out.below_ HX24.out)
                have KG:=Aside0.mk (blk_below (blk_below K6.out HRB.out) HX24.out)
                have KH2:=Aside0.mk (blk_below KR.out HX24.out)
                have HV7:=Aside0.mk (below_then HV4.out HV4.out.size HX24.out)
                go_upto_region 13 with (fail)
                refine start_ (n:=12) (S:=fun w' => Below x11_1.heap.size x11_1 w') (ds:=[9]) (lb 12 0x0) (by kernel_rfl) rfl (by kernel_rfl) (below_drew1 (Below.refl _ _)) (fun hHeld => ?_)
                refine pure_ (i:=1) (N:=(some 88)) (v:=?_) (a':=?_) (lb 12 0x2) rfl rfl (by kernel_rfl) (fun _ _ _ h => h) (Or.inl ⟨by rfl,?_⟩) ?_ ?_
                rotate_left
                · (intro w';go_simp;with_reducible rfl)
                rotate_left
                · (simp only [Act.put,List.setIfInBounds_toArray,List.set_cons_zero,List.set_cons_succ];rfl)
                refine pure_ (i:=6) (N:=(some 93)) (v:=?_) (a':=?_) (lb 12 0x42) rfl rfl (by kernel_rfl) (fun _ _ _ h => h) (Or.inl ⟨by rfl,?_⟩) ?_ ?_
                rotate_left
                · (intro w';go_simp;with_reducible rfl)
                rotate_left
                · (simp only [Act.put,List.setIfInBounds_toArray,List.set_cons_zero,List.set_cons_succ];rfl)
                refine take_ (i:=0) (N:=(some 87)) (v:=?_) (a':=?_) (lb 12 0x43) rfl rfl (by kernel_rfl) (fun _ _ _ h => h) (Or.inl ⟨by rfl,?_⟩) hHeld ?_ ?_
                rotate_left
                · (rintro w' hS;have d0:=(blk_cell (blk_below KG.out hS) 0).trans rfl;have d1:=(blk_cell (blk_below KG.out hS) 1).trans rfl;have d2:=(blk_cell (blk_below KG.out hS) 2).trans rfl;have d3:=(blk_cell (blk_below KH2.out hS) 0).trans rfl;have d4:=(blk_cell (blk_below KH2.out hS) 1).trans rfl;have d5:=(blk_cell (blk_below KH2.out hS) 2).trans rfl;go_simp;with_reducible rfl)
                rotate_left
                · (simp only [Act.put,List.setIfInBounds_toArray,List.set_cons_zero,List.set_cons_succ];rfl)
                refine take_ (i:=2) (N:=(some 89)) (v:=?_) (a':=?_) (lb 12 0x47) rfl rfl (by kernel_rfl) (fun _ _ _ h => h) (Or.inl ⟨by rfl,?_⟩) hHeld ?_ ?_
                rotate_left
                · (rintro w' hS;have d0:=(blk_cell (blk_below KG.out hS) 0).trans rfl;have d1:=(blk_cell (blk_below KG.out hS) 1).trans rfl;have d2:=(blk_cell (blk_below KG.out hS) 2).trans rfl;have d3:=(blk_cell (blk_below KH2.out hS) 0).trans rfl;have d4:=(blk_cell (blk_below KH2.out hS) 1).trans rfl;have d5:=(blk_cell (blk_below KH2.out hS) 2).trans rfl;go_simp;with_reducible rfl)
                rotate_left
                · (simp only [Act.put,List.setIfInBounds_toArray,List.set_cons_zero,List.set_cons_succ];rfl)
                refine pure_ (i:=3) (N:=(some 90)) (v:=?_) (a':=?_) (lb 12 0x4f) rfl rfl (by kernel_rfl) (fun _ _ _ h => h) (Or.inl ⟨by rfl,?_⟩) ?_ ?_
                rotate_left
                · (intro w';go_simp;with_reducible rfl)
                rotate_left
                · (simp only [Act.put,List.setIfInBounds_toArray,List.set_cons_zero,List.set_cons_succ];rfl)
                refine take_ (i:=5) (N:=(some 92)) (v:=?_) (a':=?_) (lb 12 0x6f) rfl rfl (by kernel_rfl) (fun _ _ _ h => h) (Or.inl ⟨by rfl,?_⟩) hHeld ?_ ?_
                rotate_left
                · (rintro w' hS;have d0:=(blk_cell (blk_below KG.out hS) 0).trans rfl;have d1:=(blk_cell (blk_below KG.out hS) 1).trans rfl;have d2:=(blk_cell (blk_below KG.out hS) 2).trans rfl;have d3:=(blk_cell (blk_below KH2.out hS) 0).trans rfl;have d4:=(blk_cell (blk_below KH2.out hS) 1).trans rfl;have d5:=(blk_cell (blk_below KH2.out hS) 2).trans rfl;go_simp;with_reducible rfl)
                rotate_left
                · (simp only [Act.put,List.setIfInBounds_toArray,List.set_cons_zero,List.set_cons_succ];rfl)
                refine take_ (i:=7) (N:=(some 94)) (v:=?_) (a':=?_) (lb 12 0xef) rfl rfl (by kernel_rfl) (fun _ _ _ h => h) (Or.inl ⟨by rfl,?_⟩) hHeld ?_ ?_
                rotate_left
                · (rintro w' hS;have d0:=(blk_cell (blk_below KG.out hS) 0).trans rfl;have d1:=(blk_cell (blk_below KG.out hS) 1).trans rfl;have d2:=(blk_cell (blk_below KG.out hS) 2).trans rfl;have d3:=(blk_cell (blk_below KH2.out hS) 0).trans rfl;have d4:=(blk_cell (blk_below KH2.out hS) 1).trans rfl;have d5:=(blk_cell (blk_below KH2.out hS) 2).trans rfl;go_simp;with_reducible rfl)
                rotate_left
                · (simp only [Act.put,List.setIfInBounds_toArray,List.set_cons_zero,List.set_cons_succ];rfl)
                refine pure_ (i:=8) (N:=(some 95)) (v:=?_) (a':=?_) (lb 12 0x1ef) rfl rfl (by kernel_rfl) (fun _ _ _ h => h) (Or.inl ⟨by rfl,?_⟩) ?_ ?_
                rotate_left
                · (intro w';go_simp;with_reducible rfl)
                rotate_left
                · (simp only [Act.put,List.setIfInBounds_toArray,List.set_cons_zero,List.set_cons_succ];rfl)
                refine one_ (i:=4) (N:=(some 91)) (lb 12 0x1ff) rfl rfl (by kernel_rfl) (by decide) (fun K hK => ?_)
                (refine goesC_ Try.func38 (by kernel_rfl) rfl (by rfl) rfl rfl (reachU_yes g A1 A2 A3 c1 c2 c3 (g.terms.length : Int) _ (GG.out.below_ hHeld) HGD.out HN.out (by omega) (by omega)) (by simp [Act.eval]) ?_;rintro e w9 ⟨⟨ba,rfl,ha,has⟩,hb9⟩;refine ⟨_,rfl,?_⟩;have HQ9:=Aside0.mk (below_then hHeld hHeld.size hb9);have HA1:=Aside0.mk ha;clear ha has;clear hb9;refine hK.out _ _ HQ9.out (fun hHeld => ?_))
                skip
                clear hK K
                refine norm_ (a':=?_) ?_ ?_
                rotate_left
                · (show Act.put _ (some 91) _ = _;simp only [Act.put,List.setIfInBounds_toArray,List.set_cons_zero,List.set_cons_succ];rfl)
                refine last_ (i:=9) (N:=(some 96)) (lb 12 0x3ff) rfl rfl (by kernel_rfl) (by decide) (fun K hK => ?_)
                (refine goesC_ Try.func38 (by kernel_rfl) rfl (by rfl) rfl rfl (reach_3 g.terms g.names Lr B1 B2 A4 e1 e2 c4 (g.terms.length : Int) _ (GH.out.below_ hHeld) HGH.out HN4.out (by omega) (by omega)) (by simp [Act.eval]) ?_;rintro e w9 ⟨⟨bb,rfl,hbb,hbs⟩,hb9⟩;refine ⟨_,rfl,?_⟩;have HW1:=Aside0.mk (below_then hHeld hHeld.size hb9);have HA:=Aside0.mk (HA1.out.below hb9);have HBH:=Aside0.mk hbb;clear hbb hbs hb9)
                refine hK.out _ _ ?_
                clear hK K
                refine norm_ (a':=?_) ?_ ?_
                rotate_left
                · (show Act.put _ (some 96) _ = _;simp only [Act.put,List.setIfInBounds_toArray,List.set_cons_zero,List.set_cons_succ];rfl)
                refine pure_ (i:=10) (N:=(some 11)) (v:=?_) (a':=?_) (lb 12 0x7ff) rfl rfl (by kernel_rfl) (fun _ _ _ h => h) (Or.inl ⟨by rfl,?_⟩) ?_ ?_
                rotate_left
                · (intro w';go_simp;with_reducible rfl)
                rotate_left
                · (simp only [Act.put,List.setIfInBounds_toArray,List.set_cons_zero,List.set_cons_succ];rfl)
                refine pure_ (i:=11) (N:=(some 12)) (v:=?_) (a':=?_) (lb 12 0xfff) rfl rfl (by kernel_rfl) (fun _ _ _ h => h) (Or.inl ⟨by rfl,?_⟩) ?_ ?_
                rotate_left
                · (intro w';go_simp;with_reducible rfl)
                rotate_left
                · (simp only [Act.put,List.setIfInBounds_toArray,List.set_cons_zero,List.set_cons_succ];rfl)
                refine done_ (by kernel_rfl) ?_
                have GG1:=Aside0.mk (GG.out.below_ HW1.out)
                have GH1:=Aside0.mk (GH.out.below_ HW1.out)
                have KG1:=Aside0.mk (blk_below KG.out HW1.out)
                have KH1:=Aside0.mk (blk_below KH2.out HW1.out)
                have HV8:=Aside0.mk (below_then HV7.out HV7.out.size HW1.out)
                rename World => y1
                go_upto_region 14 with (fail)
                refine start_ (n:=6) (S:=fun w' => Below y1.heap.size y1 w') (ds:=[3]) (lb 6 0x0) (by kernel_rfl) rfl (by kernel_rfl) (below_drew1 (Below.refl _ _)) (fun hHeld => ?_)
                refine take_ (i:=0) (N:=(some 97)) (v:=?_) (a':=?_) (lb 6 0x1) rfl rfl (by kernel_rfl) (fun _ _ _ h => h) (Or.inl ⟨by rfl,?_⟩) hHeld ?_ ?_
                rotate_left
                · (rintro w' hS;have d0:=(blk_cell (blk_below KG1.out hS) 0).trans rfl;have d1:=(blk_cell (blk_below KG1.out hS) 1).trans rfl;have d2:=(blk_cell (blk_below KG1.out hS) 2).trans rfl;have d3:=(blk_cell (blk_below KH1.out hS) 0).trans rfl;have d4:=(blk_cell (blk_below KH1.out hS) 1).trans rfl;have d5:=(blk_cell (blk_below KH1.out hS) 2).trans rfl;go_simp;with_reducible rfl)
                rotate_left
                · (simp only [Act.put,List.setIfInBounds_toArray,List.set_cons_zero,List.set_cons_succ];rfl)
                refine take_ (i:=2) (N:=(some 99)) (v:=?_) (a':=?_) (lb 6 0x5) rfl rfl (by kernel_rfl) (fun _ _ _ h => h) (Or.inl ⟨by rfl,?_⟩) hHeld ?_ ?_
                rotate_left
                · (rintro w' hS;have d0:=(blk_cell (blk_below KG1.out hS) 0).trans rfl;have d1:=(blk_cell (blk_below KG1.out hS) 1).trans rfl;have d2:=(blk_cell (blk_below KG1.out hS) 2).trans rfl;have d3:=(blk_cell (blk_below KH1.out hS) 0).trans rfl;have d4:=(blk_cell (blk_below KH1.out hS) 1).trans rfl;have d5:=(blk_cell (blk_below KH1.out hS) 2).trans rfl;go_simp;with_reducible rfl)
                rotate_left
                · (simp only [Act.put,List.setIfInBounds_toArray,List.set_cons_zero,List.set_cons_succ];rfl)
                refine one_ (i:=1) (N:=(some 98)) (lb 6 0x7) rfl rfl (by kernel_rfl) (by decide) (fun K hK => ?_)
                (refine goesC_ Try.func40 (by kernel_rfl) rfl (by rfl) rfl rfl (prod_yes g A1 A2 A3 c1 c2 c3 _ (GG1.out.below_ hHeld) HGD.out HN.out) (by simp [Act.eval]) ?_;rintro e w9 ⟨⟨bp,rfl,hp,hps⟩,hb9⟩;refine ⟨_,rfl,?_⟩;have HQ9:=Aside0.mk (below_then hHeld hHeld.size hb9);have HP1:=Aside0.mk hp;clear hp hps;clear hb9;refine hK.out _ _ HQ9.out (fun hHeld => ?_))
                skip
                clear hK K
                refine norm_ (a':=?_) ?_ ?_
                rotate_left
                · (show Act.put _ (some 98) _ = _;simp only [Act.put,List.setIfInBounds_toArray,List.set_cons_zero,List.set_cons_succ];rfl)
                refine last_ (i:=3) (N:=(some 100)) (lb 6 0xf) rfl rfl (by kernel_rfl) (by decide) (fun K hK => ?_)
                (refine goesC_ Try.func40 (by kernel_rfl) rfl (by rfl) rfl rfl (prod_3 g.terms g.names Lr B1 B2 A4 e1 e2 c4 _ (GH1.out.below_ hHeld) HGH.out HN4.out) (by simp [Act.eval]) ?_;rintro e w9 ⟨⟨bq,rfl,hbq,hbs⟩,hb9⟩;refine ⟨_,rfl,?_⟩;have HW2:=Aside0.mk (below_then hHeld hHeld.size hb9);have HP:=Aside0.mk (HP1.out.below hb9);have HQ7:=Aside0.mk hbq;clear hbq hbs hb9)
                refine hK.out _ _ ?_
                clear hK K
                refine norm_ (a':=?_) ?_ ?_
                rotate_left
                · (show Act.put _ (some 100) _ = _;simp only [Act.put,List.setIfInBounds_toArray,List.set_cons_zero,List.set_cons_succ];rfl)
                refine pure_ (i:=4) (N:=(some 13)) (v:=?_) (a':=?_) (lb 6 0x1f) rfl rfl (by kernel_rfl) (fun _ _ _ h => h) (Or.inl ⟨by rfl,?_⟩) ?_ ?_
                rotate_left
                · (intro w';go_simp;with_reducible rfl)
                rotate_left
                · (simp only [Act.put,List.setIfInBounds_toArray,List.set_cons_zero,List.set_cons_succ];rfl)
                refine pure_ (i:=5) (N:=(some 14)) (v:=?_) (a':=?_) (lb 6 0x3f) rfl rfl (by kernel_rfl) (fun _ _ _ h => h) (Or.inl ⟨by rfl,?_⟩) ?_ ?_
                rotate_left
                · (intro w';go_simp;with_reducible rfl)
                rotate_left
                · (simp only [Act.put,List.setIfInBounds_toArray,List.set_cons_zero,List.set_cons_succ];rfl)
                refine done_ (by kernel_rfl) ?_
                have GG3:=Aside0.mk (GG1.out.below_ HW2.out)
                have GH3:=Aside0.mk (GH1.out.below_ HW2.out)
                have KG3:=Aside0.mk (blk_below KG1.out HW2.out)
                have KH3:=Aside0.mk (blk_below KH1.out HW2.out)
                have HV9:=Aside0.mk (below_then HV8.out HV8.out.size HW2.out)
                have HA3:=Aside0.mk (HA.out.below HW2.out)
                have HBH3:=Aside0.mk (HBH.out.below HW2.out)
                rename World => y2
                go_upto_region 15 with (fail)
                refine start_ (n:=6) (S:=fun w' => Below y2.heap.size y2 w') (ds:=[3]) (lb 6 0x0) (by kernel_rfl) rfl (by kernel_rfl) (below_drew1 (Below.refl _ _)) (fun hHeld => ?_)
                refine take_ (i:=0) (N:=(some 101)) (v:=?_) (a':=?_) (lb 6 0x1) rfl rfl (by kernel_rfl) (fun _ _ _ h => h) (Or.inl ⟨by rfl,?_⟩) hHeld ?_ ?_
                rotate_left
                · (rintro w' hS;have d0:=(blk_cell (blk_below KG3.out hS) 0).trans rfl;have d1:=(blk_cell (blk_below KG3.out hS) 1).trans rfl;have d2:=(blk_cell (blk_below KG3.out hS) 2).trans rfl;have d3:=(blk_cell (blk_below KH3.out hS) 0).trans rfl;have d4:=(blk_cell (blk_below KH3.out hS) 1).trans rfl;have d5:=(blk_cell (blk_below KH3.out hS) 2).trans rfl;go_simp;with_reducible rfl)
                rotate_left
                · (simp only [Act.put,List.setIfInBounds_toArray,List.set_cons_zero,List.set_cons_succ];rfl)
                refine take_ (i:=2) (N:=(some 103)) (v:=?_) (a':=?_) (lb 6 0x5) rfl rfl (by kernel_rfl) (fun _ _ _ h => h) (Or.inl ⟨by rfl,?_⟩) hHeld ?_ ?_
                rotate_left
                · (rintro w' hS;have d0:=(blk_cell (blk_below KG3.out hS) 0).trans rfl;have d1:=(blk_cell (blk_below KG3.out hS) 1).trans rfl;have d2:=(blk_cell (blk_below KG3.out hS) 2).trans rfl;have d3:=(blk_cell (blk_below KH3.out hS) 0).trans rfl;have d4:=(blk_cell (blk_below KH3.out hS) 1).trans rfl;have d5:=(blk_cell (blk_below KH3.out hS) 2).trans rfl;go_simp;with_reducible rfl)
                rotate_left
                · (simp only [Act.put,List.setIfInBounds_toArray,List.set_cons_zero,List.set_cons_succ];rfl)
                refine one_ (i:=1) (N:=(some 102)) (lb 6 0x7) rfl rfl (by kernel_rfl) (by decide) (fun K hK => ?_)
                (refine goesC_ Try.func42 (by kernel_rfl) rfl (by rfl) rfl rfl (useful_yes g A1 A2 A3 c1 c2 c3 _ (GG3.out.below_ hHeld) HGD.out HN.out) (by simp [Act.eval]) ?_;rintro e w9 ⟨⟨bu,rfl,hu,hus⟩,hb9⟩;refine ⟨_,rfl,?_⟩;have HQ9:=Aside0.mk (below_then hHeld hHeld.size hb9);have HU1:=Aside0.mk hu;clear hu hus;clear hb9;refine hK.out _ _ HQ9.out (fun hHeld => ?_))
                skip
                clear hK K
                refine norm_ (a':=?_) ?_ ?_
                rotate_left
                · (show Act.put _ (some 102) _ = _;simp only [Act.put,List.setIfInBounds_toArray,List.set_cons_zero,List.set_cons_succ];rfl)
                refine last_ (i:=3) (N:=(some 104)) (lb 6 0xf) rfl rfl (by kernel_rfl) (by decide) (fun K hK => ?_)
                (refine goesC_ Try.func42 (by kernel_rfl) rfl (by rfl) rfl rfl (useful_3 g.terms g.names Lr B1 B2 A4 e1 e2 c4 _ (GH3.out.below_ hHeld) HGH.out HN4.out) (by simp [Act.eval]) ?_;rintro e w9 ⟨⟨bv,rfl,hbv,hbs⟩,hb9⟩;refine ⟨_,rfl,?_⟩;have HW3:=Aside0.mk (below_then hHeld hHeld.size hb9);have HUU:=Aside0.mk (HU1.out.below hb9);have HVV:=Aside0.mk hbv;clear hbv hbs hb9)
                refine hK.out _ _ ?_
                clear hK K
                refine norm_ (a':=?_) ?_ ?_
                rotate_left
                · (show Act.put _ (some 104) _ = _;simp only [Act.put,List.setIfInBounds_toArray,List.set_cons_zero,List.set_cons_succ];rfl)
                refine pure_ (i:=4) (N:=(some 15)) (v:=?_) (a':=?_) (lb 6 0x1f) rfl rfl (by kernel_rfl) (fun _ _ _ h => h) (Or.inl ⟨by rfl,?_⟩) ?_ ?_
                rotate_left
                · (intro w';go_simp;with_reducible rfl)
                rotate_left
                · (simp only [Act.put,List.setIfInBounds_toArray,List.set_cons_zero,List.set_cons_succ];rfl)
                refine pure_ (i:=5) (N:=(some 16)) (v:=?_) (a':=?_) (lb 6 0x3f) rfl rfl (by kernel_rfl) (fun _ _ _ h => h) (Or.inl ⟨by rfl,?_⟩) ?_ ?_
                rotate_left
                · (intro w';go_simp;with_reducible rfl)
                rotate_left
                · (simp only [Act.put,List.setIfInBounds_toArray,List.set_cons_zero,List.set_cons_succ];rfl)
                refine done_ (by kernel_rfl) ?_
                have HV10:=Aside0.mk (below_then HV9.out HV9.out.size HW3.out)
                have RA:=Aside0.mk (HA3.out.below HW3.out)
                have RB:=Aside0.mk (HBH3.out.below HW3.out)
                have RP:=Aside0.mk (HP.out.below HW3.out)
                have RQ7:=Aside0.mk (HQ7.out.below HW3.out)
                have hrl : ∀ r ∈ g.rules,r ∈ Lr:=fun r hr => by rw [HLR.out];exact List.mem_append_left _ hr
                have MR:=Aside0.mk (fun s => reach_more (h:=⟨g.terms,g.names,Lr⟩) (s:=s) HGD.out HGH.out rfl hrl)
                have MP:=Aside0.mk (fun s => prod_more (h:=⟨g.terms,g.names,Lr⟩) (s:=s) HGD.out HGH.out rfl hrl)
                have MU:=Aside0.mk (fun s => useful_more (h:=⟨g.terms,g.names,Lr⟩) (s:=s) HGD.out HGH.out rfl hrl)
                have LA : Aside0 ((reachF g allOk (g.terms.length : Int)).length = n):=⟨by rw [(reachF_is HGD.out allOk (start_in HGD.out).1 (start_in HGD.out).2).1,HN.out]⟩
                have LB : Aside0 ((reachF ⟨g.terms,g.names,Lr⟩ allOk (g.terms.length : Int)).length = n):=⟨by rw [(reachF_is HGH.out allOk (start_in HGH.out).1 (start_in HGH.out).2).1,HN4.out]⟩
                have LP : Aside0 ((prodF g).length = n):=⟨by rw [(prodF_is HGD.out).1,HN.out]⟩
                have LQ : Aside0 ((prodF ⟨g.terms,g.names,Lr⟩).length = n):=⟨by rw [(prodF_is HGH.out).1,HN4.out]⟩
                have LU : Aside0 ((usefulF g).length = n):=⟨by rw [usefulF_len HGD.out,HN.out]⟩
                have LV : Aside0 ((usefulF ⟨g.terms,g.names,Lr⟩).length = n):=⟨by rw [usefulF_len HGH.out,HN4.out]⟩
                clear hrl
                rename World => y3
                go_wp2
                go_loop [18,17] (fun i av => ∃ s : Nat,s ≤ n ∧ i = .int .i64 s ∧ av = .bool (allP (prodF g) s)) (fun i _ => n - (intOf i).toNat)
                case atStart => exact ⟨0,Nat.zero_le _,rfl,rfl⟩
                case round =>
                  obtain ⟨s,hs,rfl,rfl⟩:=hrel
                  by_cases hsn : s < n
                  · have i1 : (0 : Int) ≤ (s : Int):=by omega
                    have i2 : (s : Int) < (n : Int):=by omega
                    have HNX:=Lib.hid (allP_next (prodF g) s)
                    have m1:=MR.out (s : Int)
                    have m2:=MP.out (s : Int)
                    have m3:=MU.out (s : Int)
                    obtain ⟨ac,hac⟩ : ∃ b,allP (prodF g) s = b:=⟨_,rfl⟩
                    obtain ⟨ab,hab⟩ : ∃ b,getB (reachF g allOk (g.terms.length : Int)) (s : Int) = b:=⟨_,rfl⟩
                    obtain ⟨bb',hbb⟩ : ∃ b,getB (reachF ⟨g.terms,g.names,Lr⟩ allOk (g.terms.length : Int)) (s : Int) = b:=⟨_,rfl⟩
                    obtain ⟨pb,hpb⟩ : ∃ b,getB (prodF g) (s : Int) = b:=⟨_,rfl⟩
                    obtain ⟨qb,hqb⟩ : ∃ b,getB (prodF ⟨g.terms,g.names,Lr⟩) (s : Int) = b:=⟨_,rfl⟩
                    obtain ⟨ub,hub⟩ : ∃ b,getB (usefulF g) (s : Int) = b:=⟨_,rfl⟩
                    obtain ⟨vb,hvb⟩ : ∃ b,getB (usefulF ⟨g.terms,g.names,Lr⟩) (s : Int) = b:=⟨_,rfl⟩
                    have z1:=RA.out.cell' (i:=s) (by rw [LA.out];exact hsn) hab
                    have z2:=RB.out.cell' (i:=s) (by rw [LB.out];exact hsn) hbb
                    have z3:=RP.out.cell' (i:=s) (by rw [LP.out];exact hsn) hpb
                    have z4:=RQ7.out.cell' (i:=s) (by rw [LQ.out];exact hsn) hqb
                    have z5:=HUU.out.cell' (i:=s) (by rw [LU.out];exact hsn) hub
                    have z6:=HVV.out.cell' (i:=s) (by rw [LV.out];exact hsn) hvb
                    rw [hab] at m1
                    rw [show getB (reachF ⟨g.terms,g.names,Lr⟩ allOk ((⟨g.terms,g.names,Lr⟩ : Gram).terms.length : Int)) (s : Int) = bb' from hbb] at m1
                    rw [hpb,hqb] at m2
                    rw [hub,hvb] at m3
                    rw [hac,hpb] at HNX
                    rw [hac]
                    clear hac hab hbb hpb hqb hub hvb
                    have c1 : ab = false ∨ (ab = true ∧ bb' = true):=by cases ab <;> simp_all
                    have c2 : pb = false ∨ (pb = true ∧ qb = true):=by cases pb <;> simp_all
                    have c3 : ub = false ∨ (ub = true ∧ vb = true):=by cases ub <;> simp_all
                    clear m1 m2 m3
                    rcases c1 with rfl | ⟨rfl,rfl⟩ <;> rcases c2 with rfl | ⟨rfl,rfl⟩ <;> rcases c3 with rfl | ⟨rfl,rfl⟩ <;> cases ac
                    all_goals
                      go_wp2
                      go_round
                      case rel => exact ⟨s + 1,by omega,by go_num,by rw [HNX.out];simp⟩
                      case measure => simp [intOf];omega
                  · have hse : s = n:=by omega
                    subst hse
                    have HEQ : Aside0 (allP (prodF g) s = true → usefulF g = reachF g allOk (g.terms.length : Int)):=⟨fun h => useful_all HGD.out (fun t ht => allP_all h t (by rw [← HN.out];exact ht))⟩
                    obtain ⟨ac,hac⟩ : ∃ b,allP (prodF g) s = b:=⟨_,rfl⟩
                    rw [hac] at HEQ ⊢
                    clear hac
                    obtain ⟨n,hnn⟩ : ∃ n,n = s:=⟨_,rfl⟩
                    cases ac
                    · go_wp2
                      go_loop [19] (fun i => ∃ t : Nat,t ≤ s ∧ i = .int .i64 t) (fun i => s - (intOf i).toNat)
                      case atStart => exact ⟨0,Nat.zero_le _,rfl⟩
                      case round =>
                        obtain ⟨t,ht,rfl⟩:=hrel
                        have ht0 : t < s ∨ ¬ t < s:=by omega
                        rcases ht0 with ht1 | ht1
                        all_goals go_upto_region 30 with (fail)
                        · refine pl_start ?_
                          refine pl_held (B:=y3.heap.size) (v:=y3) (Below.refl _ _) (fun hHeld => ?_)
                          refine goesCL_ (N:=(some 205)) Try.func37 (by kernel_rfl) rfl (by rfl) rfl rfl (wakes07_c _) (by simp [Act.eval]) ?_
                          rintro e x30_0 ⟨rfl,hb30_0⟩
                          refine ⟨_,rfl,?_⟩
                          simp only [Act.put,List.setIfInBounds_toArray,List.set_cons_zero,List.set_cons_succ]
                          refine pl_held (B:=y3.heap.size) (v:=y3) (below_then hHeld hHeld.size hb30_0) (fun hHeld => ?_)
                          refine pl_pure (N:=(some 6)) (v:=?v20) (by rfl) rfl ?h20 ?_
                          case h20 => (go_simp;rfl)
                          simp only [Act.put,List.setIfInBounds_toArray,List.set_cons_zero,List.set_cons_succ]
                          refine pl_nil ?_
                          go_wp2
                          go_ret
                          exact ⟨ret_bool rfl,below_then HV10.out HV10.out.size hHeld⟩
                        · refine pl_start ?_
                          refine pl_held (B:=y3.heap.size) (v:=y3) (Below.refl _ _) (fun hHeld => ?_)
                          refine goesCL_ (N:=(some 205)) Try.func37 (by kernel_rfl) rfl (by rfl) rfl rfl (wakes07_c _) (by simp [Act.eval]) ?_
                          rintro e x30_0 ⟨rfl,hb30_0⟩
                          refine ⟨_,rfl,?_⟩
                          simp only [Act.put,List.setIfInBounds_toArray,List.set_cons_zero,List.set_cons_succ]
                          refine pl_held (B:=y3.heap.size) (v:=y3) (below_then hHeld hHeld.size hb30_0) (fun hHeld => ?_)
                          refine pl_pure (N:=(some 6)) (v:=?v22) (by rfl) rfl ?h22 ?_
                          case h22 => (go_simp;rfl)
                          simp only [Act.put,List.setIfInBounds_toArray,List.set_cons_zero,List.set_cons_succ]
                          refine pl_nil ?_
                          go_wp2
                          go_ret
                          exact ⟨ret_bool rfl,below_then HV10.out HV10.out.size hHeld⟩
                    · have HEE:=HEQ.out rfl
                      rw [HEE] at HUU LU
                      clear HEE
                      go_wp2
                      go_loopw [19] (fun i wr => ∃ t : Nat,t ≤ s ∧ i = .int .i64 t ∧ Aside0 (Below y3.heap.size y3 wr)) (fun i _ => s - (intOf i).toNat)
                      case atStart => exact ⟨0,Nat.zero_le _,rfl,⟨Below.refl _ _⟩⟩
                      case round =>
                        obtain ⟨t,ht,rfl,HY⟩:=hrel
                        rename World => yi
                        by_cases hts : t < s
                        · have i1 : (0 : Int) ≤ (t : Int):=by omega
                          have i2 : (t : Int) < (s : Int):=by omega
                          obtain ⟨ab,hab⟩ : ∃ b,getB (reachF g allOk (g.terms.length : Int)) (t : Int) = b:=⟨_,rfl⟩
                          have z1:=(RA.out.below HY.out).cell' (i:=t) (by rw [LA.out];exact hts) hab
                          have z5:=(HUU.out.below HY.out).cell' (i:=t) (by rw [LA.out];exact hts) hab
                          clear hab
                          cases ab
                          · go_upto_region 28 with (fail)
                            refine start_ (n:=9) (S:=fun w' => Below yi.heap.size yi w') (ds:=[]) (lb 9 0x0) (by kernel_rfl) rfl (by kernel_rfl) (below_drew1 (Below.refl _ _)) (fun hHeld => ?_)
                            refine pure_ (i:=0) (N:=(some 196)) (v:=?_) (a':=?_) (lb 9 0x1) rfl rfl (by kernel_rfl) (fun _ _ _ h => h) (Or.inl ⟨by rfl,?_⟩) ?_ ?_
                            rotate_left
                            · (intro w';go_simp;with_reducible rfl)
                            rotate_left
                            · (simp only [Act.put,List.setIfInBounds_toArray,List.set_cons_zero,List.set_cons_succ];rfl)
                            refine pure_ (i:=1) (N:=(some 197)) (v:=?_) (a':=?_) (lb 9 0x3) rfl rfl (by kernel_rfl) (fun _ _ _ h => h) (Or.inl ⟨by rfl,?_⟩) ?_ ?_
                            rotate_left
                            · (intro w';go_simp;with_reducible rfl)
                            rotate_left
                            · (simp only [Act.put,List.setIfInBounds_toArray,List.set_cons_zero,List.set_cons_succ];rfl)
                            refine pure_ (i:=2) (N:=(some 198)) (v:=?_) (a':=?_) (lb 9 0x7) rfl rfl (by kernel_rfl) (fun _ _ _ h => h) (Or.inl ⟨by rfl,?_⟩) ?_ ?_
                            rotate_left
                            · (intro w';go_simp;with_reducible rfl)
                            rotate_left
                            · (simp only [Act.put,List.setIfInBounds_toArray,List.set_cons_zero,List.set_cons_succ];rfl)
                            refine pure_ (i:=4) (N:=(some 200)) (v:=?_) (a':=?_) (lb 9 0x17) rfl rfl (by kernel_rfl) (fun _ _ _ h => h) (Or.inl ⟨by rfl,?_⟩) ?_ ?_
                            rotate_left
                            · (intro w';go_simp;with_reducible rfl)
                            rotate_left
                            · (simp only [Act.put,List.setIfInBounds_toArray,List.set_cons_zero,List.set_cons_succ];rfl)
                            refine pure_ (i:=5) (N:=(some 201)) (v:=?_) (a':=?_) (lb 9 0x37) rfl rfl (by kernel_rfl) (fun _ _ _ h => h) (Or.inl ⟨by rfl,?_⟩) ?_ ?_
                            rotate_left
                            · (intro w';go_simp;with_reducible rfl)
                            rotate_left
                            · (simp only [Act.put,List.setIfInBounds_toArray,List.set_cons_zero,List.set_cons_succ];rfl)
                            refine pure_ (i:=6) (N:=(some 202)) (v:=?_) (a':=?_) (lb 9 0x77) rfl rfl (by kernel_rfl) (fun _ _ _ h => h) (Or.inl ⟨by rfl,?_⟩) ?_ ?_
                            rotate_left
                            · (intro w';go_simp;with_reducible rfl)
                            rotate_left
                            · (simp only [Act.put,List.setIfInBounds_toArray,List.set_cons_zero,List.set_cons_succ];rfl)
                            refine take_ (i:=3) (N:=(some 199)) (v:=?_) (a':=?_) (lb 9 0x7f) rfl rfl (by kernel_rfl) (fun _ _ _ h => h) (Or.inl ⟨by rfl,?_⟩) hHeld ?_ ?_
                            rotate_left
                            · (rintro w' hS;have d0:=cell_at hS z1;have d1:=cell_at hS z5;go_simp;with_reducible rfl)
                            rotate_left
                            · (simp only [Act.put,List.setIfInBounds_toArray,List.set_cons_zero,List.set_cons_succ];rfl)
                            refine take_ (i:=7) (N:=(some 203)) (v:=?_) (a':=?_) (lb 9 0xff) rfl rfl (by kernel_rfl) (fun _ _ _ h => h) (Or.inl ⟨by rfl,?_⟩) hHeld ?_ ?_
                            rotate_left
                            · (rintro w' hS;have d0:=cell_at hS z1;have d1:=cell_at hS z5;go_simp;with_reducible rfl)
                            rotate_left
                            · (simp only [Act.put,List.setIfInBounds_toArray,List.set_cons_zero,List.set_cons_succ];rfl)
                            refine pure_ (i:=8) (N:=(some 204)) (v:=?_) (a':=?_) (lb 9 0x1ff) rfl rfl (by kernel_rfl) (fun _ _ _ h => h) (Or.inl ⟨by rfl,?_⟩) ?_ ?_
                            rotate_left
                            · (intro w';go_simp;with_reducible rfl)
                            rotate_left
                            · (simp only [Act.put,List.setIfInBounds_toArray,List.set_cons_zero,List.set_cons_succ];rfl)
                            refine done_ (by kernel_rfl) ?_
                            have HY2:=Aside0.mk (below_then HY.out HY.out.size hHeld)
                            go_wp2
                            go_roundw
                            case rel => exact ⟨t + 1,by omega,by go_num,HY2⟩
                            case measure => simp [intOf];omega
                          · go_upto_region 28 with (fail)
                            refine start_ (n:=9) (S:=fun w' => Below yi.heap.size yi w') (ds:=[]) (lb 9 0x0) (by kernel_rfl) rfl (by kernel_rfl) (below_drew1 (Below.refl _ _)) (fun hHeld => ?_)
                            refine pure_ (i:=0) (N:=(some 196)) (v:=?_) (a':=?_) (lb 9 0x1) rfl rfl (by kernel_rfl) (fun _ _ _ h => h) (Or.inl ⟨by rfl,?_⟩) ?_ ?_
                            rotate_left
                            · (intro w';go_simp;with_reducible rfl)
                            rotate_left
                            · (simp only [Act.put,List.setIfInBounds_toArray,List.set_cons_zero,List.set_cons_succ];rfl)
                            refine pure_ (i:=1) (N:=(some 197)) (v:=?_) (a':=?_) (lb 9 0x3) rfl rfl (by kernel_rfl) (fun _ _ _ h => h) (Or.inl ⟨by rfl,?_⟩) ?_ ?_
                            rotate_left
                            · (intro w';go_simp;with_reducible rfl)
                            rotate_left
                            · (simp only [Act.put,List.setIfInBounds_toArray,List.set_cons_zero,List.set_cons_succ];rfl)
                            refine pure_ (i:=2) (N:=(some 198)) (v:=?_) (a':=?_) (lb 9 0x7) rfl rfl (by kernel_rfl) (fun _ _ _ h => h) (Or.inl ⟨by rfl,?_⟩) ?_ ?_
                            rotate_left
                            · (intro w';go_simp;with_reducible rfl)
                            rotate_left
                            · (simp only [Act.put,List.setIfInBounds_toArray,List.set_cons_zero,List.set_cons_succ];rfl)
                            refine pure_ (i:=4) (N:=(some 200)) (v:=?_) (a':=?_) (lb 9 0x17) rfl rfl (by kernel_rfl) (fun _ _ _ h => h) (Or.inl ⟨by rfl,?_⟩) ?_ ?_
                            rotate_left
                            · (intro w';go_simp;with_reducible rfl)
                            rotate_left
                            · (simp only [Act.put,List.setIfInBounds_toArray,List.set_cons_zero,List.set_cons_succ];rfl)
                            refine pure_ (i:=5) (N:=(some 201)) (v:=?_) (a':=?_) (lb 9 0x37) rfl rfl (by kernel_rfl) (fun _ _ _ h => h) (Or.inl ⟨by rfl,?_⟩) ?_ ?_
                            rotate_left
                            · (intro w';go_simp;with_reducible rfl)
                            rotate_left
                            · (simp only [Act.put,List.setIfInBounds_toArray,List.set_cons_zero,List.set_cons_succ];rfl)
                            refine pure_ (i:=6) (N:=(some 202)) (v:=?_) (a':=?_) (lb 9 0x77) rfl rfl (by kernel_rfl) (fun _ _ _ h => h) (Or.inl ⟨by rfl,?_⟩) ?_ ?_
                            rotate_left
                            · (intro w';go_simp;with_reducible rfl)
                            rotate_left
                            · (simp only [Act.put,List.setIfInBounds_toArray,List.set_cons_zero,List.set_cons_succ];rfl)
                            refine take_ (i:=3) (N:=(some 199)) (v:=?_) (a':=?_) (lb 9 0x7f) rfl rfl (by kernel_rfl) (fun _ _ _ h => h) (Or.inl ⟨by rfl,?_⟩) hHeld ?_ ?_
                            rotate_left
                            · (rintro w' hS;have d0:=cell_at hS z1;have d1:=cell_at hS z5;go_simp;with_reducible rfl)
                            rotate_left
                            · (simp only [Act.put,List.setIfInBounds_toArray,List.set_cons_zero,List.set_cons_succ];rfl)
                            refine take_ (i:=7) (N:=(some 203)) (v:=?_) (a':=?_) (lb 9 0xff) rfl rfl (by kernel_rfl) (fun _ _ _ h => h) (Or.inl ⟨by rfl,?_⟩) hHeld ?_ ?_
                            rotate_left
                            · (rintro w' hS;have d0:=cell_at hS z1;have d1:=cell_at hS z5;go_simp;with_reducible rfl)
                            rotate_left
                            · (simp only [Act.put,List.setIfInBounds_toArray,List.set_cons_zero,List.set_cons_succ];rfl)
                            refine pure_ (i:=8) (N:=(some 204)) (v:=?_) (a':=?_) (lb 9 0x1ff) rfl rfl (by kernel_rfl) (fun _ _ _ h => h) (Or.inl ⟨by rfl,?_⟩) ?_ ?_
                            rotate_left
                            · (intro w';go_simp;with_reducible rfl)
                            rotate_left
                            · (simp only [Act.put,List.setIfInBounds_toArray,List.set_cons_zero,List.set_cons_succ];rfl)
                            refine done_ (by kernel_rfl) ?_
                            have HY2:=Aside0.mk (below_then HY.out HY.out.size hHeld)
                            go_wp2
                            go_roundw
                            case rel => exact ⟨t + 1,by omega,by go_num,HY2⟩
                            case measure => simp [intOf];omega
                        · go_upto_region 30 with (fail)
                          refine pl_start ?_
                          refine pl_held (B:=yi.heap.size) (v:=yi) (Below.refl _ _) (fun hHeld => ?_)
                          refine goesCL_ (N:=(some 205)) Try.func37 (by kernel_rfl) rfl (by rfl) rfl rfl (wakes07_c _) (by simp [Act.eval]) ?_
                          rintro e x30_0 ⟨rfl,hb30_0⟩
                          refine ⟨_,rfl,?_⟩
                          simp only [Act.put,List.setIfInBounds_toArray,List.set_cons_zero,List.set_cons_succ]
                          refine pl_held (B:=yi.heap.size) (v:=yi) (below_then hHeld hHeld.size hb30_0) (fun hHeld => ?_)
                          refine pl_pure (N:=(some 6)) (v:=?v24) (by rfl) rfl ?h24 ?_
                          case h24 => (go_simp;rfl)
                          simp only [Act.put,List.setIfInBounds_toArray,List.set_cons_zero,List.set_cons_succ]
                          refine pl_nil ?_
                          go_wp2
                          go_ret
                          exact ⟨ret_bool rfl,below_then HV10.out HV10.out.size (below_then HY.out HY.out.size hHeld)⟩
  · refine pl_pure (N:=(some 22)) (v:=?v25) (by rfl) rfl ?h25 ?_
    case h25 => (go_simp;rfl)
    simp only [Act.put,List.setIfInBounds_toArray,List.set_cons_zero,List.set_cons_succ]
    refine pl_off (N:=(some 23)) (by rfl) rfl ?_
    simp only [Act.put,List.setIfInBounds_toArray,List.set_cons_zero,List.set_cons_succ]
    refine pl_off (N:=(some 24)) (by rfl) rfl ?_
    simp only [Act.put,List.setIfInBounds_toArray,List.set_cons_zero,List.set_cons_succ]
    refine pl_off (N:=(some 25)) (by rfl) rfl ?_
    simp only [Act.put,List.setIfInBounds_toArray,List.set_cons_zero,List.set_cons_succ]
    refine pl_pure (N:=(some 26)) (v:=?v29) (by rfl) rfl ?h29 ?_
    case h29 => (go_simp;rfl)
    simp only [Act.put,List.setIfInBounds_toArray,List.set_cons_zero,List.set_cons_succ]
    refine pl_pure (N:=(some 27)) (v:=?v30) (by rfl) rfl ?h30 ?_
    case h30 => (go_simp;rfl)
    simp only [Act.put,List.setIfInBounds_toArray,List.set_cons_zero,List.set_cons_succ]
    refine pl_off (N:=(some 28)) (by rfl) rfl ?_
    simp only [Act.put,List.setIfInBounds_toArray,List.set_cons_zero,List.set_cons_succ]
    refine pl_off (N:=(some 29)) (by rfl) rfl ?_
    simp only [Act.put,List.setIfInBounds_toArray,List.set_cons_zero,List.set_cons_succ]
    refine pl_off (N:=(some 30)) (by rfl) rfl ?_
    simp only [Act.put,List.setIfInBounds_toArray,List.set_cons_zero,List.set_cons_succ]
    refine pl_pure (N:=(some 31)) (v:=?v34) (by rfl) rfl ?h34 ?_
    case h34 => (go_simp;rfl)
    simp only [Act.put,List.setIfInBounds_toArray,List.set_cons_zero,List.set_cons_succ]
    refine pl_pure (N:=(some 32)) (v:=?v35) (by rfl) rfl ?h35 ?_
    case h35 => (go_simp;rfl)
    simp only [Act.put,List.setIfInBounds_toArray,List.set_cons_zero,List.set_cons_succ]
    refine pl_off (N:=(some 33)) (by rfl) rfl ?_
    simp only [Act.put,List.setIfInBounds_toArray,List.set_cons_zero,List.set_cons_succ]
    refine pl_off (N:=(some 34)) (by rfl) rfl ?_
    simp only [Act.put,List.setIfInBounds_toArray,List.set_cons_zero,List.set_cons_succ]
    refine pl_off (N:=(some 35)) (by rfl) rfl ?_
    simp only [Act.put,List.setIfInBounds_toArray,List.set_cons_zero,List.set_cons_succ]
    refine pl_off (N:=(some 36)) (by rfl) rfl ?_
    simp only [Act.put,List.setIfInBounds_toArray,List.set_cons_zero,List.set_cons_succ]
    refine pl_pure (N:=(some 37)) (v:=?v40) (by rfl) rfl ?h40 ?_
    case h40 => (go_simp;rfl)
    simp only [Act.put,List.setIfInBounds_toArray,List.set_cons_zero,List.set_cons_succ]
    refine pl_nil ?_
    go_upto_region 2 with (fail)
    refine pl_start ?_
    refine pl_held (B:=v0.heap.size) (v:=v0) (HX1.out) (fun hHeld => ?_)
    refine goesCL_ (N:=(some 38)) Try.func37 (by kernel_rfl) rfl (by rfl) rfl rfl (wakes07_c _) (by simp [Act.eval]) ?_
    rintro e x2_0 ⟨rfl,hb2_0⟩
    refine ⟨_,rfl,?_⟩
    simp only [Act.put,List.setIfInBounds_toArray,List.set_cons_zero,List.set_cons_succ]
    refine pl_held (B:=v0.heap.size) (v:=v0) (below_then hHeld hHeld.size hb2_0) (fun hHeld => ?_)
    refine pl_pure (N:=(some 6)) (v:=?v42) (by rfl) rfl ?h42 ?_
    case h42 => (go_simp;rfl)
    simp only [Act.put,List.setIfInBounds_toArray,List.set_cons_zero,List.set_cons_succ]
    refine pl_nil ?_
    go_wp2
    go_ret
    exact ⟨ret_bool rfl,below_then HB0.out HB0.out.size hHeld⟩
end Go.Proofs.Ytphmmppmhphgeaa
