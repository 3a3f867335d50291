/- The law NullableDerives, walked: it answers true. -/
import Derived.Test.YtphmmppmhphgeaaV2j
import Derived.Test.YtphmmppmhphgeaaP13j
import Derived.Test.YtphmmppmhphgeaaX5j
set_option linter.unusedVariables false
set_option linter.unusedSimpArgs false
namespace Go.Proofs.Ytphmmppmhphgeaa
open Go.RowKit Go.Proofs.YtphmmppmhphgeaaW.PrintWords Go.Proofs.YtphmmppmhphgeaaW.PrintLast

theorem good1_3 (ts ns : List ByteArray) (rs : List Rule) (A1 A2 A3 : Option Addr) (c1 c2 c3 : Nat) (w : World) (hg : RepG w ⟨ts, ns, rs⟩ A1 A2 A3 c1 c2 c3) (hz : Sized ⟨ts, ns, rs⟩) {v : Bool} (hv : goodF ⟨ts, ns, rs⟩ = v) :
    Calls Try.prog 24 #[.agg #[.slice A1 ts.length c1, .slice A2 ns.length c2, .slice A3 rs.length c3]] w fun e w' => e = .returned (.bool v) ∧ Below w.heap.size w w' := good1_v ⟨ts, ns, rs⟩ A1 A2 A3 c1 c2 c3 w hg hz hv
theorem ofN_3 (ts ns : List ByteArray) (rs : List Rule) (A1 A2 A3 : Option Addr) (c1 c2 c3 : Nat) (w : World) (hg : RepG w ⟨ts, ns, rs⟩ A1 A2 A3 c1 c2 c3) (hgd : goodF ⟨ts, ns, rs⟩ = true) {n : Nat} (hn : nsym ⟨ts, ns, rs⟩ = n) :
    Calls Try.prog 30 #[.agg #[.slice A1 ts.length c1, .slice A2 ns.length c2, .slice A3 rs.length c3]] w fun e w' => (∃ b, e = .returned (.slice (some ⟨b, 0, none⟩) n n) ∧ BB w' b (nullF ⟨ts, ns, rs⟩) ∧ w.heap.size ≤ b) ∧ Below w.heap.size w w' := ofN_n ⟨ts, ns, rs⟩ A1 A2 A3 c1 c2 c3 w hg hgd hn
set_option maxRecDepth 100000 in
set_option maxHeartbeats 16000000 in
theorem nullDerives_c (g : Gram) (A1 A2 A3 : Option Addr) (c1 c2 c3 : Nat) (lft : Int) (L : Option Addr) (cl : Nat) (l : List Int) (w : World) (hg : RepG w g A1 A2 A3 c1 c2 c3) (hz : Sized g) (hlf : 0 ≤ lft ∧ lft ≤ 255) (hl : kU8.C w L l.length l) (hlb : ∀ x ∈ l, 0 ≤ x ∧ x ≤ 255) :
    Calls Try.prog 9 #[.agg #[.slice A1 g.terms.length c1, .slice A2 g.names.length c2, .slice A3 g.rules.length c3], .int .u8 lft, .slice L l.length cl] w fun e w' => e = .returned (.bool true) ∧ Below w.heap.size w w' := by
  obtain ⟨v0, hv0⟩ : ∃ v0 : World, v0 = w.alloc (.cells #[.slice A1 g.terms.length c1, .slice A2 g.names.length c2, .slice A3 g.rules.length c3] 25 (0, 0)) := ⟨_, rfl⟩
  have HB0 : Aside0 (Below w.heap.size w v0) := ⟨by rw [hv0]; exact (Below.refl w.heap.size w).alloc (Nat.le_refl _) _⟩
  have HP0 : Aside0 (v0.heap[w.heap.size]? = some (.cells #[.slice A1 g.terms.length c1, .slice A2 g.names.length c2, .slice A3 g.rules.length c3] 25 (0, 0))) := ⟨by rw [hv0]; exact blk_new w _⟩
  have HG0 := Aside0.mk (hg.below_ HB0.out)
  have HL0 := Aside0.mk (Kd.C_below hl HB0.out)
  have HLB := Aside0.mk hlb
  have HZ := Aside0.mk hz
  have hlm := C_max hl
  have hrm := C_max hg.rules
  clear hg hz hl hlb
  go_enter Try.func9, Try.ntmps9
  go_upto_region 1 with (fail)
  simp only [← hv0]
  clear hv0
  refine pl_start ?_
  refine pl_held (B := v0.heap.size) (v := v0) (Below.refl _ _) (fun hHeld => ?_)
  refine pl_pure (N := (some 17)) (v := ?v93) (by rfl) rfl ?h93 ?_
  case h93 => (have d0 := (blk_cell (blk_below HP0.out hHeld) 0).trans rfl; have d1 := (blk_cell (blk_below HP0.out hHeld) 1).trans rfl; have d2 := (blk_cell (blk_below HP0.out hHeld) 2).trans rfl; go_simp; rfl)
  simp only [Act.put, List.setIfInBounds_toArray, List.set_cons_zero, List.set_cons_succ]
  refine goesCL_ (N := (some 18)) Try.func15 (by kernel_rfl) rfl (by rfl) rfl rfl (large_c g A1 A2 A3 c1 c2 c3 _ (HG0.out.below_ hHeld)) (by simp [Act.eval]) ?_
  rintro e x1_1 ⟨⟨lb, rfl, hs⟩, hb1_1⟩
  refine ⟨_, rfl, ?_⟩
  simp only [Act.put, List.setIfInBounds_toArray, List.set_cons_zero, List.set_cons_succ]
  have HS := Aside0.mk hs
  clear hs
  refine pl_held (B := v0.heap.size) (v := v0) (below_then hHeld hHeld.size hb1_1) (fun hHeld => ?_)
  have HX1 := Aside0.mk hHeld
  cases lb
  · have HS1 := Aside0.mk (HS.out rfl)
    cases hgd : goodF g
    · refine pl_pure (N := (some 19)) (v := ?v95) (by rfl) rfl ?h95 ?_
      case h95 => (go_simp; rfl)
      simp only [Act.put, List.setIfInBounds_toArray, List.set_cons_zero, List.set_cons_succ]
      refine pl_pure (N := (some 20)) (v := ?v96) (by rfl) rfl ?h96 ?_
      case h96 => (have d0 := (blk_cell (blk_below HP0.out hHeld) 0).trans rfl; have d1 := (blk_cell (blk_below HP0.out hHeld) 1).trans rfl; have d2 := (blk_cell (blk_below HP0.out hHeld) 2).trans rfl; go_simp; rfl)
      simp only [Act.put, List.setIfInBounds_toArray, List.set_cons_zero, List.set_cons_succ]
      refine goesCL_ (N := (some 21)) Try.func24 (by kernel_rfl) rfl (by rfl) rfl rfl (good1_v g A1 A2 A3 c1 c2 c3 _ (HG0.out.below_ hHeld) HZ.out hgd) (by simp [Act.eval]) ?_
      rintro e x1_4 ⟨rfl, hb1_4⟩
      refine ⟨_, rfl, ?_⟩
      simp only [Act.put, List.setIfInBounds_toArray, List.set_cons_zero, List.set_cons_succ]
      refine pl_held (B := v0.heap.size) (v := v0) (below_then hHeld hHeld.size hb1_4) (fun hHeld => ?_)
      refine pl_pure (N := (some 22)) (v := ?v98) (by rfl) rfl ?h98 ?_
      case h98 => (go_simp; rfl)
      simp only [Act.put, List.setIfInBounds_toArray, List.set_cons_zero, List.set_cons_succ]
      refine pl_pure (N := (some 23)) (v := ?v99) (by rfl) rfl ?h99 ?_
      case h99 => (go_simp; rfl)
      simp only [Act.put, List.setIfInBounds_toArray, List.set_cons_zero, List.set_cons_succ]
      refine pl_pure (N := (some 24)) (v := ?v100) (by rfl) rfl ?h100 ?_
      case h100 => (go_simp; rfl)
      simp only [Act.put, List.setIfInBounds_toArray, List.set_cons_zero, List.set_cons_succ]
      refine pl_off (N := (some 25)) (by rfl) rfl ?_
      simp only [Act.put, List.setIfInBounds_toArray, List.set_cons_zero, List.set_cons_succ]
      refine pl_off (N := (some 26)) (by rfl) rfl ?_
      simp only [Act.put, List.setIfInBounds_toArray, List.set_cons_zero, List.set_cons_succ]
      refine pl_off (N := (some 27)) (by rfl) rfl ?_
      simp only [Act.put, List.setIfInBounds_toArray, List.set_cons_zero, List.set_cons_succ]
      refine pl_pure (N := (some 28)) (v := ?v104) (by rfl) rfl ?h104 ?_
      case h104 => (go_simp; rfl)
      simp only [Act.put, List.setIfInBounds_toArray, List.set_cons_zero, List.set_cons_succ]
      refine pl_pure (N := (some 29)) (v := ?v105) (by rfl) rfl ?h105 ?_
      case h105 => (go_simp; rfl)
      simp only [Act.put, List.setIfInBounds_toArray, List.set_cons_zero, List.set_cons_succ]
      refine pl_off (N := (some 30)) (by rfl) rfl ?_
      simp only [Act.put, List.setIfInBounds_toArray, List.set_cons_zero, List.set_cons_succ]
      refine pl_off (N := (some 31)) (by rfl) rfl ?_
      simp only [Act.put, List.setIfInBounds_toArray, List.set_cons_zero, List.set_cons_succ]
      refine pl_off (N := (some 32)) (by rfl) rfl ?_
      simp only [Act.put, List.setIfInBounds_toArray, List.set_cons_zero, List.set_cons_succ]
      refine pl_off (N := (some 33)) (by rfl) rfl ?_
      simp only [Act.put, List.setIfInBounds_toArray, List.set_cons_zero, List.set_cons_succ]
      refine pl_pure (N := (some 34)) (v := ?v110) (by rfl) rfl ?h110 ?_
      case h110 => (go_simp; rfl)
      simp only [Act.put, List.setIfInBounds_toArray, List.set_cons_zero, List.set_cons_succ]
      refine pl_nil ?_
      go_upto_region 2 with (fail)
      refine pl_start ?_
      refine pl_held (B := v0.heap.size) (v := v0) (below_then HX1.out HX1.out.size hb1_4) (fun hHeld => ?_)
      refine goesCL_ (N := (some 35)) Try.func28 (by kernel_rfl) rfl (by rfl) rfl rfl (wakes06_c _) (by simp [Act.eval]) ?_
      rintro e x2_0 ⟨rfl, hb2_0⟩
      refine ⟨_, rfl, ?_⟩
      simp only [Act.put, List.setIfInBounds_toArray, List.set_cons_zero, List.set_cons_succ]
      refine pl_held (B := v0.heap.size) (v := v0) (below_then hHeld hHeld.size hb2_0) (fun hHeld => ?_)
      refine pl_pure (N := (some 6)) (v := ?v2) (by rfl) rfl ?h2 ?_
      case h2 => (go_simp; rfl)
      simp only [Act.put, List.setIfInBounds_toArray, List.set_cons_zero, List.set_cons_succ]
      refine pl_nil ?_
      go_wp2
      go_ret
      exact ⟨ret_bool rfl, below_then HB0.out HB0.out.size hHeld⟩
    · by_cases hl8 : 8 < l.length
      · have d1 : decide ((8 : Int) < (l.length : Int)) = true := by simp; omega
        refine pl_pure (N := (some 19)) (v := ?v111) (by rfl) rfl ?h111 ?_
        case h111 => (go_simp; rfl)
        simp only [Act.put, List.setIfInBounds_toArray, List.set_cons_zero, List.set_cons_succ]
        refine pl_pure (N := (some 20)) (v := ?v112) (by rfl) rfl ?h112 ?_
        case h112 => (have d0 := (blk_cell (blk_below HP0.out hHeld) 0).trans rfl; have d1 := (blk_cell (blk_below HP0.out hHeld) 1).trans rfl; have d2 := (blk_cell (blk_below HP0.out hHeld) 2).trans rfl; go_simp; rfl)
        simp only [Act.put, List.setIfInBounds_toArray, List.set_cons_zero, List.set_cons_succ]
        refine goesCL_ (N := (some 21)) Try.func24 (by kernel_rfl) rfl (by rfl) rfl rfl (good1_v g A1 A2 A3 c1 c2 c3 _ (HG0.out.below_ hHeld) HZ.out hgd) (by simp [Act.eval]) ?_
        rintro e x1_4 ⟨rfl, hb1_4⟩
        refine ⟨_, rfl, ?_⟩
        simp only [Act.put, List.setIfInBounds_toArray, List.set_cons_zero, List.set_cons_succ]
        refine pl_held (B := v0.heap.size) (v := v0) (below_then hHeld hHeld.size hb1_4) (fun hHeld => ?_)
        refine pl_pure (N := (some 22)) (v := ?v114) (by rfl) rfl ?h114 ?_
        case h114 => (go_simp; rfl)
        simp only [Act.put, List.setIfInBounds_toArray, List.set_cons_zero, List.set_cons_succ]
        refine pl_pure (N := (some 23)) (v := ?v115) (by rfl) rfl ?h115 ?_
        case h115 => (go_simp; rfl)
        simp only [Act.put, List.setIfInBounds_toArray, List.set_cons_zero, List.set_cons_succ]
        refine pl_pure (N := (some 24)) (v := ?v116) (by rfl) rfl ?h116 ?_
        case h116 => (go_simp; rfl)
        simp only [Act.put, List.setIfInBounds_toArray, List.set_cons_zero, List.set_cons_succ]
        refine pl_pure (N := (some 25)) (v := ?v117) (by rfl) rfl ?h117 ?_
        case h117 => (go_simp; rfl)
        simp only [Act.put, List.setIfInBounds_toArray, List.set_cons_zero, List.set_cons_succ]
        refine pl_pure (N := (some 26)) (v := ?v118) (by rfl) rfl ?h118 ?_
        case h118 => (go_simp; rfl)
        simp only [Act.put, List.setIfInBounds_toArray, List.set_cons_zero, List.set_cons_succ]
        refine pl_pure (N := (some 27)) (v := ?v119) (by rfl) rfl ?h119 ?_
        case h119 => (go_simp; rfl)
        simp only [Act.put, List.setIfInBounds_toArray, List.set_cons_zero, List.set_cons_succ]
        refine pl_pure (N := (some 28)) (v := ?v120) (by rfl) rfl ?h120 ?_
        case h120 => (go_simp; rfl)
        simp only [Act.put, List.setIfInBounds_toArray, List.set_cons_zero, List.set_cons_succ]
        refine pl_pure (N := (some 29)) (v := ?v121) (by rfl) rfl ?h121 ?_
        case h121 => (go_simp; rfl)
        simp only [Act.put, List.setIfInBounds_toArray, List.set_cons_zero, List.set_cons_succ]
        refine pl_off (N := (some 30)) (by rfl) rfl ?_
        simp only [Act.put, List.setIfInBounds_toArray, List.set_cons_zero, List.set_cons_succ]
        refine pl_off (N := (some 31)) (by rfl) rfl ?_
        simp only [Act.put, List.setIfInBounds_toArray, List.set_cons_zero, List.set_cons_succ]
        refine pl_off (N := (some 32)) (by rfl) rfl ?_
        simp only [Act.put, List.setIfInBounds_toArray, List.set_cons_zero, List.set_cons_succ]
        refine pl_off (N := (some 33)) (by rfl) rfl ?_
        simp only [Act.put, List.setIfInBounds_toArray, List.set_cons_zero, List.set_cons_succ]
        refine pl_pure (N := (some 34)) (v := ?v126) (by rfl) rfl ?h126 ?_
        case h126 => (go_simp; rfl)
        simp only [Act.put, List.setIfInBounds_toArray, List.set_cons_zero, List.set_cons_succ]
        refine pl_nil ?_
        go_upto_region 2 with (fail)
        refine pl_start ?_
        refine pl_held (B := v0.heap.size) (v := v0) (below_then HX1.out HX1.out.size hb1_4) (fun hHeld => ?_)
        refine goesCL_ (N := (some 35)) Try.func28 (by kernel_rfl) rfl (by rfl) rfl rfl (wakes06_c _) (by simp [Act.eval]) ?_
        rintro e x2_0 ⟨rfl, hb2_0⟩
        refine ⟨_, rfl, ?_⟩
        simp only [Act.put, List.setIfInBounds_toArray, List.set_cons_zero, List.set_cons_succ]
        refine pl_held (B := v0.heap.size) (v := v0) (below_then hHeld hHeld.size hb2_0) (fun hHeld => ?_)
        refine pl_pure (N := (some 6)) (v := ?v4) (by rfl) rfl ?h4 ?_
        case h4 => (go_simp; rfl)
        simp only [Act.put, List.setIfInBounds_toArray, List.set_cons_zero, List.set_cons_succ]
        refine pl_nil ?_
        go_wp2
        go_ret
        exact ⟨ret_bool rfl, below_then HB0.out HB0.out.size hHeld⟩
      · have d1 : decide ((8 : Int) < (l.length : Int)) = false := by simp; omega
        by_cases hr60 : 60 ≤ g.rules.length
        · have d2 : decide ((60 : Int) ≤ (g.rules.length : Int)) = true := by simp; omega
          refine pl_pure (N := (some 19)) (v := ?v127) (by rfl) rfl ?h127 ?_
          case h127 => (go_simp; rfl)
          simp only [Act.put, List.setIfInBounds_toArray, List.set_cons_zero, List.set_cons_succ]
          refine pl_pure (N := (some 20)) (v := ?v128) (by rfl) rfl ?h128 ?_
          case h128 => (have d0 := (blk_cell (blk_below HP0.out hHeld) 0).trans rfl; have d1 := (blk_cell (blk_below HP0.out hHeld) 1).trans rfl; have d2 := (blk_cell (blk_below HP0.out hHeld) 2).trans rfl; go_simp; rfl)
          simp only [Act.put, List.setIfInBounds_toArray, List.set_cons_zero, List.set_cons_succ]
          refine goesCL_ (N := (some 21)) Try.func24 (by kernel_rfl) rfl (by rfl) rfl rfl (good1_v g A1 A2 A3 c1 c2 c3 _ (HG0.out.below_ hHeld) HZ.out hgd) (by simp [Act.eval]) ?_
          rintro e x1_4 ⟨rfl, hb1_4⟩
          refine ⟨_, rfl, ?_⟩
          simp only [Act.put, List.setIfInBounds_toArray, List.set_cons_zero, List.set_cons_succ]
          refine pl_held (B := v0.heap.size) (v := v0) (below_then hHeld hHeld.size hb1_4) (fun hHeld => ?_)
          refine pl_pure (N := (some 22)) (v := ?v130) (by rfl) rfl ?h130 ?_
          case h130 => (go_simp; rfl)
          simp only [Act.put, List.setIfInBounds_toArray, List.set_cons_zero, List.set_cons_succ]
          refine pl_pure (N := (some 23)) (v := ?v131) (by rfl) rfl ?h131 ?_
          case h131 => (go_simp; rfl)
          simp only [Act.put, List.setIfInBounds_toArray, List.set_cons_zero, List.set_cons_succ]
          refine pl_pure (N := (some 24)) (v := ?v132) (by rfl) rfl ?h132 ?_
          case h132 => (go_simp; rfl)
          simp only [Act.put, List.setIfInBounds_toArray, List.set_cons_zero, List.set_cons_succ]
          refine pl_pure (N := (some 25)) (v := ?v133) (by rfl) rfl ?h133 ?_
          case h133 => (go_simp; rfl)
          simp only [Act.put, List.setIfInBounds_toArray, List.set_cons_zero, List.set_cons_succ]
          refine pl_pure (N := (some 26)) (v := ?v134) (by rfl) rfl ?h134 ?_
          case h134 => (go_simp; rfl)
          simp only [Act.put, List.setIfInBounds_toArray, List.set_cons_zero, List.set_cons_succ]
          refine pl_pure (N := (some 27)) (v := ?v135) (by rfl) rfl ?h135 ?_
          case h135 => (go_simp; rfl)
          simp only [Act.put, List.setIfInBounds_toArray, List.set_cons_zero, List.set_cons_succ]
          refine pl_pure (N := (some 28)) (v := ?v136) (by rfl) rfl ?h136 ?_
          case h136 => (go_simp; rfl)
          simp only [Act.put, List.setIfInBounds_toArray, List.set_cons_zero, List.set_cons_succ]
          refine pl_pure (N := (some 29)) (v := ?v137) (by rfl) rfl ?h137 ?_
          case h137 => (go_simp; rfl)
          simp only [Act.put, List.setIfInBounds_toArray, List.set_cons_zero, List.set_cons_succ]
          refine pl_pure (N := (some 30)) (v := ?v138) (by rfl) rfl ?h138 ?_
          case h138 => (go_simp; rfl)
          simp only [Act.put, List.setIfInBounds_toArray, List.set_cons_zero, List.set_cons_succ]
          refine pl_pure (N := (some 31)) (v := ?v139) (by rfl) rfl ?h139 ?_
          case h139 => (have d0 := (blk_cell (blk_below HP0.out hHeld) 0).trans rfl; have d1 := (blk_cell (blk_below HP0.out hHeld) 1).trans rfl; have d2 := (blk_cell (blk_below HP0.out hHeld) 2).trans rfl; go_simp; rfl)
          simp only [Act.put, List.setIfInBounds_toArray, List.set_cons_zero, List.set_cons_succ]
          refine pl_pure (N := (some 32)) (v := ?v140) (by rfl) rfl ?h140 ?_
          case h140 => (go_simp; rfl)
          simp only [Act.put, List.setIfInBounds_toArray, List.set_cons_zero, List.set_cons_succ]
          refine pl_pure (N := (some 33)) (v := ?v141) (by rfl) rfl ?h141 ?_
          case h141 => (go_simp; rfl)
          simp only [Act.put, List.setIfInBounds_toArray, List.set_cons_zero, List.set_cons_succ]
          refine pl_pure (N := (some 34)) (v := ?v142) (by rfl) rfl ?h142 ?_
          case h142 => (go_simp; rfl)
          simp only [Act.put, List.setIfInBounds_toArray, List.set_cons_zero, List.set_cons_succ]
          refine pl_nil ?_
          go_upto_region 2 with (fail)
          refine pl_start ?_
          refine pl_held (B := v0.heap.size) (v := v0) (below_then HX1.out HX1.out.size hb1_4) (fun hHeld => ?_)
          refine goesCL_ (N := (some 35)) Try.func28 (by kernel_rfl) rfl (by rfl) rfl rfl (wakes06_c _) (by simp [Act.eval]) ?_
          rintro e x2_0 ⟨rfl, hb2_0⟩
          refine ⟨_, rfl, ?_⟩
          simp only [Act.put, List.setIfInBounds_toArray, List.set_cons_zero, List.set_cons_succ]
          refine pl_held (B := v0.heap.size) (v := v0) (below_then hHeld hHeld.size hb2_0) (fun hHeld => ?_)
          refine pl_pure (N := (some 6)) (v := ?v6) (by rfl) rfl ?h6 ?_
          case h6 => (go_simp; rfl)
          simp only [Act.put, List.setIfInBounds_toArray, List.set_cons_zero, List.set_cons_succ]
          refine pl_nil ?_
          go_wp2
          go_ret
          exact ⟨ret_bool rfl, below_then HB0.out HB0.out.size hHeld⟩
        · have d2 : decide ((60 : Int) ≤ (g.rules.length : Int)) = false := by simp; omega
          refine pl_pure (N := (some 19)) (v := ?v143) (by rfl) rfl ?h143 ?_
          case h143 => (go_simp; rfl)
          simp only [Act.put, List.setIfInBounds_toArray, List.set_cons_zero, List.set_cons_succ]
          refine pl_pure (N := (some 20)) (v := ?v144) (by rfl) rfl ?h144 ?_
          case h144 => (have d0 := (blk_cell (blk_below HP0.out hHeld) 0).trans rfl; have d1 := (blk_cell (blk_below HP0.out hHeld) 1).trans rfl; have d2 := (blk_cell (blk_below HP0.out hHeld) 2).trans rfl; go_simp; rfl)
          simp only [Act.put, List.setIfInBounds_toArray, List.set_cons_zero, List.set_cons_succ]
          refine goesCL_ (N := (some 21)) Try.func24 (by kernel_rfl) rfl (by rfl) rfl rfl (good1_v g A1 A2 A3 c1 c2 c3 _ (HG0.out.below_ hHeld) HZ.out hgd) (by simp [Act.eval]) ?_
          rintro e x1_4 ⟨rfl, hb1_4⟩
          refine ⟨_, rfl, ?_⟩
          simp only [Act.put, List.setIfInBounds_toArray, List.set_cons_zero, List.set_cons_succ]
          refine pl_held (B := v0.heap.size) (v := v0) (below_then hHeld hHeld.size hb1_4) (fun hHeld => ?_)
          refine pl_pure (N := (some 22)) (v := ?v146) (by rfl) rfl ?h146 ?_
          case h146 => (go_simp; rfl)
          simp only [Act.put, List.setIfInBounds_toArray, List.set_cons_zero, List.set_cons_succ]
          refine pl_pure (N := (some 23)) (v := ?v147) (by rfl) rfl ?h147 ?_
          case h147 => (go_simp; rfl)
          simp only [Act.put, List.setIfInBounds_toArray, List.set_cons_zero, List.set_cons_succ]
          refine pl_pure (N := (some 24)) (v := ?v148) (by rfl) rfl ?h148 ?_
          case h148 => (go_simp; rfl)
          simp only [Act.put, List.setIfInBounds_toArray, List.set_cons_zero, List.set_cons_succ]
          refine pl_pure (N := (some 25)) (v := ?v149) (by rfl) rfl ?h149 ?_
          case h149 => (go_simp; rfl)
          simp only [Act.put, List.setIfInBounds_toArray, List.set_cons_zero, List.set_cons_succ]
          refine pl_pure (N := (some 26)) (v := ?v150) (by rfl) rfl ?h150 ?_
          case h150 => (go_simp; rfl)
          simp only [Act.put, List.setIfInBounds_toArray, List.set_cons_zero, List.set_cons_succ]
          refine pl_pure (N := (some 27)) (v := ?v151) (by rfl) rfl ?h151 ?_
          case h151 => (go_simp; rfl)
          simp only [Act.put, List.setIfInBounds_toArray, List.set_cons_zero, List.set_cons_succ]
          refine pl_pure (N := (some 28)) (v := ?v152) (by rfl) rfl ?h152 ?_
          case h152 => (go_simp; rfl)
          simp only [Act.put, List.setIfInBounds_toArray, List.set_cons_zero, List.set_cons_succ]
          refine pl_pure (N := (some 29)) (v := ?v153) (by rfl) rfl ?h153 ?_
          case h153 => (go_simp; rfl)
          simp only [Act.put, List.setIfInBounds_toArray, List.set_cons_zero, List.set_cons_succ]
          refine pl_pure (N := (some 30)) (v := ?v154) (by rfl) rfl ?h154 ?_
          case h154 => (go_simp; rfl)
          simp only [Act.put, List.setIfInBounds_toArray, List.set_cons_zero, List.set_cons_succ]
          refine pl_pure (N := (some 31)) (v := ?v155) (by rfl) rfl ?h155 ?_
          case h155 => (have d0 := (blk_cell (blk_below HP0.out hHeld) 0).trans rfl; have d1 := (blk_cell (blk_below HP0.out hHeld) 1).trans rfl; have d2 := (blk_cell (blk_below HP0.out hHeld) 2).trans rfl; go_simp; rfl)
          simp only [Act.put, List.setIfInBounds_toArray, List.set_cons_zero, List.set_cons_succ]
          refine pl_pure (N := (some 32)) (v := ?v156) (by rfl) rfl ?h156 ?_
          case h156 => (go_simp; rfl)
          simp only [Act.put, List.setIfInBounds_toArray, List.set_cons_zero, List.set_cons_succ]
          refine pl_pure (N := (some 33)) (v := ?v157) (by rfl) rfl ?h157 ?_
          case h157 => (go_simp; rfl)
          simp only [Act.put, List.setIfInBounds_toArray, List.set_cons_zero, List.set_cons_succ]
          refine pl_pure (N := (some 34)) (v := ?v158) (by rfl) rfl ?h158 ?_
          case h158 => (go_simp; rfl)
          simp only [Act.put, List.setIfInBounds_toArray, List.set_cons_zero, List.set_cons_succ]
          refine pl_nil ?_
          clear d1 d2
          obtain ⟨q1, q2, q3, q4⟩ := goodF_small hgd
          have HX4 := Aside0.mk (below_then HX1.out HX1.out.size hb1_4)
          obtain ⟨n, hn⟩ : ∃ n, nsym g = n := ⟨_, rfl⟩
          have hn80 : n ≤ 80 := by rw [← hn]; unfold nsym; omega
          have hn1 : 1 ≤ n := by rw [← hn]; unfold nsym; omega
          have hnT : g.terms.length < n := by rw [← hn]; unfold nsym; omega
          have e1 : IntKind.i64.wrap ((g.terms.length : Int) + (g.names.length : Int)) = (n : Int) := by rw [IntWalk.i64_in _ (by omega), ← hn]; unfold nsym; omega
          have HN := Lib.hid hn
          have HGD := Lib.hid hgd
          clear hn hgd hHeld hb1_1 hb1_4
          go_upto_region 3 with (fail)
          refine pl_start ?_
          refine pl_held (B := v0.heap.size) (v := v0) (HX4.out) (fun hHeld => ?_)
          refine pl_pure (N := (some 36)) (v := ?v159) (by rfl) rfl ?h159 ?_
          case h159 => (have d0 := (blk_cell (blk_below HP0.out hHeld) 0).trans rfl; have d1 := (blk_cell (blk_below HP0.out hHeld) 1).trans rfl; have d2 := (blk_cell (blk_below HP0.out hHeld) 2).trans rfl; go_simp; rfl)
          simp only [Act.put, List.setIfInBounds_toArray, List.set_cons_zero, List.set_cons_succ]
          refine goesCL_ (N := (some 37)) Try.func30 (by kernel_rfl) rfl (by rfl) rfl rfl (ofN_n g A1 A2 A3 c1 c2 c3 _ (HG0.out.below_ hHeld) HGD.out HN.out) (by simp [Act.eval]) ?_
          rintro e x3_1 ⟨⟨b, rfl, hbb, hbs⟩, hb3_1⟩
          refine ⟨_, rfl, ?_⟩
          simp only [Act.put, List.setIfInBounds_toArray, List.set_cons_zero, List.set_cons_succ]
          refine pl_held (B := v0.heap.size) (v := v0) (below_then hHeld hHeld.size hb3_1) (fun hHeld => ?_)
          refine pl_pure (N := (some 7)) (v := ?v161) (by rfl) rfl ?h161 ?_
          case h161 => (go_simp; rfl)
          simp only [Act.put, List.setIfInBounds_toArray, List.set_cons_zero, List.set_cons_succ]
          refine pl_nil ?_
          have HV5 := Aside0.mk (below_then HB0.out HB0.out.size hHeld)
          have HBB := Aside0.mk hbb
          have K5 := Aside0.mk (blk_below HP0.out hHeld)
          have HG5 := Aside0.mk (HG0.out.below_ hHeld)
          have HL5 := Aside0.mk (Kd.C_below HL0.out hHeld)
          have HNL : Aside0 ((nullF g).length = n) := ⟨by rw [nullF_len HGD.out, HN.out]⟩
          have a1 := (blk_cell K5.out 0).trans rfl
          have a2 := (blk_cell K5.out 1).trans rfl
          clear hHeld hbb hbs hb3_1 HX1 HX4 HP0 HG0 HL0 HB0
          rename World => v1
          go_wp2
          clear e1 a1 a2
          go_loopw [9] (fun i wr => ∃ s : Nat, s ≤ n ∧ i = .int .i64 s ∧ Aside0 (Below v1.heap.size v1 wr)) (fun i _ => n - (intOf i).toNat)
          case atStart => exact ⟨0, Nat.zero_le _, rfl, ⟨Below.refl _ _⟩⟩
          case round =>
            obtain ⟨s, hs, rfl, HB⟩ := hrel
            rename World => wo
            by_cases hsn : s < n
            · go_wp2
              go_loopw [11, 10] (fun i sv wr => ∃ k : Nat, k ≤ g.rules.length ∧ i = .int .i64 k ∧ sv = .bool (someF (nullF g) (g.rules.take k) (s : Int)) ∧ Aside0 (Below v1.heap.size v1 wr)) (fun i _ _ => g.rules.length - (intOf i).toNat)
              case atStart => exact ⟨0, Nat.zero_le _, rfl, by simp [someF], HB⟩
              case round =>
                clear HB
                obtain ⟨k, hk, rfl, rfl, HB⟩ := hrel
                rename World => wi
                have K6 := Aside0.mk (blk_below K5.out HB.out)
                have HG6 := Aside0.mk (HG5.out.below_ HB.out)
                have a3 := (blk_cell K6.out 2).trans rfl
                by_cases hlt : k < g.rules.length
                · obtain ⟨ad, B1, d1, ead, hx, hy, hd1, hC1⟩ := at_rule HG6.out.rules k hlt
                  cases ead
                  have HT := Lib.hid (someF_take (m := nullF g) (s := (s : Int)) hlt)
                  have hmem := goodF_mem HGD.out (g.rules[k]'hlt) (List.getElem_mem _)
                  have HRB := Aside0.mk (ruleB_at HGD.out hlt)
                  obtain ⟨x, hx1⟩ : ∃ x, x = g.rules[k]'hlt := ⟨_, rfl⟩
                  rw [← hx1] at hx HT hmem HRB
                  clear hx1 hy hd1 hC1
                  obtain ⟨lf, hlf2⟩ := Int.eq_ofNat_of_zero_le (by omega : 0 ≤ x.left)
                  rw [hlf2] at hx HT
                  have HXC := Aside0.mk hx
                  obtain ⟨al, hal⟩ : ∃ al, al = allF (nullF g) x.right := ⟨_, rfl⟩
                  rw [← hal] at HT HRB
                  obtain ⟨sm, hsm⟩ : ∃ sm, sm = someF (nullF g) (g.rules.take k) (s : Int) := ⟨_, rfl⟩
                  rw [← hsm] at HT ⊢
                  have i2 : (k : Int) < (g.rules.length : Int) := by omega
                  have j1 : IntKind.i64.wrap ((k : Int) + 1) = (k : Int) + 1 := by rw [IntWalk.i64_in _ (by omega)]
                  clear hmem hal hsm hx hlf2
                  go_upto_region 14 with (fail)
                  cases sm
                  · by_cases hls : lf = s
                    · subst hls
                      refine pl_start ?_
                      refine pl_held (B := wi.heap.size) (v := wi) (Below.refl _ _) (fun hHeld => ?_)
                      refine pl_pure (N := (some 61)) (v := ?v7) (by rfl) rfl ?h7 ?_
                      case h7 => (go_simp; rfl)
                      simp only [Act.put, List.setIfInBounds_toArray, List.set_cons_zero, List.set_cons_succ]
                      refine pl_pure (N := (some 62)) (v := ?v8) (by rfl) rfl ?h8 ?_
                      case h8 => (go_simp; rfl)
                      simp only [Act.put, List.setIfInBounds_toArray, List.set_cons_zero, List.set_cons_succ]
                      refine pl_pure (N := (some 63)) (v := ?v9) (by rfl) rfl ?h9 ?_
                      case h9 => (go_simp; rfl)
                      simp only [Act.put, List.setIfInBounds_toArray, List.set_cons_zero, List.set_cons_succ]
                      refine pl_pure (N := (some 64)) (v := ?v10) (by rfl) rfl ?h10 ?_
                      case h10 => (have d0 := (blk_cell (blk_below K6.out hHeld) 0).trans rfl; have d1 := (blk_cell (blk_below K6.out hHeld) 1).trans rfl; have d2 := (blk_cell (blk_below K6.out hHeld) 2).trans rfl; have d3 := cell_at hHeld HXC.out; go_simp; rfl)
                      simp only [Act.put, List.setIfInBounds_toArray, List.set_cons_zero, List.set_cons_succ]
                      refine pl_pure (N := (some 65)) (v := ?v11) (by rfl) rfl ?h11 ?_
                      case h11 => (go_simp; rfl)
                      simp only [Act.put, List.setIfInBounds_toArray, List.set_cons_zero, List.set_cons_succ]
                      refine pl_pure (N := (some 66)) (v := ?v12) (by rfl) rfl ?h12 ?_
                      case h12 => (go_simp; rfl)
                      simp only [Act.put, List.setIfInBounds_toArray, List.set_cons_zero, List.set_cons_succ]
                      refine pl_pure (N := (some 67)) (v := ?v13) (by rfl) rfl ?h13 ?_
                      case h13 => (go_simp; rfl)
                      simp only [Act.put, List.setIfInBounds_toArray, List.set_cons_zero, List.set_cons_succ]
                      refine pl_pure (N := (some 68)) (v := ?v14) (by rfl) rfl ?h14 ?_
                      case h14 => (have d0 := (blk_cell (blk_below K6.out hHeld) 0).trans rfl; have d1 := (blk_cell (blk_below K6.out hHeld) 1).trans rfl; have d2 := (blk_cell (blk_below K6.out hHeld) 2).trans rfl; have d3 := cell_at hHeld HXC.out; go_simp; rfl)
                      simp only [Act.put, List.setIfInBounds_toArray, List.set_cons_zero, List.set_cons_succ]
                      refine pl_pure (N := (some 69)) (v := ?v15) (by rfl) rfl ?h15 ?_
                      case h15 => (go_simp; rfl)
                      simp only [Act.put, List.setIfInBounds_toArray, List.set_cons_zero, List.set_cons_succ]
                      refine pl_pure (N := (some 70)) (v := ?v16) (by rfl) rfl ?h16 ?_
                      case h16 => (go_simp; rfl)
                      simp only [Act.put, List.setIfInBounds_toArray, List.set_cons_zero, List.set_cons_succ]
                      refine pl_pure (N := (some 71)) (v := ?v17) (by rfl) rfl ?h17 ?_
                      case h17 => (go_simp; rfl)
                      simp only [Act.put, List.setIfInBounds_toArray, List.set_cons_zero, List.set_cons_succ]
                      refine pl_pure (N := (some 72)) (v := ?v18) (by rfl) rfl ?h18 ?_
                      case h18 => (have d0 := (blk_cell (blk_below K6.out hHeld) 0).trans rfl; have d1 := (blk_cell (blk_below K6.out hHeld) 1).trans rfl; have d2 := (blk_cell (blk_below K6.out hHeld) 2).trans rfl; have d3 := cell_at hHeld HXC.out; go_simp; rfl)
                      simp only [Act.put, List.setIfInBounds_toArray, List.set_cons_zero, List.set_cons_succ]
                      refine pl_pure (N := (some 73)) (v := ?v19) (by rfl) rfl ?h19 ?_
                      case h19 => (go_simp; rfl)
                      simp only [Act.put, List.setIfInBounds_toArray, List.set_cons_zero, List.set_cons_succ]
                      refine goesCL_ (N := (some 74)) Try.func32 (by kernel_rfl) rfl (by rfl) rfl rfl (ruleP_c g A1 A2 (some ad) c1 c2 c3 (k : Int) _ (HG6.out.below_ hHeld) HRB.out) (by simp [Act.eval]) ?_
                      rintro e x14_13 ⟨rfl, hb14_13⟩
                      refine ⟨_, rfl, ?_⟩
                      simp only [Act.put, List.setIfInBounds_toArray, List.set_cons_zero, List.set_cons_succ]
                      refine pl_held (B := wi.heap.size) (v := wi) (below_then hHeld hHeld.size hb14_13) (fun hHeld => ?_)
                      refine pl_pure (N := (some 75)) (v := ?v21) (by rfl) rfl ?h21 ?_
                      case h21 => (go_simp; rfl)
                      simp only [Act.put, List.setIfInBounds_toArray, List.set_cons_zero, List.set_cons_succ]
                      refine pl_pure (N := (some 76)) (v := ?v22) (by rfl) rfl ?h22 ?_
                      case h22 => (go_simp; rfl)
                      simp only [Act.put, List.setIfInBounds_toArray, List.set_cons_zero, List.set_cons_succ]
                      refine pl_pure (N := (some 10)) (v := ?v23) (by rfl) rfl ?h23 ?_
                      case h23 => (go_simp; rfl)
                      simp only [Act.put, List.setIfInBounds_toArray, List.set_cons_zero, List.set_cons_succ]
                      refine pl_nil ?_
                      have HX7 := Aside0.mk (below_then HB.out HB.out.size hHeld)
                      go_wp2
                      go_roundw
                      case rel => exact ⟨k + 1, by omega, by go_num, by rw [HT.out]; simp, HX7⟩
                      case measure => simp [intOf]; omega
                    · have hb1 : ((lf : Int) == (s : Int)) = false := by rw [beq_eq_false_iff_ne]; omega
                      refine pl_start ?_
                      refine pl_held (B := wi.heap.size) (v := wi) (Below.refl _ _) (fun hHeld => ?_)
                      refine pl_pure (N := (some 61)) (v := ?v24) (by rfl) rfl ?h24 ?_
                      case h24 => (go_simp; rfl)
                      simp only [Act.put, List.setIfInBounds_toArray, List.set_cons_zero, List.set_cons_succ]
                      refine pl_pure (N := (some 62)) (v := ?v25) (by rfl) rfl ?h25 ?_
                      case h25 => (go_simp; rfl)
                      simp only [Act.put, List.setIfInBounds_toArray, List.set_cons_zero, List.set_cons_succ]
                      refine pl_pure (N := (some 63)) (v := ?v26) (by rfl) rfl ?h26 ?_
                      case h26 => (go_simp; rfl)
                      simp only [Act.put, List.setIfInBounds_toArray, List.set_cons_zero, List.set_cons_succ]
                      refine pl_pure (N := (some 64)) (v := ?v27) (by rfl) rfl ?h27 ?_
                      case h27 => (have d0 := (blk_cell (blk_below K6.out hHeld) 0).trans rfl; have d1 := (blk_cell (blk_below K6.out hHeld) 1).trans rfl; have d2 := (blk_cell (blk_below K6.out hHeld) 2).trans rfl; have d3 := cell_at hHeld HXC.out; go_simp; rfl)
                      simp only [Act.put, List.setIfInBounds_toArray, List.set_cons_zero, List.set_cons_succ]
                      refine pl_pure (N := (some 65)) (v := ?v28) (by rfl) rfl ?h28 ?_
                      case h28 => (go_simp; rfl)
                      simp only [Act.put, List.setIfInBounds_toArray, List.set_cons_zero, List.set_cons_succ]
                      refine pl_pure (N := (some 66)) (v := ?v29) (by rfl) rfl ?h29 ?_
                      case h29 => (go_simp; rfl)
                      simp only [Act.put, List.setIfInBounds_toArray, List.set_cons_zero, List.set_cons_succ]
                      refine pl_pure (N := (some 67)) (v := ?v30) (by rfl) rfl ?h30 ?_
                      case h30 => (go_simp; rfl)
                      simp only [Act.put, List.setIfInBounds_toArray, List.set_cons_zero, List.set_cons_succ]
                      refine pl_pure (N := (some 68)) (v := ?v31) (by rfl) rfl ?h31 ?_
                      case h31 => (have d0 := (blk_cell (blk_below K6.out hHeld) 0).trans rfl; have d1 := (blk_cell (blk_below K6.out hHeld) 1).trans rfl; have d2 := (blk_cell (blk_below K6.out hHeld) 2).trans rfl; have d3 := cell_at hHeld HXC.out; go_simp; rfl)
                      simp only [Act.put, List.setIfInBounds_toArray, List.set_cons_zero, List.set_cons_succ]
                      refine pl_pure (N := (some 69)) (v := ?v32) (by rfl) rfl ?h32 ?_
                      case h32 => (go_simp; rfl)
                      simp only [Act.put, List.setIfInBounds_toArray, List.set_cons_zero, List.set_cons_succ]
                      refine pl_pure (N := (some 70)) (v := ?v33) (by rfl) rfl ?h33 ?_
                      case h33 => (go_simp; rfl)
                      simp only [Act.put, List.setIfInBounds_toArray, List.set_cons_zero, List.set_cons_succ]
                      refine pl_pure (N := (some 71)) (v := ?v34) (by rfl) rfl ?h34 ?_
                      case h34 => (go_simp; rfl)
                      simp only [Act.put, List.setIfInBounds_toArray, List.set_cons_zero, List.set_cons_succ]
                      refine pl_off (N := (some 72)) (by rfl) rfl ?_
                      simp only [Act.put, List.setIfInBounds_toArray, List.set_cons_zero, List.set_cons_succ]
                      refine pl_off (N := (some 73)) (by rfl) rfl ?_
                      simp only [Act.put, List.setIfInBounds_toArray, List.set_cons_zero, List.set_cons_succ]
                      refine pl_off (N := (some 74)) (by rfl) rfl ?_
                      simp only [Act.put, List.setIfInBounds_toArray, List.set_cons_zero, List.set_cons_succ]
                      refine pl_pure (N := (some 75)) (v := ?v38) (by rfl) rfl ?h38 ?_
                      case h38 => (go_simp; rfl)
                      simp only [Act.put, List.setIfInBounds_toArray, List.set_cons_zero, List.set_cons_succ]
                      refine pl_pure (N := (some 76)) (v := ?v39) (by rfl) rfl ?h39 ?_
                      case h39 => (go_simp; rfl)
                      simp only [Act.put, List.setIfInBounds_toArray, List.set_cons_zero, List.set_cons_succ]
                      refine pl_pure (N := (some 10)) (v := ?v40) (by rfl) rfl ?h40 ?_
                      case h40 => (go_simp; rfl)
                      simp only [Act.put, List.setIfInBounds_toArray, List.set_cons_zero, List.set_cons_succ]
                      refine pl_nil ?_
                      clear hb1
                      have HLS := Aside0.mk hls
                      clear hls
                      go_wp2
                      go_roundw
                      case rel => exact ⟨k + 1, by omega, by go_num, by rw [HT.out, decide_eq_false (by have := HLS.out; omega)]; simp, HB⟩
                      case measure => simp [intOf]; omega
                  · refine pl_start ?_
                    refine pl_held (B := wi.heap.size) (v := wi) (Below.refl _ _) (fun hHeld => ?_)
                    refine pl_pure (N := (some 61)) (v := ?v41) (by rfl) rfl ?h41 ?_
                    case h41 => (go_simp; rfl)
                    simp only [Act.put, List.setIfInBounds_toArray, List.set_cons_zero, List.set_cons_succ]
                    refine pl_pure (N := (some 62)) (v := ?v42) (by rfl) rfl ?h42 ?_
                    case h42 => (go_simp; rfl)
                    simp only [Act.put, List.setIfInBounds_toArray, List.set_cons_zero, List.set_cons_succ]
                    refine pl_off (N := (some 63)) (by rfl) rfl ?_
                    simp only [Act.put, List.setIfInBounds_toArray, List.set_cons_zero, List.set_cons_succ]
                    refine pl_off (N := (some 64)) (by rfl) rfl ?_
                    simp only [Act.put, List.setIfInBounds_toArray, List.set_cons_zero, List.set_cons_succ]
                    refine pl_off (N := (some 65)) (by rfl) rfl ?_
                    simp only [Act.put, List.setIfInBounds_toArray, List.set_cons_zero, List.set_cons_succ]
                    refine pl_off (N := (some 66)) (by rfl) rfl ?_
                    simp only [Act.put, List.setIfInBounds_toArray, List.set_cons_zero, List.set_cons_succ]
                    refine pl_off (N := (some 67)) (by rfl) rfl ?_
                    simp only [Act.put, List.setIfInBounds_toArray, List.set_cons_zero, List.set_cons_succ]
                    refine pl_off (N := (some 68)) (by rfl) rfl ?_
                    simp only [Act.put, List.setIfInBounds_toArray, List.set_cons_zero, List.set_cons_succ]
                    refine pl_off (N := (some 69)) (by rfl) rfl ?_
                    simp only [Act.put, List.setIfInBounds_toArray, List.set_cons_zero, List.set_cons_succ]
                    refine pl_off (N := (some 70)) (by rfl) rfl ?_
                    simp only [Act.put, List.setIfInBounds_toArray, List.set_cons_zero, List.set_cons_succ]
                    refine pl_off (N := (some 71)) (by rfl) rfl ?_
                    simp only [Act.put, List.setIfInBounds_toArray, List.set_cons_zero, List.set_cons_succ]
                    refine pl_off (N := (some 72)) (by rfl) rfl ?_
                    simp only [Act.put, List.setIfInBounds_toArray, List.set_cons_zero, List.set_cons_succ]
                    refine pl_off (N := (some 73)) (by rfl) rfl ?_
                    simp only [Act.put, List.setIfInBounds_toArray, List.set_cons_zero, List.set_cons_succ]
                    refine pl_off (N := (some 74)) (by rfl) rfl ?_
                    simp only [Act.put, List.setIfInBounds_toArray, List.set_cons_zero, List.set_cons_succ]
                    refine pl_off (N := (some 75)) (by rfl) rfl ?_
                    simp only [Act.put, List.setIfInBounds_toArray, List.set_cons_zero, List.set_cons_succ]
                    refine pl_pure (N := (some 76)) (v := ?v56) (by rfl) rfl ?h56 ?_
                    case h56 => (go_simp; rfl)
                    simp only [Act.put, List.setIfInBounds_toArray, List.set_cons_zero, List.set_cons_succ]
                    refine pl_pure (N := (some 10)) (v := ?v57) (by rfl) rfl ?h57 ?_
                    case h57 => (go_simp; rfl)
                    simp only [Act.put, List.setIfInBounds_toArray, List.set_cons_zero, List.set_cons_succ]
                    refine pl_nil ?_
                    go_wp2
                    go_roundw
                    case rel => exact ⟨k + 1, by omega, by go_num, by rw [HT.out]; simp, HB⟩
                    case measure => simp [intOf]; omega
                · have HNS := Aside0.mk (null_some HGD.out (s : Int))
                  have hke : g.rules.take k = g.rules := List.take_of_length_le (by omega)
                  rw [hke] at ⊢
                  clear hke
                  obtain ⟨sm, hsm⟩ : ∃ sm, sm = someF (nullF g) g.rules (s : Int) := ⟨_, rfl⟩
                  rw [← hsm] at HNS ⊢
                  have hz := (HBB.out.below HB.out).cell' (i := s) (by rw [HNL.out]; exact hsn) HNS.out
                  have a1 := (blk_cell K6.out 0).trans rfl
                  have i1 : (0 : Int) ≤ (s : Int) := by omega
                  have i2 : (s : Int) < (n : Int) := by omega
                  clear hsm
                  by_cases hsT : s < g.terms.length
                  · have hsm0 : sm = false := by rw [← HNS.out]; exact null_term HGD.out (by omega)
                    subst hsm0
                    have d1 : decide ((s : Int) < (g.terms.length : Int)) = true := by simp; omega
                    go_wp2
                    go_roundw
                    case rel => exact ⟨s + 1, by omega, by go_num, HB⟩
                    case measure => simp [intOf]; omega
                  · have d1 : decide ((s : Int) < (g.terms.length : Int)) = false := by simp; omega
                    go_wp2
                    go_roundw
                    case rel => exact ⟨s + 1, by omega, by go_num, HB⟩
                    case measure => simp [intOf]; omega
            · have K6 := Aside0.mk (blk_below K5.out HB.out)
              have HG6 := Aside0.mk (HG5.out.below_ HB.out)
              have a2 := (blk_cell K6.out 2).trans rfl
              go_upto_region 17 with (fail)
              refine pl_start ?_
              refine pl_held (B := wo.heap.size) (v := wo) (Below.refl _ _) (fun hHeld => ?_)
              refine pl_pure (N := (some 96)) (v := ?v162) (by rfl) rfl ?h162 ?_
              case h162 => (have d0 := (blk_cell (blk_below K6.out hHeld) 0).trans rfl; have d1 := (blk_cell (blk_below K6.out hHeld) 1).trans rfl; have d2 := (blk_cell (blk_below K6.out hHeld) 2).trans rfl; go_simp; rfl)
              simp only [Act.put, List.setIfInBounds_toArray, List.set_cons_zero, List.set_cons_succ]
              refine goesCL_ (N := (some 97)) Try.func19 (by kernel_rfl) rfl (by rfl) rfl rfl (own_c g A1 A2 A3 c1 c2 c3 _ (HG6.out.below_ hHeld) HS1.out.own) (by simp [Act.eval]) ?_
              rintro e x17_1 ⟨⟨B1, B2, B3, e1, e2, e3, rfl, ho⟩, hb17_1⟩
              refine ⟨_, rfl, ?_⟩
              simp only [Act.put, List.setIfInBounds_toArray, List.set_cons_zero, List.set_cons_succ]
              refine pl_held (B := wo.heap.size) (v := wo) (below_then hHeld hHeld.size hb17_1) (fun hHeld => ?_)
              refine pl_value (N := (some 12)) (v := ?v164) (w1 := ?w164) (by rfl) rfl ?h164 ?_
              case h164 => (go_simp; first | rfl | (constructor; rfl; rfl))
              simp only [Act.put, List.setIfInBounds_toArray, List.set_cons_zero, List.set_cons_succ]
              refine pl_skip (w1 := ?w165) (by rfl) rfl ?h165 ?_
              case h165 => (go_simp; rfl)
              refine pl_world ?_
              intro x17_3 hb17_3 hx17_3 hs17_3 hq17_3
              refine pl_held (B := wo.heap.size) (v := wo) (below_then hHeld hHeld.size hb17_3) (fun hHeld => ?_)
              refine pl_nil ?_
              have HO := Aside0.mk ho
              have HW := Aside0.mk hHeld
              have HQ := Aside0.mk hx17_3
              have HX13 := Aside0.mk hb17_3
              have hqw : wo.heap.size ≤ x17_1.heap.size := hb17_1.size
              have hq3 : x17_3.heap.size = x17_1.heap.size + 1 := hs17_3
              have HQ3 := Lib.hid hq3
              have HQW := Aside0.mk hqw
              have K7 := Aside0.mk (blk_below K6.out hHeld)
              have HL7 := Aside0.mk (Kd.C_below (Kd.C_below HL5.out HB.out) hHeld)
              clear ho hHeld hx17_3 hb17_3 hb17_1 hs17_3 hq17_3 hq3 hqw a2
              obtain ⟨ln, rfl⟩ := Int.eq_ofNat_of_zero_le hlf.1
              obtain ⟨zl, hzl⟩ : ∃ zl : Nat, (ln : Int).tmod (g.names.length : Int) = (zl : Int) := ⟨ln % g.names.length, by rw [Int.tmod_eq_emod_of_nonneg (by omega)]; simp⟩
              have hzb : zl < g.names.length := by
                rw [Int.tmod_eq_emod_of_nonneg (by omega)] at hzl
                have := Int.emod_lt_of_pos (ln : Int) (show (0 : Int) < g.names.length by omega)
                omega
              have he0 : IntKind.i64.wrap (ln : Int) = (ln : Int) := by rw [IntWalk.i64_in _ (by omega)]
              obtain ⟨lx, hlx⟩ : ∃ lx : Nat, lx = g.terms.length + zl := ⟨_, rfl⟩
              have he1 : IntKind.i64.wrap ((g.terms.length : Int) + (zl : Int)) = (lx : Int) := by rw [IntWalk.i64_in _ (by omega), hlx]; omega
              have hn0 : ¬ g.names = [] := by intro h; rw [h] at q2; simp at q2
              have HLX := Lib.hid hlx
              clear hlx
              go_upto_region 18 with (fail)
              refine start_ (n := 13) (S := fun w' => Below x17_3.heap.size x17_3 w') (ds := [12]) (lb 13 0x0) (by kernel_rfl) rfl (by kernel_rfl) (below_drew1 (Below.refl _ _)) (fun hHeld => ?_)
              refine pure_ (i := 0) (N := (some 98)) (v := ?_) (a' := ?_) (lb 13 0x1) rfl rfl (by kernel_rfl) (fun _ _ _ h => h) (Or.inl ⟨by rfl, ?_⟩) ?_ ?_
              rotate_left
              · (intro w'; go_simp; with_reducible rfl)
              rotate_left
              · (simp only [Act.put, List.setIfInBounds_toArray, List.set_cons_zero, List.set_cons_succ]; rfl)
              refine pure_ (i := 3) (N := (some 101)) (v := ?_) (a' := ?_) (lb 13 0x9) rfl rfl (by kernel_rfl) (fun _ _ _ h => h) (Or.inl ⟨by rfl, ?_⟩) ?_ ?_
              rotate_left
              · (intro w'; go_simp; with_reducible rfl)
              rotate_left
              · (simp only [Act.put, List.setIfInBounds_toArray, List.set_cons_zero, List.set_cons_succ]; rfl)
              refine pure_ (i := 4) (N := (some 102)) (v := ?_) (a' := ?_) (lb 13 0x19) rfl rfl (by kernel_rfl) (fun _ _ _ h => h) (Or.inl ⟨by rfl, ?_⟩) ?_ ?_
              rotate_left
              · (intro w'; go_simp; with_reducible rfl)
              rotate_left
              · (simp only [Act.put, List.setIfInBounds_toArray, List.set_cons_zero, List.set_cons_succ]; rfl)
              refine pure_ (i := 5) (N := (some 103)) (v := ?_) (a' := ?_) (lb 13 0x39) rfl rfl (by kernel_rfl) (fun _ _ _ h => h) (Or.inl ⟨by rfl, ?_⟩) ?_ ?_
              rotate_left
              · (intro w'; go_simp; with_reducible rfl)
              rotate_left
              · (simp only [Act.put, List.setIfInBounds_toArray, List.set_cons_zero, List.set_cons_succ]; rfl)
              refine take_ (i := 1) (N := (some 99)) (v := ?_) (a' := ?_) (lb 13 0x3b) rfl rfl (by kernel_rfl) (fun _ _ _ h => h) (Or.inl ⟨by rfl, ?_⟩) hHeld ?_ ?_
              rotate_left
              · (rintro w' hS; have d0 := (blk_cell (blk_below K7.out hS) 0).trans rfl; have d1 := (blk_cell (blk_below K7.out hS) 1).trans rfl; have d2 := (blk_cell (blk_below K7.out hS) 2).trans rfl; go_simp; with_reducible rfl)
              rotate_left
              · (simp only [Act.put, List.setIfInBounds_toArray, List.set_cons_zero, List.set_cons_succ]; rfl)
              refine pure_ (i := 2) (N := (some 100)) (v := ?_) (a' := ?_) (lb 13 0x3f) rfl rfl (by kernel_rfl) (fun _ _ _ h => h) (Or.inl ⟨by rfl, ?_⟩) ?_ ?_
              rotate_left
              · (intro w'; go_simp; with_reducible rfl)
              rotate_left
              · (simp only [Act.put, List.setIfInBounds_toArray, List.set_cons_zero, List.set_cons_succ]; rfl)
              refine take_ (i := 6) (N := (some 104)) (v := ?_) (a' := ?_) (lb 13 0x7f) rfl rfl (by kernel_rfl) (fun _ _ _ h => h) (Or.inl ⟨by rfl, ?_⟩) hHeld ?_ ?_
              rotate_left
              · (rintro w' hS; have d0 := (blk_cell (blk_below K7.out hS) 0).trans rfl; have d1 := (blk_cell (blk_below K7.out hS) 1).trans rfl; have d2 := (blk_cell (blk_below K7.out hS) 2).trans rfl; go_simp; with_reducible rfl)
              rotate_left
              · (simp only [Act.put, List.setIfInBounds_toArray, List.set_cons_zero, List.set_cons_succ]; rfl)
              refine pure_ (i := 7) (N := (some 105)) (v := ?_) (a' := ?_) (lb 13 0xff) rfl rfl (by kernel_rfl) (fun _ _ _ h => h) (Or.inl ⟨by rfl, ?_⟩) ?_ ?_
              rotate_left
              · (intro w'; go_simp; with_reducible rfl)
              rotate_left
              · (simp only [Act.put, List.setIfInBounds_toArray, List.set_cons_zero, List.set_cons_succ]; rfl)
              refine pure_ (i := 8) (N := (some 106)) (v := ?_) (a' := ?_) (lb 13 0x1ff) rfl rfl (by kernel_rfl) (fun _ _ _ h => h) (Or.inl ⟨by rfl, ?_⟩) ?_ ?_
              rotate_left
              · (intro w'; go_simp; with_reducible rfl)
              rotate_left
              · (simp only [Act.put, List.setIfInBounds_toArray, List.set_cons_zero, List.set_cons_succ]; rfl)
              refine pure_ (i := 9) (N := (some 107)) (v := ?_) (a' := ?_) (lb 13 0x3ff) rfl rfl (by kernel_rfl) (fun _ _ _ h => h) (Or.inl ⟨by rfl, ?_⟩) ?_ ?_
              rotate_left
              · (intro w'; go_simp; with_reducible rfl)
              rotate_left
              · (simp only [Act.put, List.setIfInBounds_toArray, List.set_cons_zero, List.set_cons_succ]; rfl)
              refine pure_ (i := 10) (N := (some 108)) (v := ?_) (a' := ?_) (lb 13 0x7ff) rfl rfl (by kernel_rfl) (fun _ _ _ h => h) (Or.inl ⟨by rfl, ?_⟩) ?_ ?_
              rotate_left
              · (intro w'; go_simp; with_reducible rfl)
              rotate_left
              · (simp only [Act.put, List.setIfInBounds_toArray, List.set_cons_zero, List.set_cons_succ]; rfl)
              refine one_ (i := 11) (N := (some 13)) (lb 13 0xfff) rfl rfl (by kernel_rfl) (by decide) (fun K hK => ?_)
              refine value_ (w1 := ?_) (v := ?_) (by rfl) rfl ?_ ?_
              rotate_left 2
              · (go_simp; constructor; rfl; rfl)
              skip
              refine hK.out _ _ (hHeld.alloc hHeld.size _) (fun hHeld => ?_)
              clear hK K
              refine norm_ (a' := ?_) ?_ ?_
              rotate_left
              · (show Act.put _ (some 13) _ = _; simp only [Act.put, List.setIfInBounds_toArray, List.set_cons_zero, List.set_cons_succ]; rfl)
              refine last_ (i := 12) (N := none) (lb 13 0x1fff) rfl rfl (by kernel_rfl) (by decide) (fun K hK => ?_)
              skip
              refine skip_ (w1 := ?_) (by rfl) rfl ?_ ?_
              rotate_left
              · (go_simp; first | rfl | (constructor; rfl; rfl))
              refine hK.out _ _ ?_
              clear hK K
              refine done_ (by kernel_rfl) ?_
              have KX0 : Aside0 ((x17_3.alloc (.cells #[.int .i64 (lx : Int), .slice none 0 0] 56 (0, 0))).drew.heap[x17_3.heap.size]? = some (.cells #[.int .i64 (lx : Int), .slice none 0 0] 56 (0, 0))) := ⟨blk_drew (blk_new x17_3 _)⟩
              have HX0 : Aside0 (Below x17_3.heap.size x17_3 (x17_3.alloc (.cells #[.int .i64 (lx : Int), .slice none 0 0] 56 (0, 0))).drew) := ⟨below_drew1 (below_alloc (Below.refl _ _) _)⟩
              clear hzl he0 he1 hn0
              go_wp2
              go_loopw [14] (fun i wr => ∃ (k : Nat) (vR : Value), k ≤ l.length ∧ i = .int .i64 k ∧ Aside0 (wr.heap[x17_3.heap.size]? = some (.cells #[.int .i64 (lx : Int), vR] 56 (0, 0))) ∧ Aside0 (kInt.R 3 wr x17_3.heap.size (fun _ => True) vR (modL n (l.take k))) ∧ Aside0 (Below x17_3.heap.size x17_3 wr)) (fun i _ => l.length - (intOf i).toNat)
              case atStart => exact ⟨0, _, Nat.zero_le _, rfl, KX0, ⟨Kd.R_nil _ _ _ _ _⟩, HX0⟩
              case round =>
                clear KX0 HX0
                obtain ⟨k, vR, hk, rfl, KX, HR, HX⟩ := hrel
                rename World => wi
                by_cases hlt : k < l.length
                · obtain ⟨ad, ead, hy⟩ := at_int (Kd.C_below HL7.out HX.out) k hlt
                  cases ead
                  have i1 : (0 : Int) ≤ (k : Int) := by omega
                  have i2 : (k : Int) < (l.length : Int) := by omega
                  have hxb := HLB.out (l[k]'hlt) (List.getElem_mem _)
                  have HT := Lib.hid (modL_take (n := n) hlt)
                  have hpl := modL_len n (l.take k)
                  rw [List.length_take, Nat.min_eq_left hk] at hpl
                  obtain ⟨x, hx⟩ : ∃ x, x = l[k]'hlt := ⟨_, rfl⟩
                  rw [← hx] at hy hxb HT
                  have HY := Aside0.mk hy
                  clear hx hy
                  obtain ⟨z, hz⟩ : ∃ z : Nat, x % (n : Int) = z := ⟨(x % (n : Int)).toNat, by have := Int.emod_nonneg x (show (n : Int) ≠ 0 by omega); omega⟩
                  obtain ⟨P, hP⟩ : ∃ P, P = modL n (l.take k) := ⟨_, rfl⟩
                  rw [← hP] at HR HT hpl
                  have HPL := Lib.hid hpl
                  have HZM := Lib.hid hz
                  have ht : IntKind.i64.wrap x = x := by rw [IntWalk.i64_in _ (by omega)]
                  have ht2 : x.tmod (n : Int) = (z : Int) := by rw [Int.tmod_eq_emod_of_nonneg hxb.1, hz]
                  have hnz : ¬ n = 0 := by omega
                  obtain ⟨Ar, cr, rfl⟩ := Kd.R_slice HR.out
                  clear hP hpl hz
                  go_upto_region 22 with (fail)
                  refine start_ (n := 13) (S := fun w' => Below wi.heap.size wi w') (ds := [10, 12]) (lb 13 0x0) (by kernel_rfl) rfl (by kernel_rfl) (below_drew1 (Below.refl _ _)) (fun hHeld => ?_)
                  refine pure_ (i := 0) (N := (some 115)) (v := ?_) (a' := ?_) (lb 13 0x1) rfl rfl (by kernel_rfl) (fun _ _ _ h => h) (Or.inl ⟨by rfl, ?_⟩) ?_ ?_
                  rotate_left
                  · (intro w'; go_simp; with_reducible rfl)
                  rotate_left
                  · (simp only [Act.put, List.setIfInBounds_toArray, List.set_cons_zero, List.set_cons_succ]; rfl)
                  refine pure_ (i := 2) (N := (some 117)) (v := ?_) (a' := ?_) (lb 13 0x5) rfl rfl (by kernel_rfl) (fun _ _ _ h => h) (Or.inl ⟨by rfl, ?_⟩) ?_ ?_
                  rotate_left
                  · (intro w'; go_simp; with_reducible rfl)
                  rotate_left
                  · (simp only [Act.put, List.setIfInBounds_toArray, List.set_cons_zero, List.set_cons_succ]; rfl)
                  refine pure_ (i := 3) (N := (some 118)) (v := ?_) (a' := ?_) (lb 13 0xd) rfl rfl (by kernel_rfl) (fun _ _ _ h => h) (Or.inl ⟨by rfl, ?_⟩) ?_ ?_
                  rotate_left
                  · (intro w'; go_simp; with_reducible rfl)
                  rotate_left
                  · (simp only [Act.put, List.setIfInBounds_toArray, List.set_cons_zero, List.set_cons_succ]; rfl)
                  refine pure_ (i := 4) (N := (some 119)) (v := ?_) (a' := ?_) (lb 13 0x1d) rfl rfl (by kernel_rfl) (fun _ _ _ h => h) (Or.inl ⟨by rfl, ?_⟩) ?_ ?_
                  rotate_left
                  · (intro w'; go_simp; with_reducible rfl)
                  rotate_left
                  · (simp only [Act.put, List.setIfInBounds_toArray, List.set_cons_zero, List.set_cons_succ]; rfl)
                  refine pure_ (i := 7) (N := (some 122)) (v := ?_) (a' := ?_) (lb 13 0x9d) rfl rfl (by kernel_rfl) (fun _ _ _ h => h) (Or.inl ⟨by rfl, ?_⟩) ?_ ?_
                  rotate_left
                  · (intro w'; go_simp; with_reducible rfl)
                  rotate_left
                  · (simp only [Act.put, List.setIfInBounds_toArray, List.set_cons_zero, List.set_cons_succ]; rfl)
                  refine take_ (i := 1) (N := (some 116)) (v := ?_) (a' := ?_) (lb 13 0x9f) rfl rfl (by kernel_rfl) (fun _ _ _ h => h) (Or.inl ⟨by rfl, ?_⟩) hHeld ?_ ?_
                  rotate_left
                  · (rintro w' hS; have d0 := (blk_cell (blk_below KX.out hS) 0).trans rfl; have d1 := (blk_cell (blk_below KX.out hS) 1).trans rfl; have d2 := cell_at hS HY.out; go_simp; with_reducible rfl)
                  rotate_left
                  · (simp only [Act.put, List.setIfInBounds_toArray, List.set_cons_zero, List.set_cons_succ]; rfl)
                  refine take_ (i := 5) (N := (some 120)) (v := ?_) (a' := ?_) (lb 13 0xbf) rfl rfl (by kernel_rfl) (fun _ _ _ h => h) (Or.inl ⟨by rfl, ?_⟩) hHeld ?_ ?_
                  rotate_left
                  · (rintro w' hS; have d0 := (blk_cell (blk_below KX.out hS) 0).trans rfl; have d1 := (blk_cell (blk_below KX.out hS) 1).trans rfl; have d2 := cell_at hS HY.out; go_simp; with_reducible rfl)
                  rotate_left
                  · (simp only [Act.put, List.setIfInBounds_toArray, List.set_cons_zero, List.set_cons_succ]; rfl)
                  refine pure_ (i := 6) (N := (some 121)) (v := ?_) (a' := ?_) (lb 13 0xff) rfl rfl (by kernel_rfl) (fun _ _ _ h => h) (Or.inl ⟨by rfl, ?_⟩) ?_ ?_
                  rotate_left
                  · (intro w'; go_simp; with_reducible rfl)
                  rotate_left
                  · (simp only [Act.put, List.setIfInBounds_toArray, List.set_cons_zero, List.set_cons_succ]; rfl)
                  refine pure_ (i := 8) (N := (some 123)) (v := ?_) (a' := ?_) (lb 13 0x1ff) rfl rfl (by kernel_rfl) (fun _ _ _ h => h) (Or.inl ⟨by rfl, ?_⟩) ?_ ?_
                  rotate_left
                  · (intro w'; go_simp; with_reducible rfl)
                  rotate_left
                  · (simp only [Act.put, List.setIfInBounds_toArray, List.set_cons_zero, List.set_cons_succ]; rfl)
                  refine one_ (i := 9) (N := (some 124)) (lb 13 0x3ff) rfl rfl (by kernel_rfl) (by decide) (fun K hK => ?_)
                  refine value_ (w1 := ?_) (v := ?_) (by rfl) rfl ?_ ?_
                  rotate_left 2
                  · (go_simp; constructor; rfl; rfl)
                  skip
                  refine hK.out _ _ (hHeld.alloc hHeld.size _) (fun hHeld => ?_)
                  clear hK K
                  refine norm_ (a' := ?_) ?_ ?_
                  rotate_left
                  · (show Act.put _ (some 124) _ = _; simp only [Act.put, List.setIfInBounds_toArray, List.set_cons_zero, List.set_cons_succ]; rfl)
                  refine last_ (i := 10) (N := (some 125)) (lb 13 0x7ff) rfl rfl (by kernel_rfl) (by decide) (fun K hK => ?_)
                  (refine app_int_step (w0 := x17_3) (base := x17_3.heap.size) (ok := fun _ => True) (xs := P) (p := (z : Int)) (by rfl) rfl (Kd.R_drew HR.out) (below_drew1 HX.out) HX.out.size (by have := HPL.out; omega) (fun _ _ => trivial) (by simp [Act.eval]) (by simp [Act.eval]) ?_; intro v3 w3 A3; obtain ⟨Av3, cv3, rfl⟩ := A3.shape; have e1 := blk_grown (blk_drew KX.out) A3.grown (Kd.R_ne (Kd.R_drew HR.out) (blk_drew KX.out) (by decide)); have E1 := Aside0.mk e1; have e4 := (blk_cell e1 1).trans rfl; have e5 := blk_frozen e1 1; have A3' := Aside0.mk A3; clear A3 e1)
                  refine hK.out _ _ ?_
                  clear hK K
                  refine norm_ (a' := ?_) ?_ ?_
                  rotate_left
                  · (show Act.put _ (some 125) _ = _; simp only [Act.put, List.setIfInBounds_toArray, List.set_cons_zero, List.set_cons_succ]; rfl)
                  refine pure_ (i := 11) (N := (some 126)) (v := ?_) (a' := ?_) (lb 13 0xfff) rfl rfl (by kernel_rfl) (fun _ _ _ h => h) (Or.inl ⟨by rfl, ?_⟩) ?_ ?_
                  rotate_left
                  · (intro w'; go_simp; with_reducible rfl)
                  rotate_left
                  · (simp only [Act.put, List.setIfInBounds_toArray, List.set_cons_zero, List.set_cons_succ]; rfl)
                  refine last_ (i := 12) (N := none) (lb 13 0x1fff) rfl rfl (by kernel_rfl) (by decide) (fun K hK => ?_)
                  skip
                  refine skip_ (w1 := ?_) (by rfl) rfl ?_ ?_
                  rotate_left
                  · (go_simp; first | rfl | (constructor; rfl; rfl))
                  refine hK.out _ _ ?_
                  clear hK K
                  refine done_ (by kernel_rfl) ?_
                  have F1 : Aside0 ((w3.setCell ⟨x17_3.heap.size, 1, none⟩ (.slice Av3 (P.length + 1) cv3)).heap[x17_3.heap.size]? = some (.cells #[.int .i64 (lx : Int), .slice Av3 (P.length + 1) cv3] 56 (0, 0))) := ⟨(blk_set E1.out 1 _).trans rfl⟩
                  have F2 := Aside0.mk (Kd.R_set A3'.out.row E1.out (show ∀ q, q ∈ [3] → q ≠ 56 by decide) 1 (.slice Av3 (P.length + 1) cv3))
                  have F3 := Aside0.mk (below_set A3'.out.below (Nat.le_refl _) 1 (.slice Av3 (P.length + 1) cv3))
                  clear ht ht2 hnz e4 e5
                  go_wp2
                  go_roundw
                  case rel => exact ⟨k + 1, _, by omega, by go_num, F1, by rw [HT.out, HZM.out]; exact F2, F3⟩
                  case measure => simp [intOf]; omega
                · have hke : l.take k = l := List.take_of_length_le (by omega)
                  rw [hke] at HR
                  clear hke
                  obtain ⟨P, hP⟩ : ∃ P, P = modL n l := ⟨_, rfl⟩
                  rw [← hP] at HR
                  have hPl : P.length ≤ 8 := by rw [hP, modL_len]; omega
                  have HPL := Aside0.mk hPl
                  clear hP hPl
                  obtain ⟨Ar, cr, rfl⟩ := Kd.R_slice HR.out
                  have hbi := below_then HX13.out HX13.out.size HX.out
                  have HBI := Aside0.mk hbi
                  have KH := Aside0.mk (blk_below HQ.out HX.out)
                  have HU := Aside0.mk (row_apart HR.out HX13.out.size HO.out.rules HQW.out)
                  have HBO := Aside0.mk (below_then HW.out HW.out.size HX.out)
                  have HOI := Aside0.mk (HO.out.below_ hbi)
                  obtain ⟨Lr, hLr⟩ : ∃ Lr, Lr = g.rules ++ [⟨(lx : Int), P⟩] := ⟨_, rfl⟩
                  have HLR := Lib.hid hLr
                  clear hbi hLr HR
                  go_upto_region 23 with (fail)
                  refine pl_start ?_
                  refine pl_held (B := wi.heap.size) (v := wi) (Below.refl _ _) (fun hHeld => ?_)
                  refine pl_pure (N := (some 127)) (v := ?v58) (by rfl) rfl ?h58 ?_
                  case h58 => (go_simp; rfl)
                  simp only [Act.put, List.setIfInBounds_toArray, List.set_cons_zero, List.set_cons_succ]
                  refine pl_pure (N := (some 128)) (v := ?v59) (by rfl) rfl ?h59 ?_
                  case h59 => (have d0 := (blk_cell (blk_below KH.out hHeld) 0).trans rfl; have d1 := (blk_cell (blk_below KH.out hHeld) 1).trans rfl; have d2 := (blk_cell (blk_below KH.out hHeld) 2).trans rfl; have d3 := (blk_cell (blk_below KX.out hHeld) 0).trans rfl; have d4 := (blk_cell (blk_below KX.out hHeld) 1).trans rfl; go_simp; rfl)
                  simp only [Act.put, List.setIfInBounds_toArray, List.set_cons_zero, List.set_cons_succ]
                  refine pl_pure (N := (some 129)) (v := ?v60) (by rfl) rfl ?h60 ?_
                  case h60 => (have d0 := (blk_cell (blk_below KH.out hHeld) 0).trans rfl; have d1 := (blk_cell (blk_below KH.out hHeld) 1).trans rfl; have d2 := (blk_cell (blk_below KH.out hHeld) 2).trans rfl; have d3 := (blk_cell (blk_below KX.out hHeld) 0).trans rfl; have d4 := (blk_cell (blk_below KX.out hHeld) 1).trans rfl; go_simp; rfl)
                  simp only [Act.put, List.setIfInBounds_toArray, List.set_cons_zero, List.set_cons_succ]
                  refine pl_value (N := some 130) (v := ?vb) (w1 := ?wb) (by rfl) rfl ?hb ?_
                  case hb => (go_simp; constructor; rfl; rfl)
                  simp only [Act.put, List.setIfInBounds_toArray, List.set_cons_zero, List.set_cons_succ]
                  refine pl_app_rule (N := some 131) (w0 := wo) (xs := g.rules) (p := ⟨(lx : Int), P⟩) (by rfl) rfl rfl HOI.out.rules HU.out HBO.out (by omega) (by rfl) (by rfl) ?_
                  intro v1' w1' A1'
                  obtain ⟨A4, c4, e4, z4, f4, hrep⟩ := more_rep HO.out HBI.out A1' KH.out HQW.out HLR.out
                  subst e4
                  have HREP := Aside0.mk (hrep (.slice A4 Lr.length c4))
                  clear A1' hrep
                  simp only [Act.put, List.setIfInBounds_toArray, List.set_cons_zero, List.set_cons_succ]
                  refine pl_pure (N := (some 132)) (v := ?v63) (by rfl) rfl ?h63 ?_
                  case h63 => (go_simp; rfl)
                  simp only [Act.put, List.setIfInBounds_toArray, List.set_cons_zero, List.set_cons_succ]
                  refine pl_skip (w1 := ?w64) (by rfl) rfl ?h64 ?_
                  case h64 => (go_simp; rfl)
                  refine pl_nil ?_
                  clear z4 f4
                  obtain ⟨W4, hW4⟩ : ∃ W4, W4 = w1'.setCell ⟨x17_1.heap.size, 2, none⟩ (.slice A4 Lr.length c4) := ⟨_, rfl⟩
                  rw [← hW4] at HREP ⊢
                  obtain ⟨hrg, hrb, hrk⟩ := HREP.out
                  have HRG := Aside0.mk hrg
                  have HRB := Aside0.mk hrb
                  have KR := Aside0.mk hrk
                  have HBB4 := Aside0.mk ((HBB.out.below HB.out).below hrb)
                  have HV4 := Aside0.mk (below_then HV5.out HV5.out.size (below_then HB.out HB.out.size hrb))
                  clear hrg hrb hrk HREP hW4
                  have HZ4 : Aside0 (Sized ⟨g.terms, g.names, Lr⟩) := ⟨⟨HZ.out.1, HZ.out.2⟩⟩
                  have HN4 : Aside0 (nsym ⟨g.terms, g.names, Lr⟩ = n) := ⟨HN.out⟩
                  obtain ⟨gh, hgh⟩ : ∃ gh, goodF ⟨g.terms, g.names, Lr⟩ = gh := ⟨_, rfl⟩
                  have HGH := Lib.hid hgh
                  clear hgh
                  go_upto_region 24 with (fail)
                  refine pl_start ?_
                  refine pl_held (B := W4.heap.size) (v := W4) (Below.refl _ _) (fun hHeld => ?_)
                  refine pl_pure (N := (some 133)) (v := ?v65) (by rfl) rfl ?h65 ?_
                  case h65 => (have d0 := (blk_cell (blk_below KR.out hHeld) 0).trans rfl; have d1 := (blk_cell (blk_below KR.out hHeld) 1).trans rfl; have d2 := (blk_cell (blk_below KR.out hHeld) 2).trans rfl; go_simp; rfl)
                  simp only [Act.put, List.setIfInBounds_toArray, List.set_cons_zero, List.set_cons_succ]
                  refine goesCL_ (N := (some 134)) Try.func24 (by kernel_rfl) rfl (by rfl) rfl rfl (good1_3 g.terms g.names Lr B1 B2 A4 e1 e2 c4 _ (HRG.out.below_ hHeld) HZ4.out HGH.out) (by simp [Act.eval]) ?_
                  rintro e x24_1 ⟨rfl, hb24_1⟩
                  refine ⟨_, rfl, ?_⟩
                  simp only [Act.put, List.setIfInBounds_toArray, List.set_cons_zero, List.set_cons_succ]
                  refine pl_held (B := W4.heap.size) (v := W4) (below_then hHeld hHeld.size hb24_1) (fun hHeld => ?_)
                  refine pl_pure (N := (some 135)) (v := ?v67) (by rfl) rfl ?h67 ?_
                  case h67 => (go_simp; rfl)
                  simp only [Act.put, List.setIfInBounds_toArray, List.set_cons_zero, List.set_cons_succ]
                  refine pl_nil ?_
                  have HX24 := Aside0.mk hHeld
                  clear hHeld hb24_1
                  cases gh
                  · go_upto_region 25 with (fail)
                    refine pl_start ?_
                    refine pl_held (B := W4.heap.size) (v := W4) (HX24.out) (fun hHeld => ?_)
                    refine goesCL_ (N := (some 136)) Try.func28 (by kernel_rfl) rfl (by rfl) rfl rfl (wakes06_c _) (by simp [Act.eval]) ?_
                    rintro e x25_0 ⟨rfl, hb25_0⟩
                    refine ⟨_, rfl, ?_⟩
                    simp only [Act.put, List.setIfInBounds_toArray, List.set_cons_zero, List.set_cons_succ]
                    refine pl_held (B := W4.heap.size) (v := W4) (below_then hHeld hHeld.size hb25_0) (fun hHeld => ?_)
                    refine pl_pure (N := (some 6)) (v := ?v69) (by rfl) rfl ?h69 ?_
                    case h69 => (go_simp; rfl)
                    simp only [Act.put, List.setIfInBounds_toArray, List.set_cons_zero, List.set_cons_succ]
                    refine pl_nil ?_
                    go_wp2
                    go_ret
                    exact ⟨ret_bool rfl, below_then HV4.out HV4.out.size hHeld⟩
                  · go_upto_region 26 with (fail)
                    refine pl_start ?_
                    refine pl_held (B := W4.heap.size) (v := W4) (HX24.out) (fun hHeld => ?_)
                    refine pl_pure (N := (some 137)) (v := ?v70) (by rfl) rfl ?h70 ?_
                    case h70 => (have d0 := (blk_cell (blk_below KR.out hHeld) 0).trans rfl; have d1 := (blk_cell (blk_below KR.out hHeld) 1).trans rfl; have d2 := (blk_cell (blk_below KR.out hHeld) 2).trans rfl; go_simp; rfl)
                    simp only [Act.put, List.setIfInBounds_toArray, List.set_cons_zero, List.set_cons_succ]
                    refine goesCL_ (N := (some 138)) Try.func30 (by kernel_rfl) rfl (by rfl) rfl rfl (ofN_3 g.terms g.names Lr B1 B2 A4 e1 e2 c4 _ (HRG.out.below_ hHeld) HGH.out HN4.out) (by simp [Act.eval]) ?_
                    rintro e x26_1 ⟨⟨b2, rfl, hbb2, hbs2⟩, hb26_1⟩
                    refine ⟨_, rfl, ?_⟩
                    simp only [Act.put, List.setIfInBounds_toArray, List.set_cons_zero, List.set_cons_succ]
                    refine pl_held (B := W4.heap.size) (v := W4) (below_then hHeld hHeld.size hb26_1) (fun hHeld => ?_)
                    refine pl_pure (N := (some 15)) (v := ?v72) (by rfl) rfl ?h72 ?_
                    case h72 => (go_simp; rfl)
                    simp only [Act.put, List.setIfInBounds_toArray, List.set_cons_zero, List.set_cons_succ]
                    refine pl_nil ?_
                    have HB2 := Aside0.mk hbb2
                    have HB1 := Aside0.mk (HBB4.out.below hHeld)
                    have HV6 := Aside0.mk (below_then HV4.out HV4.out.size hHeld)
                    have HNL2 : Aside0 ((nullF ⟨g.terms, g.names, Lr⟩).length = n) := ⟨by rw [nullF_len HGH.out, HN4.out]⟩
                    have HMO := Aside0.mk (fun s => null_more (s := s) HGD.out HGH.out (fun r hr => by show r ∈ Lr; rw [HLR.out]; exact List.mem_append_left _ hr))
                    clear hbb2 hbs2 hHeld hb26_1
                    go_wp2
                    go_loop [16] (fun i => ∃ s : Nat, s ≤ n ∧ i = .int .i64 s) (fun i => n - (intOf i).toNat)
                    case atStart => exact ⟨0, Nat.zero_le _, rfl⟩
                    case round =>
                      obtain ⟨s, hs, rfl⟩ := hrel
                      by_cases hsn : s < n
                      · have i1 : (0 : Int) ≤ (s : Int) := by omega
                        have i2 : (s : Int) < (n : Int) := by omega
                        obtain ⟨ms, hms⟩ : ∃ ms, getB (nullF ⟨g.terms, g.names, Lr⟩) (s : Int) = ms := ⟨_, rfl⟩
                        have hz2 := HB2.out.cell' (i := s) (by rw [HNL2.out]; exact hsn) hms
                        cases hls : getB (nullF g) (s : Int)
                        · have hz1 := HB1.out.cell' (i := s) (by rw [HNL.out]; exact hsn) hls
                          clear hls hms
                          go_wp2
                          go_round
                          case rel => exact ⟨s + 1, by omega, by go_num⟩
                          case measure => simp [intOf]; omega
                        · have hz1 := HB1.out.cell' (i := s) (by rw [HNL.out]; exact hsn) hls
                          have hm1 : ms = true := by rw [← hms]; exact HMO.out _ hls
                          subst hm1
                          clear hls hms
                          go_wp2
                          go_round
                          case rel => exact ⟨s + 1, by omega, by go_num⟩
                          case measure => simp [intOf]; omega
                      · go_upto_region 34 with (fail)
                        refine pl_start ?_
                        refine pl_held (B := x26_1.heap.size) (v := x26_1) (Below.refl _ _) (fun hHeld => ?_)
                        refine goesCL_ (N := (some 159)) Try.func28 (by kernel_rfl) rfl (by rfl) rfl rfl (wakes06_c _) (by simp [Act.eval]) ?_
                        rintro e x34_0 ⟨rfl, hb34_0⟩
                        refine ⟨_, rfl, ?_⟩
                        simp only [Act.put, List.setIfInBounds_toArray, List.set_cons_zero, List.set_cons_succ]
                        refine pl_held (B := x26_1.heap.size) (v := x26_1) (below_then hHeld hHeld.size hb34_0) (fun hHeld => ?_)
                        refine pl_pure (N := (some 6)) (v := ?v74) (by rfl) rfl ?h74 ?_
                        case h74 => (go_simp; rfl)
                        simp only [Act.put, List.setIfInBounds_toArray, List.set_cons_zero, List.set_cons_succ]
                        refine pl_nil ?_
                        go_wp2
                        go_ret
                        exact ⟨ret_bool rfl, below_then HV6.out HV6.out.size hHeld⟩
  · refine pl_pure (N := (some 19)) (v := ?v75) (by rfl) rfl ?h75 ?_
    case h75 => (go_simp; rfl)
    simp only [Act.put, List.setIfInBounds_toArray, List.set_cons_zero, List.set_cons_succ]
    refine pl_off (N := (some 20)) (by rfl) rfl ?_
    simp only [Act.put, List.setIfInBounds_toArray, List.set_cons_zero, List.set_cons_succ]
    refine pl_off (N := (some 21)) (by rfl) rfl ?_
    simp only [Act.put, List.setIfInBounds_toArray, List.set_cons_zero, List.set_cons_succ]
    refine pl_off (N := (some 22)) (by rfl) rfl ?_
    simp only [Act.put, List.setIfInBounds_toArray, List.set_cons_zero, List.set_cons_succ]
    refine pl_pure (N := (some 23)) (v := ?v79) (by rfl) rfl ?h79 ?_
    case h79 => (go_simp; rfl)
    simp only [Act.put, List.setIfInBounds_toArray, List.set_cons_zero, List.set_cons_succ]
    refine pl_pure (N := (some 24)) (v := ?v80) (by rfl) rfl ?h80 ?_
    case h80 => (go_simp; rfl)
    simp only [Act.put, List.setIfInBounds_toArray, List.set_cons_zero, List.set_cons_succ]
    refine pl_off (N := (some 25)) (by rfl) rfl ?_
    simp only [Act.put, List.setIfInBounds_toArray, List.set_cons_zero, List.set_cons_succ]
    refine pl_off (N := (some 26)) (by rfl) rfl ?_
    simp only [Act.put, List.setIfInBounds_toArray, List.set_cons_zero, List.set_cons_succ]
    refine pl_off (N := (some 27)) (by rfl) rfl ?_
    simp only [Act.put, List.setIfInBounds_toArray, List.set_cons_zero, List.set_cons_succ]
    refine pl_pure (N := (some 28)) (v := ?v84) (by rfl) rfl ?h84 ?_
    case h84 => (go_simp; rfl)
    simp only [Act.put, List.setIfInBounds_toArray, List.set_cons_zero, List.set_cons_succ]
    refine pl_pure (N := (some 29)) (v := ?v85) (by rfl) rfl ?h85 ?_
    case h85 => (go_simp; rfl)
    simp only [Act.put, List.setIfInBounds_toArray, List.set_cons_zero, List.set_cons_succ]
    refine pl_off (N := (some 30)) (by rfl) rfl ?_
    simp only [Act.put, List.setIfInBounds_toArray, List.set_cons_zero, List.set_cons_succ]
    refine pl_off (N := (some 31)) (by rfl) rfl ?_
    simp only [Act.put, List.setIfInBounds_toArray, List.set_cons_zero, List.set_cons_succ]
    refine pl_off (N := (some 32)) (by rfl) rfl ?_
    simp only [Act.put, List.setIfInBounds_toArray, List.set_cons_zero, List.set_cons_succ]
    refine pl_off (N := (some 33)) (by rfl) rfl ?_
    simp only [Act.put, List.setIfInBounds_toArray, List.set_cons_zero, List.set_cons_succ]
    refine pl_pure (N := (some 34)) (v := ?v90) (by rfl) rfl ?h90 ?_
    case h90 => (go_simp; rfl)
    simp only [Act.put, List.setIfInBounds_toArray, List.set_cons_zero, List.set_cons_succ]
    refine pl_nil ?_
    go_upto_region 2 with (fail)
    refine pl_start ?_
    refine pl_held (B := v0.heap.size) (v := v0) (HX1.out) (fun hHeld => ?_)
    refine goesCL_ (N := (some 35)) Try.func28 (by kernel_rfl) rfl (by rfl) rfl rfl (wakes06_c _) (by simp [Act.eval]) ?_
    rintro e x2_0 ⟨rfl, hb2_0⟩
    refine ⟨_, rfl, ?_⟩
    simp only [Act.put, List.setIfInBounds_toArray, List.set_cons_zero, List.set_cons_succ]
    refine pl_held (B := v0.heap.size) (v := v0) (below_then hHeld hHeld.size hb2_0) (fun hHeld => ?_)
    refine pl_pure (N := (some 6)) (v := ?v92) (by rfl) rfl ?h92 ?_
    case h92 => (go_simp; rfl)
    simp only [Act.put, List.setIfInBounds_toArray, List.set_cons_zero, List.set_cons_succ]
    refine pl_nil ?_
    go_wp2
    go_ret
    exact ⟨ret_bool rfl, below_then HB0.out HB0.out.size hHeld⟩
end Go.Proofs.Ytphmmppmhphgeaa
