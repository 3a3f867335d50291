/- The law NullableRows, walked: it answers true. -/
import Derived.Test.YtphmmppmhphgeaaV1j
set_option linter.unusedVariables false
set_option linter.unusedSimpArgs false
namespace Go.Proofs.Ytphmmppmhphgeaa
open Go.RowKit Go.Proofs.YtphmmppmhphgeaaW.PrintWords Go.Proofs.YtphmmppmhphgeaaW.PrintLast

abbrev kU8 : Kd Int := Kd.int .u8
def modL (n : Int) (l : List Int) : List Int := l.map (· % n)
theorem modL_take {n : Int} {l : List Int} {k : Nat} (h : k < l.length) : modL n (l.take (k + 1)) = modL n (l.take k) ++ [(l[k]'h) % n] := by
  rw [modL, List.take_succ_eq_append_getElem h, List.map_append]; rfl
theorem modL_len (n : Int) (l : List Int) : (modL n l).length = l.length := by simp [modL]
theorem allF_app (m : List Bool) (l r : List Int) : allF m (l ++ r) = (allF m l && allF m r) := by simp [allF, List.all_append]
theorem allF_one (m : List Bool) (x : Int) : allF m [x] = getB m x := by simp [allF]
/-- Onto a row of one's own, in a region that draws its order. -/
theorem pl_two {a b : Bool} : (a && b) = (b && a) := Bool.and_comm a b
theorem ofN_n (g : Gram) (A1 A2 A3 : Option Addr) (c1 c2 c3 : Nat) (w : World) (hg : RepG w g A1 A2 A3 c1 c2 c3) (hgd : goodF g = true) {n : Nat} (hn : nsym g = n) :
    Calls Try.prog 30 #[.agg #[.slice A1 g.terms.length c1, .slice A2 g.names.length c2, .slice A3 g.rules.length c3]] w fun e w' => (∃ b, e = .returned (.slice (some ⟨b, 0, none⟩) n n) ∧ BB w' b (nullF g) ∧ w.heap.size ≤ b) ∧ Below w.heap.size w w' := by
  have hl := nullF_len hgd
  have h := ofN_yes g A1 A2 A3 c1 c2 c3 w hg hgd
  unfold OfNEnd at h
  rw [hl, hn] at h
  exact h
set_option maxRecDepth 100000 in
set_option maxHeartbeats 16000000 in
theorem nullRows_c (g : Gram) (A1 A2 A3 : Option Addr) (c1 c2 c3 : Nat) (L : Option Addr) (cl : Nat) (l : List Int) (M : Option Addr) (cm : Nat) (m : List Int) (w : World) (hg : RepG w g A1 A2 A3 c1 c2 c3) (hz : Sized g) (hl : kU8.C w L l.length l) (hlb : ∀ x ∈ l, 0 ≤ x ∧ x ≤ 255) (hm : kU8.C w M m.length m) (hmb : ∀ x ∈ m, 0 ≤ x ∧ x ≤ 255) :
    Calls Try.prog 10 #[.agg #[.slice A1 g.terms.length c1, .slice A2 g.names.length c2, .slice A3 g.rules.length c3], .slice L l.length cl, .slice M m.length cm] w fun e w' => e = .returned (.bool true) ∧ Below w.heap.size w w' := by
  obtain ⟨v0, hv0⟩ : ∃ v0 : World, v0 = w.alloc (.cells #[.slice A1 g.terms.length c1, .slice A2 g.names.length c2, .slice A3 g.rules.length c3] 25 (0, 0)) := ⟨_, rfl⟩
  have HB0 : Aside0 (Below w.heap.size w v0) := ⟨by rw [hv0]; exact (Below.refl w.heap.size w).alloc (Nat.le_refl _) _⟩
  have HP0 : Aside0 (v0.heap[w.heap.size]? = some (.cells #[.slice A1 g.terms.length c1, .slice A2 g.names.length c2, .slice A3 g.rules.length c3] 25 (0, 0))) := ⟨by rw [hv0]; exact blk_new w _⟩
  have HG0 := Aside0.mk (hg.below_ HB0.out)
  have HL0 := Aside0.mk (Kd.C_below hl HB0.out)
  have HM0 := Aside0.mk (Kd.C_below hm HB0.out)
  have HLB := Aside0.mk hlb
  have HMB := Aside0.mk hmb
  have HZ := Aside0.mk hz
  have hlm := C_max hl
  have hmm := C_max hm
  clear hg hz hl hm hlb hmb
  go_enter Try.func10, Try.ntmps10
  go_upto_region 1 with (fail)
  simp only [← hv0]
  clear hv0
  refine pl_start ?_
  refine pl_held (B := v0.heap.size) (v := v0) (Below.refl _ _) (fun hHeld => ?_)
  refine pl_pure (N := (some 16)) (v := ?v24) (by rfl) rfl ?h24 ?_
  case h24 => (have d0 := (blk_cell (blk_below HP0.out hHeld) 0).trans rfl; have d1 := (blk_cell (blk_below HP0.out hHeld) 1).trans rfl; have d2 := (blk_cell (blk_below HP0.out hHeld) 2).trans rfl; go_simp; rfl)
  simp only [Act.put, List.setIfInBounds_toArray, List.set_cons_zero, List.set_cons_succ]
  refine goesCL_ (N := (some 17)) Try.func15 (by kernel_rfl) rfl (by rfl) rfl rfl (large_c g A1 A2 A3 c1 c2 c3 _ (HG0.out.below_ hHeld)) (by simp [Act.eval]) ?_
  rintro e x1_1 ⟨⟨lb, rfl, hs⟩, hb1_1⟩
  refine ⟨_, rfl, ?_⟩
  simp only [Act.put, List.setIfInBounds_toArray, List.set_cons_zero, List.set_cons_succ]
  refine pl_held (B := v0.heap.size) (v := v0) (below_then hHeld hHeld.size hb1_1) (fun hHeld => ?_)
  have HX1 := Aside0.mk hHeld
  clear hs
  cases lb
  · cases hgd : goodF g
    · refine pl_pure (N := (some 18)) (v := ?v26) (by rfl) rfl ?h26 ?_
      case h26 => (go_simp; rfl)
      simp only [Act.put, List.setIfInBounds_toArray, List.set_cons_zero, List.set_cons_succ]
      refine pl_pure (N := (some 19)) (v := ?v27) (by rfl) rfl ?h27 ?_
      case h27 => (have d0 := (blk_cell (blk_below HP0.out hHeld) 0).trans rfl; have d1 := (blk_cell (blk_below HP0.out hHeld) 1).trans rfl; have d2 := (blk_cell (blk_below HP0.out hHeld) 2).trans rfl; go_simp; rfl)
      simp only [Act.put, List.setIfInBounds_toArray, List.set_cons_zero, List.set_cons_succ]
      refine goesCL_ (N := (some 20)) Try.func24 (by kernel_rfl) rfl (by rfl) rfl rfl (good1_v g A1 A2 A3 c1 c2 c3 _ (HG0.out.below_ hHeld) HZ.out hgd) (by simp [Act.eval]) ?_
      rintro e x1_4 ⟨rfl, hb1_4⟩
      refine ⟨_, rfl, ?_⟩
      simp only [Act.put, List.setIfInBounds_toArray, List.set_cons_zero, List.set_cons_succ]
      refine pl_held (B := v0.heap.size) (v := v0) (below_then hHeld hHeld.size hb1_4) (fun hHeld => ?_)
      refine pl_pure (N := (some 21)) (v := ?v29) (by rfl) rfl ?h29 ?_
      case h29 => (go_simp; rfl)
      simp only [Act.put, List.setIfInBounds_toArray, List.set_cons_zero, List.set_cons_succ]
      refine pl_pure (N := (some 22)) (v := ?v30) (by rfl) rfl ?h30 ?_
      case h30 => (go_simp; rfl)
      simp only [Act.put, List.setIfInBounds_toArray, List.set_cons_zero, List.set_cons_succ]
      refine pl_pure (N := (some 23)) (v := ?v31) (by rfl) rfl ?h31 ?_
      case h31 => (go_simp; rfl)
      simp only [Act.put, List.setIfInBounds_toArray, List.set_cons_zero, List.set_cons_succ]
      refine pl_off (N := (some 24)) (by rfl) rfl ?_
      simp only [Act.put, List.setIfInBounds_toArray, List.set_cons_zero, List.set_cons_succ]
      refine pl_off (N := (some 25)) (by rfl) rfl ?_
      simp only [Act.put, List.setIfInBounds_toArray, List.set_cons_zero, List.set_cons_succ]
      refine pl_off (N := (some 26)) (by rfl) rfl ?_
      simp only [Act.put, List.setIfInBounds_toArray, List.set_cons_zero, List.set_cons_succ]
      refine pl_pure (N := (some 27)) (v := ?v35) (by rfl) rfl ?h35 ?_
      case h35 => (go_simp; rfl)
      simp only [Act.put, List.setIfInBounds_toArray, List.set_cons_zero, List.set_cons_succ]
      refine pl_pure (N := (some 28)) (v := ?v36) (by rfl) rfl ?h36 ?_
      case h36 => (go_simp; rfl)
      simp only [Act.put, List.setIfInBounds_toArray, List.set_cons_zero, List.set_cons_succ]
      refine pl_off (N := (some 29)) (by rfl) rfl ?_
      simp only [Act.put, List.setIfInBounds_toArray, List.set_cons_zero, List.set_cons_succ]
      refine pl_off (N := (some 30)) (by rfl) rfl ?_
      simp only [Act.put, List.setIfInBounds_toArray, List.set_cons_zero, List.set_cons_succ]
      refine pl_off (N := (some 31)) (by rfl) rfl ?_
      simp only [Act.put, List.setIfInBounds_toArray, List.set_cons_zero, List.set_cons_succ]
      refine pl_pure (N := (some 32)) (v := ?v40) (by rfl) rfl ?h40 ?_
      case h40 => (go_simp; rfl)
      simp only [Act.put, List.setIfInBounds_toArray, List.set_cons_zero, List.set_cons_succ]
      refine pl_nil ?_
      go_upto_region 2 with (fail)
      refine pl_start ?_
      refine pl_held (B := v0.heap.size) (v := v0) (below_then HX1.out HX1.out.size hb1_4) (fun hHeld => ?_)
      refine goesCL_ (N := (some 33)) Try.func28 (by kernel_rfl) rfl (by rfl) rfl rfl (wakes06_c _) (by simp [Act.eval]) ?_
      rintro e x2_0 ⟨rfl, hb2_0⟩
      refine ⟨_, rfl, ?_⟩
      simp only [Act.put, List.setIfInBounds_toArray, List.set_cons_zero, List.set_cons_succ]
      refine pl_held (B := v0.heap.size) (v := v0) (below_then hHeld hHeld.size hb2_0) (fun hHeld => ?_)
      refine pl_pure (N := (some 6)) (v := ?v2) (by rfl) rfl ?h2 ?_
      case h2 => (go_simp; rfl)
      simp only [Act.put, List.setIfInBounds_toArray, List.set_cons_zero, List.set_cons_succ]
      refine pl_nil ?_
      go_wp2
      go_ret
      exact ⟨ret_bool rfl, below_then HB0.out HB0.out.size hHeld⟩
    · by_cases hl50 : 50 < l.length
      · have d1 : decide ((50 : Int) < (l.length : Int)) = true := by simp; omega
        refine pl_pure (N := (some 18)) (v := ?v41) (by rfl) rfl ?h41 ?_
        case h41 => (go_simp; rfl)
        simp only [Act.put, List.setIfInBounds_toArray, List.set_cons_zero, List.set_cons_succ]
        refine pl_pure (N := (some 19)) (v := ?v42) (by rfl) rfl ?h42 ?_
        case h42 => (have d0 := (blk_cell (blk_below HP0.out hHeld) 0).trans rfl; have d1 := (blk_cell (blk_below HP0.out hHeld) 1).trans rfl; have d2 := (blk_cell (blk_below HP0.out hHeld) 2).trans rfl; go_simp; rfl)
        simp only [Act.put, List.setIfInBounds_toArray, List.set_cons_zero, List.set_cons_succ]
        refine goesCL_ (N := (some 20)) Try.func24 (by kernel_rfl) rfl (by rfl) rfl rfl (good1_v g A1 A2 A3 c1 c2 c3 _ (HG0.out.below_ hHeld) HZ.out hgd) (by simp [Act.eval]) ?_
        rintro e x1_4 ⟨rfl, hb1_4⟩
        refine ⟨_, rfl, ?_⟩
        simp only [Act.put, List.setIfInBounds_toArray, List.set_cons_zero, List.set_cons_succ]
        refine pl_held (B := v0.heap.size) (v := v0) (below_then hHeld hHeld.size hb1_4) (fun hHeld => ?_)
        refine pl_pure (N := (some 21)) (v := ?v44) (by rfl) rfl ?h44 ?_
        case h44 => (go_simp; rfl)
        simp only [Act.put, List.setIfInBounds_toArray, List.set_cons_zero, List.set_cons_succ]
        refine pl_pure (N := (some 22)) (v := ?v45) (by rfl) rfl ?h45 ?_
        case h45 => (go_simp; rfl)
        simp only [Act.put, List.setIfInBounds_toArray, List.set_cons_zero, List.set_cons_succ]
        refine pl_pure (N := (some 23)) (v := ?v46) (by rfl) rfl ?h46 ?_
        case h46 => (go_simp; rfl)
        simp only [Act.put, List.setIfInBounds_toArray, List.set_cons_zero, List.set_cons_succ]
        refine pl_pure (N := (some 24)) (v := ?v47) (by rfl) rfl ?h47 ?_
        case h47 => (go_simp; rfl)
        simp only [Act.put, List.setIfInBounds_toArray, List.set_cons_zero, List.set_cons_succ]
        refine pl_pure (N := (some 25)) (v := ?v48) (by rfl) rfl ?h48 ?_
        case h48 => (go_simp; rfl)
        simp only [Act.put, List.setIfInBounds_toArray, List.set_cons_zero, List.set_cons_succ]
        refine pl_pure (N := (some 26)) (v := ?v49) (by rfl) rfl ?h49 ?_
        case h49 => (go_simp; rfl)
        simp only [Act.put, List.setIfInBounds_toArray, List.set_cons_zero, List.set_cons_succ]
        refine pl_pure (N := (some 27)) (v := ?v50) (by rfl) rfl ?h50 ?_
        case h50 => (go_simp; rfl)
        simp only [Act.put, List.setIfInBounds_toArray, List.set_cons_zero, List.set_cons_succ]
        refine pl_pure (N := (some 28)) (v := ?v51) (by rfl) rfl ?h51 ?_
        case h51 => (go_simp; rfl)
        simp only [Act.put, List.setIfInBounds_toArray, List.set_cons_zero, List.set_cons_succ]
        refine pl_off (N := (some 29)) (by rfl) rfl ?_
        simp only [Act.put, List.setIfInBounds_toArray, List.set_cons_zero, List.set_cons_succ]
        refine pl_off (N := (some 30)) (by rfl) rfl ?_
        simp only [Act.put, List.setIfInBounds_toArray, List.set_cons_zero, List.set_cons_succ]
        refine pl_off (N := (some 31)) (by rfl) rfl ?_
        simp only [Act.put, List.setIfInBounds_toArray, List.set_cons_zero, List.set_cons_succ]
        refine pl_pure (N := (some 32)) (v := ?v55) (by rfl) rfl ?h55 ?_
        case h55 => (go_simp; rfl)
        simp only [Act.put, List.setIfInBounds_toArray, List.set_cons_zero, List.set_cons_succ]
        refine pl_nil ?_
        go_upto_region 2 with (fail)
        refine pl_start ?_
        refine pl_held (B := v0.heap.size) (v := v0) (below_then HX1.out HX1.out.size hb1_4) (fun hHeld => ?_)
        refine goesCL_ (N := (some 33)) Try.func28 (by kernel_rfl) rfl (by rfl) rfl rfl (wakes06_c _) (by simp [Act.eval]) ?_
        rintro e x2_0 ⟨rfl, hb2_0⟩
        refine ⟨_, rfl, ?_⟩
        simp only [Act.put, List.setIfInBounds_toArray, List.set_cons_zero, List.set_cons_succ]
        refine pl_held (B := v0.heap.size) (v := v0) (below_then hHeld hHeld.size hb2_0) (fun hHeld => ?_)
        refine pl_pure (N := (some 6)) (v := ?v4) (by rfl) rfl ?h4 ?_
        case h4 => (go_simp; rfl)
        simp only [Act.put, List.setIfInBounds_toArray, List.set_cons_zero, List.set_cons_succ]
        refine pl_nil ?_
        go_wp2
        go_ret
        exact ⟨ret_bool rfl, below_then HB0.out HB0.out.size hHeld⟩
      · have d1 : decide ((50 : Int) < (l.length : Int)) = false := by simp; omega
        by_cases hm50 : 50 < m.length
        · have d2 : decide ((50 : Int) < (m.length : Int)) = true := by simp; omega
          refine pl_pure (N := (some 18)) (v := ?v56) (by rfl) rfl ?h56 ?_
          case h56 => (go_simp; rfl)
          simp only [Act.put, List.setIfInBounds_toArray, List.set_cons_zero, List.set_cons_succ]
          refine pl_pure (N := (some 19)) (v := ?v57) (by rfl) rfl ?h57 ?_
          case h57 => (have d0 := (blk_cell (blk_below HP0.out hHeld) 0).trans rfl; have d1 := (blk_cell (blk_below HP0.out hHeld) 1).trans rfl; have d2 := (blk_cell (blk_below HP0.out hHeld) 2).trans rfl; go_simp; rfl)
          simp only [Act.put, List.setIfInBounds_toArray, List.set_cons_zero, List.set_cons_succ]
          refine goesCL_ (N := (some 20)) Try.func24 (by kernel_rfl) rfl (by rfl) rfl rfl (good1_v g A1 A2 A3 c1 c2 c3 _ (HG0.out.below_ hHeld) HZ.out hgd) (by simp [Act.eval]) ?_
          rintro e x1_4 ⟨rfl, hb1_4⟩
          refine ⟨_, rfl, ?_⟩
          simp only [Act.put, List.setIfInBounds_toArray, List.set_cons_zero, List.set_cons_succ]
          refine pl_held (B := v0.heap.size) (v := v0) (below_then hHeld hHeld.size hb1_4) (fun hHeld => ?_)
          refine pl_pure (N := (some 21)) (v := ?v59) (by rfl) rfl ?h59 ?_
          case h59 => (go_simp; rfl)
          simp only [Act.put, List.setIfInBounds_toArray, List.set_cons_zero, List.set_cons_succ]
          refine pl_pure (N := (some 22)) (v := ?v60) (by rfl) rfl ?h60 ?_
          case h60 => (go_simp; rfl)
          simp only [Act.put, List.setIfInBounds_toArray, List.set_cons_zero, List.set_cons_succ]
          refine pl_pure (N := (some 23)) (v := ?v61) (by rfl) rfl ?h61 ?_
          case h61 => (go_simp; rfl)
          simp only [Act.put, List.setIfInBounds_toArray, List.set_cons_zero, List.set_cons_succ]
          refine pl_pure (N := (some 24)) (v := ?v62) (by rfl) rfl ?h62 ?_
          case h62 => (go_simp; rfl)
          simp only [Act.put, List.setIfInBounds_toArray, List.set_cons_zero, List.set_cons_succ]
          refine pl_pure (N := (some 25)) (v := ?v63) (by rfl) rfl ?h63 ?_
          case h63 => (go_simp; rfl)
          simp only [Act.put, List.setIfInBounds_toArray, List.set_cons_zero, List.set_cons_succ]
          refine pl_pure (N := (some 26)) (v := ?v64) (by rfl) rfl ?h64 ?_
          case h64 => (go_simp; rfl)
          simp only [Act.put, List.setIfInBounds_toArray, List.set_cons_zero, List.set_cons_succ]
          refine pl_pure (N := (some 27)) (v := ?v65) (by rfl) rfl ?h65 ?_
          case h65 => (go_simp; rfl)
          simp only [Act.put, List.setIfInBounds_toArray, List.set_cons_zero, List.set_cons_succ]
          refine pl_pure (N := (some 28)) (v := ?v66) (by rfl) rfl ?h66 ?_
          case h66 => (go_simp; rfl)
          simp only [Act.put, List.setIfInBounds_toArray, List.set_cons_zero, List.set_cons_succ]
          refine pl_pure (N := (some 29)) (v := ?v67) (by rfl) rfl ?h67 ?_
          case h67 => (go_simp; rfl)
          simp only [Act.put, List.setIfInBounds_toArray, List.set_cons_zero, List.set_cons_succ]
          refine pl_pure (N := (some 30)) (v := ?v68) (by rfl) rfl ?h68 ?_
          case h68 => (go_simp; rfl)
          simp only [Act.put, List.setIfInBounds_toArray, List.set_cons_zero, List.set_cons_succ]
          refine pl_pure (N := (some 31)) (v := ?v69) (by rfl) rfl ?h69 ?_
          case h69 => (go_simp; rfl)
          simp only [Act.put, List.setIfInBounds_toArray, List.set_cons_zero, List.set_cons_succ]
          refine pl_pure (N := (some 32)) (v := ?v70) (by rfl) rfl ?h70 ?_
          case h70 => (go_simp; rfl)
          simp only [Act.put, List.setIfInBounds_toArray, List.set_cons_zero, List.set_cons_succ]
          refine pl_nil ?_
          go_upto_region 2 with (fail)
          refine pl_start ?_
          refine pl_held (B := v0.heap.size) (v := v0) (below_then HX1.out HX1.out.size hb1_4) (fun hHeld => ?_)
          refine goesCL_ (N := (some 33)) Try.func28 (by kernel_rfl) rfl (by rfl) rfl rfl (wakes06_c _) (by simp [Act.eval]) ?_
          rintro e x2_0 ⟨rfl, hb2_0⟩
          refine ⟨_, rfl, ?_⟩
          simp only [Act.put, List.setIfInBounds_toArray, List.set_cons_zero, List.set_cons_succ]
          refine pl_held (B := v0.heap.size) (v := v0) (below_then hHeld hHeld.size hb2_0) (fun hHeld => ?_)
          refine pl_pure (N := (some 6)) (v := ?v6) (by rfl) rfl ?h6 ?_
          case h6 => (go_simp; rfl)
          simp only [Act.put, List.setIfInBounds_toArray, List.set_cons_zero, List.set_cons_succ]
          refine pl_nil ?_
          go_wp2
          go_ret
          exact ⟨ret_bool rfl, below_then HB0.out HB0.out.size hHeld⟩
        · have d2 : decide ((50 : Int) < (m.length : Int)) = false := by simp; omega
          refine pl_pure (N := (some 18)) (v := ?v71) (by rfl) rfl ?h71 ?_
          case h71 => (go_simp; rfl)
          simp only [Act.put, List.setIfInBounds_toArray, List.set_cons_zero, List.set_cons_succ]
          refine pl_pure (N := (some 19)) (v := ?v72) (by rfl) rfl ?h72 ?_
          case h72 => (have d0 := (blk_cell (blk_below HP0.out hHeld) 0).trans rfl; have d1 := (blk_cell (blk_below HP0.out hHeld) 1).trans rfl; have d2 := (blk_cell (blk_below HP0.out hHeld) 2).trans rfl; go_simp; rfl)
          simp only [Act.put, List.setIfInBounds_toArray, List.set_cons_zero, List.set_cons_succ]
          refine goesCL_ (N := (some 20)) Try.func24 (by kernel_rfl) rfl (by rfl) rfl rfl (good1_v g A1 A2 A3 c1 c2 c3 _ (HG0.out.below_ hHeld) HZ.out hgd) (by simp [Act.eval]) ?_
          rintro e x1_4 ⟨rfl, hb1_4⟩
          refine ⟨_, rfl, ?_⟩
          simp only [Act.put, List.setIfInBounds_toArray, List.set_cons_zero, List.set_cons_succ]
          refine pl_held (B := v0.heap.size) (v := v0) (below_then hHeld hHeld.size hb1_4) (fun hHeld => ?_)
          refine pl_pure (N := (some 21)) (v := ?v74) (by rfl) rfl ?h74 ?_
          case h74 => (go_simp; rfl)
          simp only [Act.put, List.setIfInBounds_toArray, List.set_cons_zero, List.set_cons_succ]
          refine pl_pure (N := (some 22)) (v := ?v75) (by rfl) rfl ?h75 ?_
          case h75 => (go_simp; rfl)
          simp only [Act.put, List.setIfInBounds_toArray, List.set_cons_zero, List.set_cons_succ]
          refine pl_pure (N := (some 23)) (v := ?v76) (by rfl) rfl ?h76 ?_
          case h76 => (go_simp; rfl)
          simp only [Act.put, List.setIfInBounds_toArray, List.set_cons_zero, List.set_cons_succ]
          refine pl_pure (N := (some 24)) (v := ?v77) (by rfl) rfl ?h77 ?_
          case h77 => (go_simp; rfl)
          simp only [Act.put, List.setIfInBounds_toArray, List.set_cons_zero, List.set_cons_succ]
          refine pl_pure (N := (some 25)) (v := ?v78) (by rfl) rfl ?h78 ?_
          case h78 => (go_simp; rfl)
          simp only [Act.put, List.setIfInBounds_toArray, List.set_cons_zero, List.set_cons_succ]
          refine pl_pure (N := (some 26)) (v := ?v79) (by rfl) rfl ?h79 ?_
          case h79 => (go_simp; rfl)
          simp only [Act.put, List.setIfInBounds_toArray, List.set_cons_zero, List.set_cons_succ]
          refine pl_pure (N := (some 27)) (v := ?v80) (by rfl) rfl ?h80 ?_
          case h80 => (go_simp; rfl)
          simp only [Act.put, List.setIfInBounds_toArray, List.set_cons_zero, List.set_cons_succ]
          refine pl_pure (N := (some 28)) (v := ?v81) (by rfl) rfl ?h81 ?_
          case h81 => (go_simp; rfl)
          simp only [Act.put, List.setIfInBounds_toArray, List.set_cons_zero, List.set_cons_succ]
          refine pl_pure (N := (some 29)) (v := ?v82) (by rfl) rfl ?h82 ?_
          case h82 => (go_simp; rfl)
          simp only [Act.put, List.setIfInBounds_toArray, List.set_cons_zero, List.set_cons_succ]
          refine pl_pure (N := (some 30)) (v := ?v83) (by rfl) rfl ?h83 ?_
          case h83 => (go_simp; rfl)
          simp only [Act.put, List.setIfInBounds_toArray, List.set_cons_zero, List.set_cons_succ]
          refine pl_pure (N := (some 31)) (v := ?v84) (by rfl) rfl ?h84 ?_
          case h84 => (go_simp; rfl)
          simp only [Act.put, List.setIfInBounds_toArray, List.set_cons_zero, List.set_cons_succ]
          refine pl_pure (N := (some 32)) (v := ?v85) (by rfl) rfl ?h85 ?_
          case h85 => (go_simp; rfl)
          simp only [Act.put, List.setIfInBounds_toArray, List.set_cons_zero, List.set_cons_succ]
          refine pl_nil ?_
          clear d1 d2
          obtain ⟨q1, q2, q3, q4⟩ := goodF_small hgd
          have HX4 := Aside0.mk (below_then HX1.out HX1.out.size hb1_4)
          obtain ⟨n, hn⟩ : ∃ n, nsym g = n := ⟨_, rfl⟩
          have hn80 : n ≤ 80 := by rw [← hn]; unfold nsym; omega
          have hn1 : 1 ≤ n := by rw [← hn]; unfold nsym; omega
          have e1 : IntKind.i64.wrap ((g.terms.length : Int) + (g.names.length : Int)) = (n : Int) := by rw [IntWalk.i64_in _ (by omega), ← hn]; unfold nsym; omega
          have HN := Lib.hid hn
          have HGD := Lib.hid hgd
          clear hn hgd hHeld hb1_1 hb1_4
          have K1 := Aside0.mk (blk_below HP0.out HX4.out)
          have a1 := (blk_cell K1.out 0).trans rfl
          have a2 := (blk_cell K1.out 1).trans rfl
          go_upto_region 4 with (fail)
          clear e1 a1 a2
          refine pl_start ?_
          refine pl_held (B := v0.heap.size) (v := v0) (HX4.out) (fun hHeld => ?_)
          refine pl_pure (N := (some 41)) (v := ?v86) (by rfl) rfl ?h86 ?_
          case h86 => (have d0 := (blk_cell (blk_below HP0.out hHeld) 0).trans rfl; have d1 := (blk_cell (blk_below HP0.out hHeld) 1).trans rfl; have d2 := (blk_cell (blk_below HP0.out hHeld) 2).trans rfl; go_simp; rfl)
          simp only [Act.put, List.setIfInBounds_toArray, List.set_cons_zero, List.set_cons_succ]
          refine goesCL_ (N := (some 42)) Try.func30 (by kernel_rfl) rfl (by rfl) rfl rfl (ofN_n g A1 A2 A3 c1 c2 c3 _ (HG0.out.below_ hHeld) HGD.out HN.out) (by simp [Act.eval]) ?_
          rintro e x4_1 ⟨⟨b, rfl, hbb, hbs⟩, hb4_1⟩
          refine ⟨_, rfl, ?_⟩
          simp only [Act.put, List.setIfInBounds_toArray, List.set_cons_zero, List.set_cons_succ]
          refine pl_held (B := v0.heap.size) (v := v0) (below_then hHeld hHeld.size hb4_1) (fun hHeld => ?_)
          refine pl_pure (N := (some 8)) (v := ?v88) (by rfl) rfl ?h88 ?_
          case h88 => (go_simp; rfl)
          simp only [Act.put, List.setIfInBounds_toArray, List.set_cons_zero, List.set_cons_succ]
          refine pl_nil ?_
          have HX5 := Aside0.mk hHeld
          have HV5 := Aside0.mk (below_then HB0.out HB0.out.size hHeld)
          have HBB := Aside0.mk hbb
          have K5 := Aside0.mk (blk_below HP0.out hHeld)
          have HG5 := Aside0.mk (HG0.out.below_ hHeld)
          have HL5 := Aside0.mk (Kd.C_below HL0.out hHeld)
          have HM5 := Aside0.mk (Kd.C_below HM0.out hHeld)
          have HNL : Aside0 ((nullF g).length = n) := ⟨by rw [nullF_len HGD.out, HN.out]⟩
          clear hHeld hbb hbs hb4_1 HX1 HX4 HP0 HG0 HL0 HM0 K1
          go_wp2
          go_loopw [12, 9, 11] (fun i vp va wr => ∃ k : Nat, k ≤ l.length ∧ i = .int .i64 k ∧ va = .bool (allF (nullF g) (modL n (l.take k))) ∧ Aside0 (kInt.R 3 wr x4_1.heap.size (fun _ => True) vp (modL n (l.take k))) ∧ Aside0 (Below x4_1.heap.size x4_1 wr)) (fun i _ _ _ => l.length - (intOf i).toNat)
          case atStart => exact ⟨0, Nat.zero_le _, rfl, by simp [modL, allF], ⟨Kd.R_nil _ _ _ _ _⟩, ⟨Below.refl _ _⟩⟩
          case round =>
            obtain ⟨k, hk, rfl, rfl, HR, HB⟩ := hrel
            by_cases hlt : k < l.length
            · obtain ⟨ad, ead, hy⟩ := at_int (Kd.C_below HL5.out HB.out) k hlt
              cases ead
              have i1 : (0 : Int) ≤ (k : Int) := by omega
              have i2 : (k : Int) < (l.length : Int) := by omega
              have hxb := HLB.out (l[k]'hlt) (List.getElem_mem _)
              have HT := Lib.hid (modL_take (n := n) hlt)
              have hpl := modL_len n (l.take k)
              rw [List.length_take, Nat.min_eq_left hk] at hpl
              obtain ⟨x, hx⟩ : ∃ x, x = l[k]'hlt := ⟨_, rfl⟩
              rw [← hx] at hy hxb HT
              clear hx
              obtain ⟨z, hz⟩ : ∃ z : Nat, x % (n : Int) = z := ⟨(x % (n : Int)).toNat, by have := Int.emod_nonneg x (show (n : Int) ≠ 0 by omega); omega⟩
              have hzn : z < n := by have := Int.emod_lt_of_pos x (show (0 : Int) < n by omega); omega
              obtain ⟨P, hP⟩ : ∃ P, P = modL n (l.take k) := ⟨_, rfl⟩
              rw [← hP] at HR HT hpl ⊢
              obtain ⟨av, hav⟩ : ∃ av, av = allF (nullF g) P := ⟨_, rfl⟩
              have HAV := Lib.hid hav
              rw [← hav]
              have HPL := Lib.hid hpl
              have HZM := Lib.hid hz
              have ht : IntKind.i64.wrap x = x := by rw [IntWalk.i64_in _ (by omega)]
              have ht2 : x.tmod (n : Int) = (z : Int) := by rw [Int.tmod_eq_emod_of_nonneg hxb.1, hz]
              clear hP hav hpl hz
              have j1 : (0 : Int) ≤ (z : Int) := by omega
              have j2 : (z : Int) < (n : Int) := by omega
              have hz5 := HBB.out.cell (i := z) (by rw [HNL.out]; exact hzn)
              obtain ⟨bz, hbz⟩ : ∃ bz, bz = (nullF g)[z]'(by rw [HNL.out]; exact hzn) := ⟨_, rfl⟩
              rw [← hbz] at hz5
              have HBZ : Aside0 (getB (nullF g) (z : Int) = bz) := ⟨by rw [hbz, getB_at (by rw [HNL.out]; exact hzn)]⟩
              have HC5 := Aside0.mk hz5
              clear hbz hz5
              obtain ⟨Ap, cp, rfl⟩ := Kd.R_slice HR.out
              cases av
              all_goals
                go_wp2_with (at_builtin; refine app_int (w0 := x4_1) (base := x4_1.heap.size) (p := (z : Int)) rfl rfl HR.out HB.out HB.out.size (by have := HPL.out; omega) (fun _ _ => trivial) rfl (by simp [Act.eval]) ?_; intro v2 w2 A2; obtain ⟨A', c', rfl⟩ := A2.shape; have HR2 := Aside0.mk A2.row; have HB2 := Aside0.mk A2.below; clear A2; obtain ⟨ad2, ead2, hy2⟩ := at_int (Kd.R_reads' HR2.out).2.2 k (by have := HPL.out; simp; omega); cases ead2; have hx2 : (P ++ [(z : Int)])[k]'(by have := HPL.out; simp; omega) = (z : Int) := (by have := HPL.out; rw [List.getElem_append_right (by omega)]; simp [this]); rw [hx2] at hy2; have hz2 := cell_at HB2.out HC5.out; have hpn : (k : Int) < ((P.length + 1 : Nat) : Int) := (by have := HPL.out; omega); clear hx2)
                go_roundw
                case rel => exact ⟨k + 1, by omega, by go_num, by rw [HT.out, HZM.out, allF_app, allF_one, HBZ.out, ← HAV.out]; simp, by rw [HT.out, HZM.out]; simpa using HR2, HB2⟩
                case measure => simp [intOf]; omega
            · have hke : l.take k = l := List.take_of_length_le (by omega)
              rw [hke] at HR ⊢
              clear hke
              obtain ⟨P, hP⟩ : ∃ P, P = modL n l := ⟨_, rfl⟩
              rw [← hP] at HR ⊢
              have HP := Lib.hid hP
              obtain ⟨pa, hpa⟩ : ∃ pa, pa = allF (nullF g) P := ⟨_, rfl⟩
              rw [← hpa]
              have HPA := Lib.hid hpa
              obtain ⟨Ap, cp, evp, hcp, hCp⟩ := Kd.R_reads HR.out
              subst evp
              have HCP := Aside0.mk hCp
              have hPl : P.length ≤ 50 := by rw [hP, modL_len]; omega
              clear hP hpa hCp HR
              rename World => wp
              go_wp2
              go_loopw [13, 10] (fun i vp wr => ∃ k : Nat, k ≤ m.length ∧ i = .int .i64 k ∧ Aside0 (kInt.R 3 wr wp.heap.size (fun _ => True) vp (modL n (m.take k))) ∧ Aside0 (Below wp.heap.size wp wr)) (fun i _ _ => m.length - (intOf i).toNat)
              case atStart => exact ⟨0, Nat.zero_le _, rfl, ⟨Kd.R_nil _ _ _ _ _⟩, ⟨Below.refl _ _⟩⟩
              case round =>
                obtain ⟨k, hk, rfl, HR, HBq⟩ := hrel
                by_cases hlt : k < m.length
                · obtain ⟨ad, ead, hy⟩ := at_int (Kd.C_below (Kd.C_below HM5.out HB.out) HBq.out) k hlt
                  cases ead
                  have i1 : (0 : Int) ≤ (k : Int) := by omega
                  have i2 : (k : Int) < (m.length : Int) := by omega
                  have hxb := HMB.out (m[k]'hlt) (List.getElem_mem _)
                  have HT := Lib.hid (modL_take (n := n) hlt)
                  have hpl := modL_len n (m.take k)
                  rw [List.length_take, Nat.min_eq_left hk] at hpl
                  obtain ⟨x, hx⟩ : ∃ x, x = m[k]'hlt := ⟨_, rfl⟩
                  rw [← hx] at hy hxb HT
                  clear hx
                  obtain ⟨z, hz⟩ : ∃ z : Nat, x % (n : Int) = z := ⟨(x % (n : Int)).toNat, by have := Int.emod_nonneg x (show (n : Int) ≠ 0 by omega); omega⟩
                  obtain ⟨Z, hZ⟩ : ∃ Z, Z = modL n (m.take k) := ⟨_, rfl⟩
                  rw [← hZ] at HR HT hpl
                  have HPL := Lib.hid hpl
                  have HZM := Lib.hid hz
                  have ht : IntKind.i64.wrap x = x := by rw [IntWalk.i64_in _ (by omega)]
                  have ht2 : x.tmod (n : Int) = (z : Int) := by rw [Int.tmod_eq_emod_of_nonneg hxb.1, hz]
                  clear hZ hpl hz
                  obtain ⟨Aq, cq, rfl⟩ := Kd.R_slice HR.out
                  go_wp2_with (at_builtin; refine app_int (w0 := wp) (base := wp.heap.size) (p := (z : Int)) rfl rfl HR.out HBq.out HBq.out.size (by have := HPL.out; omega) (fun _ _ => trivial) rfl (by simp [Act.eval]) ?_; intro v2 w2 A2; obtain ⟨A', c', rfl⟩ := A2.shape; have HR2 := Aside0.mk A2.row; have HB2 := Aside0.mk A2.below; clear A2)
                  go_roundw
                  case rel => exact ⟨k + 1, by omega, by go_num, by rw [HT.out, HZM.out]; simpa using HR2, HB2⟩
                  case measure => simp [intOf]; omega
                · have hke : m.take k = m := List.take_of_length_le (by omega)
                  rw [hke] at HR
                  clear hke
                  obtain ⟨Z, hZ⟩ : ∃ Z, Z = modL n m := ⟨_, rfl⟩
                  rw [← hZ] at HR
                  obtain ⟨Aq, cq, evq, hcq, hCq⟩ := Kd.R_reads HR.out
                  subst evq
                  have hZl : Z.length ≤ 50 := by rw [hZ, modL_len]; omega
                  have CQ := Aside0.mk hCq
                  have CP := Aside0.mk (Kd.C_below HCP.out HBq.out)
                  have HV := Aside0.mk (below_then HV5.out HV5.out.size (below_then HB.out HB.out.size HBq.out))
                  have hb15 := below_then HB.out HB.out.size HBq.out
                  have K6 := Aside0.mk (blk_below K5.out hb15)
                  have HG6 := Aside0.mk (HG5.out.below_ hb15)
                  clear hb15 hZ hCq HR HB HBq HCP K5 HG5 HBB HM5
                  obtain ⟨zb, hzb⟩ : ∃ zb, allB g Z = zb := ⟨_, rfl⟩
                  have HPB : Aside0 (allB g P = pa) := ⟨by rw [HPA.out, allB, HGD.out]; rfl⟩
                  have HZB := Aside0.mk hzb
                  have HPZ : Aside0 (allB g (P ++ Z) = (pa && zb)) := ⟨by rw [← hzb, ← HPB.out, allB, allB, allB, allF_app, HGD.out]; simp⟩
                  have HZP : Aside0 (allB g (Z ++ P) = (pa && zb)) := ⟨by rw [← hzb, ← HPB.out, allB, allB, allB, allF_app, HGD.out]; simp [Bool.and_comm]⟩
                  clear hzb
                  rename World => W
                  go_upto_region 18 with (fail)
                  refine start_ (n := 8) (S := fun w' => Below W.heap.size W w') (ds := []) (lb 8 0x0) (by kernel_rfl) rfl (by kernel_rfl) (below_drew1 (Below.refl _ _)) (fun hHeld => ?_)
                  refine pure_ (i := 1) (N := (some 90)) (v := ?_) (a' := ?_) (lb 8 0x2) rfl rfl (by kernel_rfl) (fun _ _ _ h => h) (Or.inl ⟨by rfl, ?_⟩) ?_ ?_
                  rotate_left
                  · (intro w'; go_simp; with_reducible rfl)
                  rotate_left
                  · (simp only [Act.put, List.setIfInBounds_toArray, List.set_cons_zero, List.set_cons_succ]; rfl)
                  refine pure_ (i := 4) (N := (some 93)) (v := ?_) (a' := ?_) (lb 8 0x12) rfl rfl (by kernel_rfl) (fun _ _ _ h => h) (Or.inl ⟨by rfl, ?_⟩) ?_ ?_
                  rotate_left
                  · (intro w'; go_simp; with_reducible rfl)
                  rotate_left
                  · (simp only [Act.put, List.setIfInBounds_toArray, List.set_cons_zero, List.set_cons_succ]; rfl)
                  refine take_ (i := 0) (N := (some 89)) (v := ?_) (a' := ?_) (lb 8 0x13) rfl rfl (by kernel_rfl) (fun _ _ _ h => h) (Or.inl ⟨by rfl, ?_⟩) hHeld ?_ ?_
                  rotate_left
                  · (rintro w' hS; have d0 := (blk_cell (blk_below K6.out hS) 0).trans rfl; have d1 := (blk_cell (blk_below K6.out hS) 1).trans rfl; have d2 := (blk_cell (blk_below K6.out hS) 2).trans rfl; go_simp; with_reducible rfl)
                  rotate_left
                  · (simp only [Act.put, List.setIfInBounds_toArray, List.set_cons_zero, List.set_cons_succ]; rfl)
                  refine take_ (i := 3) (N := (some 92)) (v := ?_) (a' := ?_) (lb 8 0x1b) rfl rfl (by kernel_rfl) (fun _ _ _ h => h) (Or.inl ⟨by rfl, ?_⟩) hHeld ?_ ?_
                  rotate_left
                  · (rintro w' hS; have d0 := (blk_cell (blk_below K6.out hS) 0).trans rfl; have d1 := (blk_cell (blk_below K6.out hS) 1).trans rfl; have d2 := (blk_cell (blk_below K6.out hS) 2).trans rfl; go_simp; with_reducible rfl)
                  rotate_left
                  · (simp only [Act.put, List.setIfInBounds_toArray, List.set_cons_zero, List.set_cons_succ]; rfl)
                  refine one_ (i := 2) (N := (some 91)) (lb 8 0x1f) rfl rfl (by kernel_rfl) (by decide) (fun K hK => ?_)
                  (refine goesC_ Try.func34 (by kernel_rfl) rfl (by rfl) rfl rfl (allP_c g A1 A2 A3 c1 c2 c3 Ap cp P _ (HG6.out.below_ hHeld) (Kd.C_below CP.out hHeld) HPB.out) (by simp [Act.eval]) ?_; rintro e w9 ⟨rfl, hb9⟩; refine ⟨_, rfl, ?_⟩; have HQ9 := Aside0.mk (below_then hHeld hHeld.size hb9); clear hb9; refine hK.out _ _ HQ9.out (fun hHeld => ?_))
                  skip
                  clear hK K
                  refine norm_ (a' := ?_) ?_ ?_
                  rotate_left
                  · (show Act.put _ (some 91) _ = _; simp only [Act.put, List.setIfInBounds_toArray, List.set_cons_zero, List.set_cons_succ]; rfl)
                  refine one_ (i := 5) (N := (some 94)) (lb 8 0x3f) rfl rfl (by kernel_rfl) (by decide) (fun K hK => ?_)
                  (refine goesC_ Try.func34 (by kernel_rfl) rfl (by rfl) rfl rfl (allP_c g A1 A2 A3 c1 c2 c3 Aq cq Z _ (HG6.out.below_ hHeld) (Kd.C_below CQ.out hHeld) HZB.out) (by simp [Act.eval]) ?_; rintro e w9 ⟨rfl, hb9⟩; refine ⟨_, rfl, ?_⟩; have HQ9 := Aside0.mk (below_then hHeld hHeld.size hb9); clear hb9; refine hK.out _ _ HQ9.out (fun hHeld => ?_))
                  skip
                  clear hK K
                  refine norm_ (a' := ?_) ?_ ?_
                  rotate_left
                  · (show Act.put _ (some 94) _ = _; simp only [Act.put, List.setIfInBounds_toArray, List.set_cons_zero, List.set_cons_succ]; rfl)
                  refine pure_ (i := 6) (N := (some 14)) (v := ?_) (a' := ?_) (lb 8 0x7f) rfl rfl (by kernel_rfl) (fun _ _ _ h => h) (Or.inl ⟨by rfl, ?_⟩) ?_ ?_
                  rotate_left
                  · (intro w'; go_simp; with_reducible rfl)
                  rotate_left
                  · (simp only [Act.put, List.setIfInBounds_toArray, List.set_cons_zero, List.set_cons_succ]; rfl)
                  refine pure_ (i := 7) (N := (some 15)) (v := ?_) (a' := ?_) (lb 8 0xff) rfl rfl (by kernel_rfl) (fun _ _ _ h => h) (Or.inl ⟨by rfl, ?_⟩) ?_ ?_
                  rotate_left
                  · (intro w'; go_simp; with_reducible rfl)
                  rotate_left
                  · (simp only [Act.put, List.setIfInBounds_toArray, List.set_cons_zero, List.set_cons_succ]; rfl)
                  refine done_ (by kernel_rfl) ?_
                  have HX7 := Aside0.mk hHeld
                  have K7 := Aside0.mk (blk_below K6.out hHeld)
                  have HG7 := Aside0.mk (HG6.out.below_ hHeld)
                  have CP2 := Aside0.mk (Kd.C_below CP.out hHeld)
                  have CQ2 := Aside0.mk (Kd.C_below CQ.out hHeld)
                  clear hHeld
                  rename World => W2
                  go_upto_region 19 with (fail)
                  cases pa
                  · have HPZ2 : Aside0 (allB g (P ++ Z) = false) := ⟨by rw [HPZ.out]; simp⟩
                    have HZP2 : Aside0 (allB g (Z ++ P) = false) := ⟨by rw [HZP.out]; simp⟩
                    refine start_ (n := 35) (S := fun w' => Below W2.heap.size W2 w') (ds := []) (lb 35 0x0) (by kernel_rfl) rfl (by kernel_rfl) (below_drew1 (Below.refl _ _)) (fun hHeld => ?_)
                    refine pure_ (i := 0) (N := (some 95)) (v := ?_) (a' := ?_) (lb 35 0x1) rfl rfl (by kernel_rfl) (fun _ _ _ h => h) (Or.inl ⟨by rfl, ?_⟩) ?_ ?_
                    rotate_left
                    · (intro w'; go_simp; with_reducible rfl)
                    rotate_left
                    · (simp only [Act.put, List.setIfInBounds_toArray, List.set_cons_zero, List.set_cons_succ]; rfl)
                    refine pure_ (i := 1) (N := (some 96)) (v := ?_) (a' := ?_) (lb 35 0x3) rfl rfl (by kernel_rfl) (fun _ _ _ h => h) (Or.inl ⟨by rfl, ?_⟩) ?_ ?_
                    rotate_left
                    · (intro w'; go_simp; with_reducible rfl)
                    rotate_left
                    · (simp only [Act.put, List.setIfInBounds_toArray, List.set_cons_zero, List.set_cons_succ]; rfl)
                    refine pure_ (i := 2) (N := (some 97)) (v := ?_) (a' := ?_) (lb 35 0x7) rfl rfl (by kernel_rfl) (fun _ _ _ h => h) (Or.inl ⟨by rfl, ?_⟩) ?_ ?_
                    rotate_left
                    · (intro w'; go_simp; with_reducible rfl)
                    rotate_left
                    · (simp only [Act.put, List.setIfInBounds_toArray, List.set_cons_zero, List.set_cons_succ]; rfl)
                    refine pure_ (i := 3) (N := (some 98)) (v := ?_) (a' := ?_) (lb 35 0xf) rfl rfl (by kernel_rfl) (fun _ _ _ h => h) (Or.inl ⟨by rfl, ?_⟩) ?_ ?_
                    rotate_left
                    · (intro w'; go_simp; with_reducible rfl)
                    rotate_left
                    · (simp only [Act.put, List.setIfInBounds_toArray, List.set_cons_zero, List.set_cons_succ]; rfl)
                    refine pure_ (i := 6) (N := (some 101)) (v := ?_) (a' := ?_) (lb 35 0x4f) rfl rfl (by kernel_rfl) (fun _ _ _ h => h) (Or.inl ⟨by rfl, ?_⟩) ?_ ?_
                    rotate_left
                    · (intro w'; go_simp; with_reducible rfl)
                    rotate_left
                    · (simp only [Act.put, List.setIfInBounds_toArray, List.set_cons_zero, List.set_cons_succ]; rfl)
                    refine pure_ (i := 8) (N := (some 103)) (v := ?_) (a' := ?_) (lb 35 0x14f) rfl rfl (by kernel_rfl) (fun _ _ _ h => h) (Or.inl ⟨by rfl, ?_⟩) ?_ ?_
                    rotate_left
                    · (intro w'; go_simp; with_reducible rfl)
                    rotate_left
                    · (simp only [Act.put, List.setIfInBounds_toArray, List.set_cons_zero, List.set_cons_succ]; rfl)
                    refine pure_ (i := 11) (N := (some 106)) (v := ?_) (a' := ?_) (lb 35 0x94f) rfl rfl (by kernel_rfl) (fun _ _ _ h => h) (Or.inl ⟨by rfl, ?_⟩) ?_ ?_
                    rotate_left
                    · (intro w'; go_simp; with_reducible rfl)
                    rotate_left
                    · (simp only [Act.put, List.setIfInBounds_toArray, List.set_cons_zero, List.set_cons_succ]; rfl)
                    refine take_ (i := 4) (N := (some 99)) (v := ?_) (a' := ?_) (lb 35 0x95f) rfl rfl (by kernel_rfl) (fun _ _ _ h => h) (Or.inl ⟨by rfl, ?_⟩) hHeld ?_ ?_
                    rotate_left
                    · (rintro w' hS; have d0 := (blk_cell (blk_below K7.out hS) 0).trans rfl; have d1 := (blk_cell (blk_below K7.out hS) 1).trans rfl; have d2 := (blk_cell (blk_below K7.out hS) 2).trans rfl; go_simp; with_reducible rfl)
                    rotate_left
                    · (simp only [Act.put, List.setIfInBounds_toArray, List.set_cons_zero, List.set_cons_succ]; rfl)
                    refine one_ (i := 5) (N := (some 100)) (lb 35 0x97f) rfl rfl (by kernel_rfl) (by decide) (fun K hK => ?_)
                    refine value_ (w1 := ?_) (v := ?_) (by rfl) rfl ?_ ?_
                    rotate_left 2
                    · (go_simp; constructor; rfl; rfl)
                    have hW := hHeld
                    refine hK.out _ _ (hHeld.alloc hHeld.size _) (fun hHeld => ?_)
                    clear hK K
                    refine norm_ (a' := ?_) ?_ ?_
                    rotate_left
                    · (show Act.put _ (some 100) _ = _; simp only [Act.put, List.setIfInBounds_toArray, List.set_cons_zero, List.set_cons_succ]; rfl)
                    refine one_ (i := 7) (N := (some 102)) (lb 35 0x9ff) rfl rfl (by kernel_rfl) (by decide) (fun K hK => ?_)
                    refine app_ints_step (base := W2.heap.size) (w0 := W2) (ok := fun _ => True) (xs := []) (ys := P) (by rfl) rfl (ints_new _ _ hW.size _ trivial) hHeld hHeld.size (by simp; omega) (fun _ _ => trivial) (by rfl) (by rfl) (Kd.C_below CP2.out hHeld) ?_; intro v1 w1 hr hb1 hg hat; rw [List.nil_append] at hr; obtain ⟨A7, c7, rfl⟩ := Kd.R_slice hr; have HR7 := Aside0.mk hr; clear hr hg hat; refine hK.out _ _ hb1 (fun hHeld => ?_)
                    skip
                    clear hK K
                    refine norm_ (a' := ?_) ?_ ?_
                    rotate_left
                    · (show Act.put _ (some 102) _ = _; simp only [Act.put, List.setIfInBounds_toArray, List.set_cons_zero, List.set_cons_succ]; rfl)
                    refine one_ (i := 9) (N := (some 104)) (lb 35 0xbff) rfl rfl (by kernel_rfl) (by decide) (fun K hK => ?_)
                    refine app_ints_step (base := W2.heap.size) (w0 := W2) (ok := fun _ => True) (xs := P) (ys := Z) (by rfl) rfl HR7.out hHeld hHeld.size (by omega) (fun _ _ => trivial) (by rfl) (by rfl) (Kd.C_below CQ2.out hHeld) ?_; intro v1 w1 hr hb1 hg hat; obtain ⟨A9, c9, e9, hc9, hC9⟩ := Kd.R_reads hr; subst e9; have HC9 := Aside0.mk hC9; clear hr hg hat hC9; refine hK.out _ _ hb1 (fun hHeld => ?_)
                    skip
                    clear hK K
                    refine norm_ (a' := ?_) ?_ ?_
                    rotate_left
                    · (show Act.put _ (some 104) _ = _; simp only [Act.put, List.setIfInBounds_toArray, List.set_cons_zero, List.set_cons_succ]; rfl)
                    refine one_ (i := 10) (N := (some 105)) (lb 35 0xfff) rfl rfl (by kernel_rfl) (by decide) (fun K hK => ?_)
                    (refine goesC_ Try.func34 (by kernel_rfl) rfl (by rfl) rfl rfl (allP_c g A1 A2 A3 c1 c2 c3 A9 c9 (P ++ Z) _ (HG7.out.below_ hHeld) HC9.out HPZ2.out) (by simp [Act.eval]) ?_; rintro e w9 ⟨rfl, hb9⟩; refine ⟨_, rfl, ?_⟩; have HQ9 := Aside0.mk (below_then hHeld hHeld.size hb9); clear hb9; refine hK.out _ _ HQ9.out (fun hHeld => ?_))
                    skip
                    clear hK K
                    refine norm_ (a' := ?_) ?_ ?_
                    rotate_left
                    · (show Act.put _ (some 105) _ = _; simp only [Act.put, List.setIfInBounds_toArray, List.set_cons_zero, List.set_cons_succ]; rfl)
                    refine pure_ (i := 12) (N := (some 107)) (v := ?_) (a' := ?_) (lb 35 0x1fff) rfl rfl (by kernel_rfl) (fun _ _ _ h => h) (Or.inl ⟨by rfl, ?_⟩) ?_ ?_
                    rotate_left
                    · (intro w'; go_simp; with_reducible rfl)
                    rotate_left
                    · (simp only [Act.put, List.setIfInBounds_toArray, List.set_cons_zero, List.set_cons_succ]; rfl)
                    refine pure_ (i := 13) (N := (some 108)) (v := undef) (a' := ?_) (lb 35 0x3fff) rfl rfl (by kernel_rfl) (fun _ _ _ h => h) (Or.inr ⟨by rfl, rfl⟩) ?_ ?_
                    rotate_left
                    · (simp only [Act.put, List.setIfInBounds_toArray, List.set_cons_zero, List.set_cons_succ]; rfl)
                    refine pure_ (i := 14) (N := (some 109)) (v := ?_) (a' := ?_) (lb 35 0x7fff) rfl rfl (by kernel_rfl) (fun _ _ _ h => h) (Or.inl ⟨by rfl, ?_⟩) ?_ ?_
                    rotate_left
                    · (intro w'; go_simp; with_reducible rfl)
                    rotate_left
                    · (simp only [Act.put, List.setIfInBounds_toArray, List.set_cons_zero, List.set_cons_succ]; rfl)
                    refine pure_ (i := 15) (N := (some 110)) (v := ?_) (a' := ?_) (lb 35 0xffff) rfl rfl (by kernel_rfl) (fun _ _ _ h => h) (Or.inl ⟨by rfl, ?_⟩) ?_ ?_
                    rotate_left
                    · (intro w'; go_simp; with_reducible rfl)
                    rotate_left
                    · (simp only [Act.put, List.setIfInBounds_toArray, List.set_cons_zero, List.set_cons_succ]; rfl)
                    refine pure_ (i := 16) (N := (some 111)) (v := ?_) (a' := ?_) (lb 35 0x1ffff) rfl rfl (by kernel_rfl) (fun _ _ _ h => h) (Or.inl ⟨by rfl, ?_⟩) ?_ ?_
                    rotate_left
                    · (intro w'; go_simp; with_reducible rfl)
                    rotate_left
                    · (simp only [Act.put, List.setIfInBounds_toArray, List.set_cons_zero, List.set_cons_succ]; rfl)
                    refine pure_ (i := 17) (N := (some 112)) (v := ?_) (a' := ?_) (lb 35 0x3ffff) rfl rfl (by kernel_rfl) (fun _ _ _ h => h) (Or.inl ⟨by rfl, ?_⟩) ?_ ?_
                    rotate_left
                    · (intro w'; go_simp; with_reducible rfl)
                    rotate_left
                    · (simp only [Act.put, List.setIfInBounds_toArray, List.set_cons_zero, List.set_cons_succ]; rfl)
                    refine pure_ (i := 20) (N := (some 115)) (v := ?_) (a' := ?_) (lb 35 0x13ffff) rfl rfl (by kernel_rfl) (fun _ _ _ h => h) (Or.inl ⟨by rfl, ?_⟩) ?_ ?_
                    rotate_left
                    · (intro w'; go_simp; with_reducible rfl)
                    rotate_left
                    · (simp only [Act.put, List.setIfInBounds_toArray, List.set_cons_zero, List.set_cons_succ]; rfl)
                    refine pure_ (i := 22) (N := (some 117)) (v := ?_) (a' := ?_) (lb 35 0x53ffff) rfl rfl (by kernel_rfl) (fun _ _ _ h => h) (Or.inl ⟨by rfl, ?_⟩) ?_ ?_
                    rotate_left
                    · (intro w'; go_simp; with_reducible rfl)
                    rotate_left
                    · (simp only [Act.put, List.setIfInBounds_toArray, List.set_cons_zero, List.set_cons_succ]; rfl)
                    refine pure_ (i := 25) (N := (some 120)) (v := ?_) (a' := ?_) (lb 35 0x253ffff) rfl rfl (by kernel_rfl) (fun _ _ _ h => h) (Or.inl ⟨by rfl, ?_⟩) ?_ ?_
                    rotate_left
                    · (intro w'; go_simp; with_reducible rfl)
                    rotate_left
                    · (simp only [Act.put, List.setIfInBounds_toArray, List.set_cons_zero, List.set_cons_succ]; rfl)
                    refine take_ (i := 18) (N := (some 113)) (v := ?_) (a' := ?_) (lb 35 0x257ffff) rfl rfl (by kernel_rfl) (fun _ _ _ h => h) (Or.inl ⟨by rfl, ?_⟩) hHeld ?_ ?_
                    rotate_left
                    · (rintro w' hS; have d0 := (blk_cell (blk_below K7.out hS) 0).trans rfl; have d1 := (blk_cell (blk_below K7.out hS) 1).trans rfl; have d2 := (blk_cell (blk_below K7.out hS) 2).trans rfl; go_simp; with_reducible rfl)
                    rotate_left
                    · (simp only [Act.put, List.setIfInBounds_toArray, List.set_cons_zero, List.set_cons_succ]; rfl)
                    refine one_ (i := 19) (N := (some 114)) (lb 35 0x25fffff) rfl rfl (by kernel_rfl) (by decide) (fun K hK => ?_)
                    refine value_ (w1 := ?_) (v := ?_) (by rfl) rfl ?_ ?_
                    rotate_left 2
                    · (go_simp; constructor; rfl; rfl)
                    have hW := hHeld
                    refine hK.out _ _ (hHeld.alloc hHeld.size _) (fun hHeld => ?_)
                    clear hK K
                    refine norm_ (a' := ?_) ?_ ?_
                    rotate_left
                    · (show Act.put _ (some 114) _ = _; simp only [Act.put, List.setIfInBounds_toArray, List.set_cons_zero, List.set_cons_succ]; rfl)
                    refine one_ (i := 21) (N := (some 116)) (lb 35 0x27fffff) rfl rfl (by kernel_rfl) (by decide) (fun K hK => ?_)
                    refine app_ints_step (base := W2.heap.size) (w0 := W2) (ok := fun _ => True) (xs := []) (ys := Z) (by rfl) rfl (ints_new _ _ hW.size _ trivial) hHeld hHeld.size (by simp; omega) (fun _ _ => trivial) (by rfl) (by rfl) (Kd.C_below CQ2.out hHeld) ?_; intro v1 w1 hr hb1 hg hat; rw [List.nil_append] at hr; obtain ⟨A7, c7, rfl⟩ := Kd.R_slice hr; have HR7 := Aside0.mk hr; clear hr hg hat; refine hK.out _ _ hb1 (fun hHeld => ?_)
                    skip
                    clear hK K
                    refine norm_ (a' := ?_) ?_ ?_
                    rotate_left
                    · (show Act.put _ (some 116) _ = _; simp only [Act.put, List.setIfInBounds_toArray, List.set_cons_zero, List.set_cons_succ]; rfl)
                    refine one_ (i := 23) (N := (some 118)) (lb 35 0x2ffffff) rfl rfl (by kernel_rfl) (by decide) (fun K hK => ?_)
                    refine app_ints_step (base := W2.heap.size) (w0 := W2) (ok := fun _ => True) (xs := Z) (ys := P) (by rfl) rfl HR7.out hHeld hHeld.size (by omega) (fun _ _ => trivial) (by rfl) (by rfl) (Kd.C_below CP2.out hHeld) ?_; intro v1 w1 hr hb1 hg hat; obtain ⟨A9, c9, e9, hc9, hC9⟩ := Kd.R_reads hr; subst e9; have HC9 := Aside0.mk hC9; clear hr hg hat hC9; refine hK.out _ _ hb1 (fun hHeld => ?_)
                    skip
                    clear hK K
                    refine norm_ (a' := ?_) ?_ ?_
                    rotate_left
                    · (show Act.put _ (some 118) _ = _; simp only [Act.put, List.setIfInBounds_toArray, List.set_cons_zero, List.set_cons_succ]; rfl)
                    refine one_ (i := 24) (N := (some 119)) (lb 35 0x3ffffff) rfl rfl (by kernel_rfl) (by decide) (fun K hK => ?_)
                    (refine goesC_ Try.func34 (by kernel_rfl) rfl (by rfl) rfl rfl (allP_c g A1 A2 A3 c1 c2 c3 A9 c9 (Z ++ P) _ (HG7.out.below_ hHeld) HC9.out HZP2.out) (by simp [Act.eval]) ?_; rintro e w9 ⟨rfl, hb9⟩; refine ⟨_, rfl, ?_⟩; have HQ9 := Aside0.mk (below_then hHeld hHeld.size hb9); clear hb9; refine hK.out _ _ HQ9.out (fun hHeld => ?_))
                    skip
                    clear hK K
                    refine norm_ (a' := ?_) ?_ ?_
                    rotate_left
                    · (show Act.put _ (some 119) _ = _; simp only [Act.put, List.setIfInBounds_toArray, List.set_cons_zero, List.set_cons_succ]; rfl)
                    refine pure_ (i := 26) (N := (some 121)) (v := ?_) (a' := ?_) (lb 35 0x7ffffff) rfl rfl (by kernel_rfl) (fun _ _ _ h => h) (Or.inl ⟨by rfl, ?_⟩) ?_ ?_
                    rotate_left
                    · (intro w'; go_simp; with_reducible rfl)
                    rotate_left
                    · (simp only [Act.put, List.setIfInBounds_toArray, List.set_cons_zero, List.set_cons_succ]; rfl)
                    refine pure_ (i := 27) (N := (some 122)) (v := undef) (a' := ?_) (lb 35 0xfffffff) rfl rfl (by kernel_rfl) (fun _ _ _ h => h) (Or.inr ⟨by rfl, rfl⟩) ?_ ?_
                    rotate_left
                    · (simp only [Act.put, List.setIfInBounds_toArray, List.set_cons_zero, List.set_cons_succ]; rfl)
                    refine pure_ (i := 28) (N := (some 123)) (v := ?_) (a' := ?_) (lb 35 0x1fffffff) rfl rfl (by kernel_rfl) (fun _ _ _ h => h) (Or.inl ⟨by rfl, ?_⟩) ?_ ?_
                    rotate_left
                    · (intro w'; go_simp; with_reducible rfl)
                    rotate_left
                    · (simp only [Act.put, List.setIfInBounds_toArray, List.set_cons_zero, List.set_cons_succ]; rfl)
                    refine pure_ (i := 29) (N := (some 124)) (v := ?_) (a' := ?_) (lb 35 0x3fffffff) rfl rfl (by kernel_rfl) (fun _ _ _ h => h) (Or.inl ⟨by rfl, ?_⟩) ?_ ?_
                    rotate_left
                    · (intro w'; go_simp; with_reducible rfl)
                    rotate_left
                    · (simp only [Act.put, List.setIfInBounds_toArray, List.set_cons_zero, List.set_cons_succ]; rfl)
                    refine pure_ (i := 30) (N := (some 125)) (v := ?_) (a' := ?_) (lb 35 0x7fffffff) rfl rfl (by kernel_rfl) (fun _ _ _ h => h) (Or.inl ⟨by rfl, ?_⟩) ?_ ?_
                    rotate_left
                    · (intro w'; go_simp; with_reducible rfl)
                    rotate_left
                    · (simp only [Act.put, List.setIfInBounds_toArray, List.set_cons_zero, List.set_cons_succ]; rfl)
                    refine pure_ (i := 31) (N := (some 126)) (v := ?_) (a' := ?_) (lb 35 0xffffffff) rfl rfl (by kernel_rfl) (fun _ _ _ h => h) (Or.inl ⟨by rfl, ?_⟩) ?_ ?_
                    rotate_left
                    · (intro w'; go_simp; with_reducible rfl)
                    rotate_left
                    · (simp only [Act.put, List.setIfInBounds_toArray, List.set_cons_zero, List.set_cons_succ]; rfl)
                    refine one_ (i := 32) (N := (some 127)) (lb 35 0x1ffffffff) rfl rfl (by kernel_rfl) (by decide) (fun K hK => ?_)
                    (refine goesC_ Try.func28 (by kernel_rfl) rfl (by rfl) rfl rfl (wakes06_c _) (by simp [Act.eval]) ?_; rintro e w9 ⟨rfl, hb9⟩; refine ⟨_, rfl, ?_⟩; have HQ9 := Aside0.mk (below_then hHeld hHeld.size hb9); clear hb9; refine hK.out _ _ HQ9.out (fun hHeld => ?_))
                    skip
                    clear hK K
                    refine norm_ (a' := ?_) ?_ ?_
                    rotate_left
                    · (show Act.put _ (some 127) _ = _; simp only [Act.put, List.setIfInBounds_toArray, List.set_cons_zero, List.set_cons_succ]; rfl)
                    refine pure_ (i := 33) (N := (some 128)) (v := ?_) (a' := ?_) (lb 35 0x3ffffffff) rfl rfl (by kernel_rfl) (fun _ _ _ h => h) (Or.inl ⟨by rfl, ?_⟩) ?_ ?_
                    rotate_left
                    · (intro w'; go_simp; with_reducible rfl)
                    rotate_left
                    · (simp only [Act.put, List.setIfInBounds_toArray, List.set_cons_zero, List.set_cons_succ]; rfl)
                    refine pure_ (i := 34) (N := (some 6)) (v := ?_) (a' := ?_) (lb 35 0x7ffffffff) rfl rfl (by kernel_rfl) (fun _ _ _ h => h) (Or.inl ⟨by rfl, ?_⟩) ?_ ?_
                    rotate_left
                    · (intro w'; go_simp; with_reducible rfl)
                    rotate_left
                    · (simp only [Act.put, List.setIfInBounds_toArray, List.set_cons_zero, List.set_cons_succ]; rfl)
                    refine done_ (by kernel_rfl) ?_
                    go_wp2
                    go_ret
                    exact ⟨ret_bool rfl, below_then HV.out HV.out.size (below_then HX7.out HX7.out.size hHeld)⟩
                  · have HPZ2 : Aside0 (allB g (P ++ Z) = zb) := ⟨by rw [HPZ.out]; simp⟩
                    have HZP2 : Aside0 (allB g (Z ++ P) = zb) := ⟨by rw [HZP.out]; simp⟩
                    refine start_ (n := 35) (S := fun w' => Below W2.heap.size W2 w') (ds := []) (lb 35 0x0) (by kernel_rfl) rfl (by kernel_rfl) (below_drew1 (Below.refl _ _)) (fun hHeld => ?_)
                    refine pure_ (i := 0) (N := (some 95)) (v := ?_) (a' := ?_) (lb 35 0x1) rfl rfl (by kernel_rfl) (fun _ _ _ h => h) (Or.inl ⟨by rfl, ?_⟩) ?_ ?_
                    rotate_left
                    · (intro w'; go_simp; with_reducible rfl)
                    rotate_left
                    · (simp only [Act.put, List.setIfInBounds_toArray, List.set_cons_zero, List.set_cons_succ]; rfl)
                    refine pure_ (i := 1) (N := (some 96)) (v := ?_) (a' := ?_) (lb 35 0x3) rfl rfl (by kernel_rfl) (fun _ _ _ h => h) (Or.inl ⟨by rfl, ?_⟩) ?_ ?_
                    rotate_left
                    · (intro w'; go_simp; with_reducible rfl)
                    rotate_left
                    · (simp only [Act.put, List.setIfInBounds_toArray, List.set_cons_zero, List.set_cons_succ]; rfl)
                    refine pure_ (i := 2) (N := (some 97)) (v := ?_) (a' := ?_) (lb 35 0x7) rfl rfl (by kernel_rfl) (fun _ _ _ h => h) (Or.inl ⟨by rfl, ?_⟩) ?_ ?_
                    rotate_left
                    · (intro w'; go_simp; with_reducible rfl)
                    rotate_left
                    · (simp only [Act.put, List.setIfInBounds_toArray, List.set_cons_zero, List.set_cons_succ]; rfl)
                    refine pure_ (i := 3) (N := (some 98)) (v := ?_) (a' := ?_) (lb 35 0xf) rfl rfl (by kernel_rfl) (fun _ _ _ h => h) (Or.inl ⟨by rfl, ?_⟩) ?_ ?_
                    rotate_left
                    · (intro w'; go_simp; with_reducible rfl)
                    rotate_left
                    · (simp only [Act.put, List.setIfInBounds_toArray, List.set_cons_zero, List.set_cons_succ]; rfl)
                    refine pure_ (i := 6) (N := (some 101)) (v := ?_) (a' := ?_) (lb 35 0x4f) rfl rfl (by kernel_rfl) (fun _ _ _ h => h) (Or.inl ⟨by rfl, ?_⟩) ?_ ?_
                    rotate_left
                    · (intro w'; go_simp; with_reducible rfl)
                    rotate_left
                    · (simp only [Act.put, List.setIfInBounds_toArray, List.set_cons_zero, List.set_cons_succ]; rfl)
                    refine pure_ (i := 8) (N := (some 103)) (v := ?_) (a' := ?_) (lb 35 0x14f) rfl rfl (by kernel_rfl) (fun _ _ _ h => h) (Or.inl ⟨by rfl, ?_⟩) ?_ ?_
                    rotate_left
                    · (intro w'; go_simp; with_reducible rfl)
                    rotate_left
                    · (simp only [Act.put, List.setIfInBounds_toArray, List.set_cons_zero, List.set_cons_succ]; rfl)
                    refine pure_ (i := 11) (N := (some 106)) (v := ?_) (a' := ?_) (lb 35 0x94f) rfl rfl (by kernel_rfl) (fun _ _ _ h => h) (Or.inl ⟨by rfl, ?_⟩) ?_ ?_
                    rotate_left
                    · (intro w'; go_simp; with_reducible rfl)
                    rotate_left
                    · (simp only [Act.put, List.setIfInBounds_toArray, List.set_cons_zero, List.set_cons_succ]; rfl)
                    refine take_ (i := 4) (N := (some 99)) (v := ?_) (a' := ?_) (lb 35 0x95f) rfl rfl (by kernel_rfl) (fun _ _ _ h => h) (Or.inl ⟨by rfl, ?_⟩) hHeld ?_ ?_
                    rotate_left
                    · (rintro w' hS; have d0 := (blk_cell (blk_below K7.out hS) 0).trans rfl; have d1 := (blk_cell (blk_below K7.out hS) 1).trans rfl; have d2 := (blk_cell (blk_below K7.out hS) 2).trans rfl; go_simp; with_reducible rfl)
                    rotate_left
                    · (simp only [Act.put, List.setIfInBounds_toArray, List.set_cons_zero, List.set_cons_succ]; rfl)
                    refine one_ (i := 5) (N := (some 100)) (lb 35 0x97f) rfl rfl (by kernel_rfl) (by decide) (fun K hK => ?_)
                    refine value_ (w1 := ?_) (v := ?_) (by rfl) rfl ?_ ?_
                    rotate_left 2
                    · (go_simp; constructor; rfl; rfl)
                    have hW := hHeld
                    refine hK.out _ _ (hHeld.alloc hHeld.size _) (fun hHeld => ?_)
                    clear hK K
                    refine norm_ (a' := ?_) ?_ ?_
                    rotate_left
                    · (show Act.put _ (some 100) _ = _; simp only [Act.put, List.setIfInBounds_toArray, List.set_cons_zero, List.set_cons_succ]; rfl)
                    refine one_ (i := 7) (N := (some 102)) (lb 35 0x9ff) rfl rfl (by kernel_rfl) (by decide) (fun K hK => ?_)
                    refine app_ints_step (base := W2.heap.size) (w0 := W2) (ok := fun _ => True) (xs := []) (ys := P) (by rfl) rfl (ints_new _ _ hW.size _ trivial) hHeld hHeld.size (by simp; omega) (fun _ _ => trivial) (by rfl) (by rfl) (Kd.C_below CP2.out hHeld) ?_; intro v1 w1 hr hb1 hg hat; rw [List.nil_append] at hr; obtain ⟨A7, c7, rfl⟩ := Kd.R_slice hr; have HR7 := Aside0.mk hr; clear hr hg hat; refine hK.out _ _ hb1 (fun hHeld => ?_)
                    skip
                    clear hK K
                    refine norm_ (a' := ?_) ?_ ?_
                    rotate_left
                    · (show Act.put _ (some 102) _ = _; simp only [Act.put, List.setIfInBounds_toArray, List.set_cons_zero, List.set_cons_succ]; rfl)
                    refine one_ (i := 9) (N := (some 104)) (lb 35 0xbff) rfl rfl (by kernel_rfl) (by decide) (fun K hK => ?_)
                    refine app_ints_step (base := W2.heap.size) (w0 := W2) (ok := fun _ => True) (xs := P) (ys := Z) (by rfl) rfl HR7.out hHeld hHeld.size (by omega) (fun _ _ => trivial) (by rfl) (by rfl) (Kd.C_below CQ2.out hHeld) ?_; intro v1 w1 hr hb1 hg hat; obtain ⟨A9, c9, e9, hc9, hC9⟩ := Kd.R_reads hr; subst e9; have HC9 := Aside0.mk hC9; clear hr hg hat hC9; refine hK.out _ _ hb1 (fun hHeld => ?_)
                    skip
                    clear hK K
                    refine norm_ (a' := ?_) ?_ ?_
                    rotate_left
                    · (show Act.put _ (some 104) _ = _; simp only [Act.put, List.setIfInBounds_toArray, List.set_cons_zero, List.set_cons_succ]; rfl)
                    refine one_ (i := 10) (N := (some 105)) (lb 35 0xfff) rfl rfl (by kernel_rfl) (by decide) (fun K hK => ?_)
                    (refine goesC_ Try.func34 (by kernel_rfl) rfl (by rfl) rfl rfl (allP_c g A1 A2 A3 c1 c2 c3 A9 c9 (P ++ Z) _ (HG7.out.below_ hHeld) HC9.out HPZ2.out) (by simp [Act.eval]) ?_; rintro e w9 ⟨rfl, hb9⟩; refine ⟨_, rfl, ?_⟩; have HQ9 := Aside0.mk (below_then hHeld hHeld.size hb9); clear hb9; refine hK.out _ _ HQ9.out (fun hHeld => ?_))
                    skip
                    clear hK K
                    refine norm_ (a' := ?_) ?_ ?_
                    rotate_left
                    · (show Act.put _ (some 105) _ = _; simp only [Act.put, List.setIfInBounds_toArray, List.set_cons_zero, List.set_cons_succ]; rfl)
                    refine pure_ (i := 12) (N := (some 107)) (v := ?_) (a' := ?_) (lb 35 0x1fff) rfl rfl (by kernel_rfl) (fun _ _ _ h => h) (Or.inl ⟨by rfl, ?_⟩) ?_ ?_
                    rotate_left
                    · (intro w'; go_simp; with_reducible rfl)
                    rotate_left
                    · (simp only [Act.put, List.setIfInBounds_toArray, List.set_cons_zero, List.set_cons_succ]; rfl)
                    refine pure_ (i := 13) (N := (some 108)) (v := ?_) (a' := ?_) (lb 35 0x3fff) rfl rfl (by kernel_rfl) (fun _ _ _ h => h) (Or.inl ⟨by rfl, ?_⟩) ?_ ?_
                    rotate_left
                    · (intro w'; go_simp; with_reducible rfl)
                    rotate_left
                    · (simp only [Act.put, List.setIfInBounds_toArray, List.set_cons_zero, List.set_cons_succ]; rfl)
                    refine pure_ (i := 14) (N := (some 109)) (v := ?_) (a' := ?_) (lb 35 0x7fff) rfl rfl (by kernel_rfl) (fun _ _ _ h => h) (Or.inl ⟨by rfl, ?_⟩) ?_ ?_
                    rotate_left
                    · (intro w'; go_simp; with_reducible rfl)
                    rotate_left
                    · (simp only [Act.put, List.setIfInBounds_toArray, List.set_cons_zero, List.set_cons_succ]; rfl)
                    refine pure_ (i := 15) (N := (some 110)) (v := ?_) (a' := ?_) (lb 35 0xffff) rfl rfl (by kernel_rfl) (fun _ _ _ h => h) (Or.inl ⟨by rfl, ?_⟩) ?_ ?_
                    rotate_left
                    · (intro w'; go_simp; with_reducible rfl)
                    rotate_left
                    · (simp only [Act.put, List.setIfInBounds_toArray, List.set_cons_zero, List.set_cons_succ]; rfl)
                    refine pure_ (i := 16) (N := (some 111)) (v := ?_) (a' := ?_) (lb 35 0x1ffff) rfl rfl (by kernel_rfl) (fun _ _ _ h => h) (Or.inl ⟨by rfl, ?_⟩) ?_ ?_
                    rotate_left
                    · (intro w'; go_simp; with_reducible rfl)
                    rotate_left
                    · (simp only [Act.put, List.setIfInBounds_toArray, List.set_cons_zero, List.set_cons_succ]; rfl)
                    refine pure_ (i := 17) (N := (some 112)) (v := ?_) (a' := ?_) (lb 35 0x3ffff) rfl rfl (by kernel_rfl) (fun _ _ _ h => h) (Or.inl ⟨by rfl, ?_⟩) ?_ ?_
                    rotate_left
                    · (intro w'; go_simp; with_reducible rfl)
                    rotate_left
                    · (simp only [Act.put, List.setIfInBounds_toArray, List.set_cons_zero, List.set_cons_succ]; rfl)
                    refine pure_ (i := 20) (N := (some 115)) (v := ?_) (a' := ?_) (lb 35 0x13ffff) rfl rfl (by kernel_rfl) (fun _ _ _ h => h) (Or.inl ⟨by rfl, ?_⟩) ?_ ?_
                    rotate_left
                    · (intro w'; go_simp; with_reducible rfl)
                    rotate_left
                    · (simp only [Act.put, List.setIfInBounds_toArray, List.set_cons_zero, List.set_cons_succ]; rfl)
                    refine pure_ (i := 22) (N := (some 117)) (v := ?_) (a' := ?_) (lb 35 0x53ffff) rfl rfl (by kernel_rfl) (fun _ _ _ h => h) (Or.inl ⟨by rfl, ?_⟩) ?_ ?_
                    rotate_left
                    · (intro w'; go_simp; with_reducible rfl)
                    rotate_left
                    · (simp only [Act.put, List.setIfInBounds_toArray, List.set_cons_zero, List.set_cons_succ]; rfl)
                    refine pure_ (i := 25) (N := (some 120)) (v := ?_) (a' := ?_) (lb 35 0x253ffff) rfl rfl (by kernel_rfl) (fun _ _ _ h => h) (Or.inl ⟨by rfl, ?_⟩) ?_ ?_
                    rotate_left
                    · (intro w'; go_simp; with_reducible rfl)
                    rotate_left
                    · (simp only [Act.put, List.setIfInBounds_toArray, List.set_cons_zero, List.set_cons_succ]; rfl)
                    refine take_ (i := 18) (N := (some 113)) (v := ?_) (a' := ?_) (lb 35 0x257ffff) rfl rfl (by kernel_rfl) (fun _ _ _ h => h) (Or.inl ⟨by rfl, ?_⟩) hHeld ?_ ?_
                    rotate_left
                    · (rintro w' hS; have d0 := (blk_cell (blk_below K7.out hS) 0).trans rfl; have d1 := (blk_cell (blk_below K7.out hS) 1).trans rfl; have d2 := (blk_cell (blk_below K7.out hS) 2).trans rfl; go_simp; with_reducible rfl)
                    rotate_left
                    · (simp only [Act.put, List.setIfInBounds_toArray, List.set_cons_zero, List.set_cons_succ]; rfl)
                    refine one_ (i := 19) (N := (some 114)) (lb 35 0x25fffff) rfl rfl (by kernel_rfl) (by decide) (fun K hK => ?_)
                    refine value_ (w1 := ?_) (v := ?_) (by rfl) rfl ?_ ?_
                    rotate_left 2
                    · (go_simp; constructor; rfl; rfl)
                    have hW := hHeld
                    refine hK.out _ _ (hHeld.alloc hHeld.size _) (fun hHeld => ?_)
                    clear hK K
                    refine norm_ (a' := ?_) ?_ ?_
                    rotate_left
                    · (show Act.put _ (some 114) _ = _; simp only [Act.put, List.setIfInBounds_toArray, List.set_cons_zero, List.set_cons_succ]; rfl)
                    refine one_ (i := 21) (N := (some 116)) (lb 35 0x27fffff) rfl rfl (by kernel_rfl) (by decide) (fun K hK => ?_)
                    refine app_ints_step (base := W2.heap.size) (w0 := W2) (ok := fun _ => True) (xs := []) (ys := Z) (by rfl) rfl (ints_new _ _ hW.size _ trivial) hHeld hHeld.size (by simp; omega) (fun _ _ => trivial) (by rfl) (by rfl) (Kd.C_below CQ2.out hHeld) ?_; intro v1 w1 hr hb1 hg hat; rw [List.nil_append] at hr; obtain ⟨A7, c7, rfl⟩ := Kd.R_slice hr; have HR7 := Aside0.mk hr; clear hr hg hat; refine hK.out _ _ hb1 (fun hHeld => ?_)
                    skip
                    clear hK K
                    refine norm_ (a' := ?_) ?_ ?_
                    rotate_left
                    · (show Act.put _ (some 116) _ = _; simp only [Act.put, List.setIfInBounds_toArray, List.set_cons_zero, List.set_cons_succ]; rfl)
                    refine one_ (i := 23) (N := (some 118)) (lb 35 0x2ffffff) rfl rfl (by kernel_rfl) (by decide) (fun K hK => ?_)
                    refine app_ints_step (base := W2.heap.size) (w0 := W2) (ok := fun _ => True) (xs := Z) (ys := P) (by rfl) rfl HR7.out hHeld hHeld.size (by omega) (fun _ _ => trivial) (by rfl) (by rfl) (Kd.C_below CP2.out hHeld) ?_; intro v1 w1 hr hb1 hg hat; obtain ⟨A9, c9, e9, hc9, hC9⟩ := Kd.R_reads hr; subst e9; have HC9 := Aside0.mk hC9; clear hr hg hat hC9; refine hK.out _ _ hb1 (fun hHeld => ?_)
                    skip
                    clear hK K
                    refine norm_ (a' := ?_) ?_ ?_
                    rotate_left
                    · (show Act.put _ (some 118) _ = _; simp only [Act.put, List.setIfInBounds_toArray, List.set_cons_zero, List.set_cons_succ]; rfl)
                    refine one_ (i := 24) (N := (some 119)) (lb 35 0x3ffffff) rfl rfl (by kernel_rfl) (by decide) (fun K hK => ?_)
                    (refine goesC_ Try.func34 (by kernel_rfl) rfl (by rfl) rfl rfl (allP_c g A1 A2 A3 c1 c2 c3 A9 c9 (Z ++ P) _ (HG7.out.below_ hHeld) HC9.out HZP2.out) (by simp [Act.eval]) ?_; rintro e w9 ⟨rfl, hb9⟩; refine ⟨_, rfl, ?_⟩; have HQ9 := Aside0.mk (below_then hHeld hHeld.size hb9); clear hb9; refine hK.out _ _ HQ9.out (fun hHeld => ?_))
                    skip
                    clear hK K
                    refine norm_ (a' := ?_) ?_ ?_
                    rotate_left
                    · (show Act.put _ (some 119) _ = _; simp only [Act.put, List.setIfInBounds_toArray, List.set_cons_zero, List.set_cons_succ]; rfl)
                    refine pure_ (i := 26) (N := (some 121)) (v := ?_) (a' := ?_) (lb 35 0x7ffffff) rfl rfl (by kernel_rfl) (fun _ _ _ h => h) (Or.inl ⟨by rfl, ?_⟩) ?_ ?_
                    rotate_left
                    · (intro w'; go_simp; with_reducible rfl)
                    rotate_left
                    · (simp only [Act.put, List.setIfInBounds_toArray, List.set_cons_zero, List.set_cons_succ]; rfl)
                    refine pure_ (i := 27) (N := (some 122)) (v := ?_) (a' := ?_) (lb 35 0xfffffff) rfl rfl (by kernel_rfl) (fun _ _ _ h => h) (Or.inl ⟨by rfl, ?_⟩) ?_ ?_
                    rotate_left
                    · (intro w'; go_simp; with_reducible rfl)
                    rotate_left
                    · (simp only [Act.put, List.setIfInBounds_toArray, List.set_cons_zero, List.set_cons_succ]; rfl)
                    refine pure_ (i := 28) (N := (some 123)) (v := ?_) (a' := ?_) (lb 35 0x1fffffff) rfl rfl (by kernel_rfl) (fun _ _ _ h => h) (Or.inl ⟨by rfl, ?_⟩) ?_ ?_
                    rotate_left
                    · (intro w'; go_simp; with_reducible rfl)
                    rotate_left
                    · (simp only [Act.put, List.setIfInBounds_toArray, List.set_cons_zero, List.set_cons_succ]; rfl)
                    refine pure_ (i := 29) (N := (some 124)) (v := ?_) (a' := ?_) (lb 35 0x3fffffff) rfl rfl (by kernel_rfl) (fun _ _ _ h => h) (Or.inl ⟨by rfl, ?_⟩) ?_ ?_
                    rotate_left
                    · (intro w'; go_simp; with_reducible rfl)
                    rotate_left
                    · (simp only [Act.put, List.setIfInBounds_toArray, List.set_cons_zero, List.set_cons_succ]; rfl)
                    refine pure_ (i := 30) (N := (some 125)) (v := ?_) (a' := ?_) (lb 35 0x7fffffff) rfl rfl (by kernel_rfl) (fun _ _ _ h => h) (Or.inl ⟨by rfl, ?_⟩) ?_ ?_
                    rotate_left
                    · (intro w'; go_simp; with_reducible rfl)
                    rotate_left
                    · (simp only [Act.put, List.setIfInBounds_toArray, List.set_cons_zero, List.set_cons_succ]; rfl)
                    refine pure_ (i := 31) (N := (some 126)) (v := ?_) (a' := ?_) (lb 35 0xffffffff) rfl rfl (by kernel_rfl) (fun _ _ _ h => h) (Or.inl ⟨by rfl, ?_⟩) ?_ ?_
                    rotate_left
                    · (intro w'; go_simp; with_reducible rfl)
                    rotate_left
                    · (simp only [Act.put, List.setIfInBounds_toArray, List.set_cons_zero, List.set_cons_succ]; rfl)
                    refine one_ (i := 32) (N := (some 127)) (lb 35 0x1ffffffff) rfl rfl (by kernel_rfl) (by decide) (fun K hK => ?_)
                    (refine goesC_ Try.func28 (by kernel_rfl) rfl (by rfl) rfl rfl (wakes06_c _) (by simp [Act.eval]) ?_; rintro e w9 ⟨rfl, hb9⟩; refine ⟨_, rfl, ?_⟩; have HQ9 := Aside0.mk (below_then hHeld hHeld.size hb9); clear hb9; refine hK.out _ _ HQ9.out (fun hHeld => ?_))
                    skip
                    clear hK K
                    refine norm_ (a' := ?_) ?_ ?_
                    rotate_left
                    · (show Act.put _ (some 127) _ = _; simp only [Act.put, List.setIfInBounds_toArray, List.set_cons_zero, List.set_cons_succ]; rfl)
                    refine pure_ (i := 33) (N := (some 128)) (v := ?_) (a' := ?_) (lb 35 0x3ffffffff) rfl rfl (by kernel_rfl) (fun _ _ _ h => h) (Or.inl ⟨by rfl, ?_⟩) ?_ ?_
                    rotate_left
                    · (intro w'; go_simp; with_reducible rfl)
                    rotate_left
                    · (simp only [Act.put, List.setIfInBounds_toArray, List.set_cons_zero, List.set_cons_succ]; rfl)
                    refine pure_ (i := 34) (N := (some 6)) (v := ?_) (a' := ?_) (lb 35 0x7ffffffff) rfl rfl (by kernel_rfl) (fun _ _ _ h => h) (Or.inl ⟨by rfl, ?_⟩) ?_ ?_
                    rotate_left
                    · (intro w'; go_simp; with_reducible rfl)
                    rotate_left
                    · (simp only [Act.put, List.setIfInBounds_toArray, List.set_cons_zero, List.set_cons_succ]; rfl)
                    refine done_ (by kernel_rfl) ?_
                    go_wp2
                    go_ret
                    exact ⟨ret_bool rfl, below_then HV.out HV.out.size (below_then HX7.out HX7.out.size hHeld)⟩
  · refine pl_pure (N := (some 18)) (v := ?v7) (by rfl) rfl ?h7 ?_
    case h7 => (go_simp; rfl)
    simp only [Act.put, List.setIfInBounds_toArray, List.set_cons_zero, List.set_cons_succ]
    refine pl_off (N := (some 19)) (by rfl) rfl ?_
    simp only [Act.put, List.setIfInBounds_toArray, List.set_cons_zero, List.set_cons_succ]
    refine pl_off (N := (some 20)) (by rfl) rfl ?_
    simp only [Act.put, List.setIfInBounds_toArray, List.set_cons_zero, List.set_cons_succ]
    refine pl_off (N := (some 21)) (by rfl) rfl ?_
    simp only [Act.put, List.setIfInBounds_toArray, List.set_cons_zero, List.set_cons_succ]
    refine pl_pure (N := (some 22)) (v := ?v11) (by rfl) rfl ?h11 ?_
    case h11 => (go_simp; rfl)
    simp only [Act.put, List.setIfInBounds_toArray, List.set_cons_zero, List.set_cons_succ]
    refine pl_pure (N := (some 23)) (v := ?v12) (by rfl) rfl ?h12 ?_
    case h12 => (go_simp; rfl)
    simp only [Act.put, List.setIfInBounds_toArray, List.set_cons_zero, List.set_cons_succ]
    refine pl_off (N := (some 24)) (by rfl) rfl ?_
    simp only [Act.put, List.setIfInBounds_toArray, List.set_cons_zero, List.set_cons_succ]
    refine pl_off (N := (some 25)) (by rfl) rfl ?_
    simp only [Act.put, List.setIfInBounds_toArray, List.set_cons_zero, List.set_cons_succ]
    refine pl_off (N := (some 26)) (by rfl) rfl ?_
    simp only [Act.put, List.setIfInBounds_toArray, List.set_cons_zero, List.set_cons_succ]
    refine pl_pure (N := (some 27)) (v := ?v16) (by rfl) rfl ?h16 ?_
    case h16 => (go_simp; rfl)
    simp only [Act.put, List.setIfInBounds_toArray, List.set_cons_zero, List.set_cons_succ]
    refine pl_pure (N := (some 28)) (v := ?v17) (by rfl) rfl ?h17 ?_
    case h17 => (go_simp; rfl)
    simp only [Act.put, List.setIfInBounds_toArray, List.set_cons_zero, List.set_cons_succ]
    refine pl_off (N := (some 29)) (by rfl) rfl ?_
    simp only [Act.put, List.setIfInBounds_toArray, List.set_cons_zero, List.set_cons_succ]
    refine pl_off (N := (some 30)) (by rfl) rfl ?_
    simp only [Act.put, List.setIfInBounds_toArray, List.set_cons_zero, List.set_cons_succ]
    refine pl_off (N := (some 31)) (by rfl) rfl ?_
    simp only [Act.put, List.setIfInBounds_toArray, List.set_cons_zero, List.set_cons_succ]
    refine pl_pure (N := (some 32)) (v := ?v21) (by rfl) rfl ?h21 ?_
    case h21 => (go_simp; rfl)
    simp only [Act.put, List.setIfInBounds_toArray, List.set_cons_zero, List.set_cons_succ]
    refine pl_nil ?_
    go_upto_region 2 with (fail)
    refine pl_start ?_
    refine pl_held (B := v0.heap.size) (v := v0) (HX1.out) (fun hHeld => ?_)
    refine goesCL_ (N := (some 33)) Try.func28 (by kernel_rfl) rfl (by rfl) rfl rfl (wakes06_c _) (by simp [Act.eval]) ?_
    rintro e x2_0 ⟨rfl, hb2_0⟩
    refine ⟨_, rfl, ?_⟩
    simp only [Act.put, List.setIfInBounds_toArray, List.set_cons_zero, List.set_cons_succ]
    refine pl_held (B := v0.heap.size) (v := v0) (below_then hHeld hHeld.size hb2_0) (fun hHeld => ?_)
    refine pl_pure (N := (some 6)) (v := ?v23) (by rfl) rfl ?h23 ?_
    case h23 => (go_simp; rfl)
    simp only [Act.put, List.setIfInBounds_toArray, List.set_cons_zero, List.set_cons_succ]
    refine pl_nil ?_
    go_wp2
    go_ret
    exact ⟨ret_bool rfl, below_then HB0.out HB0.out.size hHeld⟩
end Go.Proofs.Ytphmmppmhphgeaa
