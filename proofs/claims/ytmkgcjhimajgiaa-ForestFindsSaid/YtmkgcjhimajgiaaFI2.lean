/- Contracts of functions of the program, and plain laws (text I2): each theorem says what it proves. -/
import Derived.Test.YtmkgcjhimajgiaaFN
import Derived.Test.YtmkgcjhimajgiaaFE
set_option linter.unusedVariables false
set_option linter.unusedSimpArgs false
namespace Go.Proofs.Ytmkgcjhimajgiaa
open Go.RowKit Go.Proofs.YtmkgcjhimajgiaaW.PrintWords Go.Proofs.YtmkgcjhimajgiaaW.PrintLast

/-- What is small. -/
structure Sm24 (g : Gram) (l : List Int) : Prop where
  gs : GSmall g
  r : goodF g = true → g.rules.length ≤ 20
  w : l.length ≤ 9 ∨ (40 < l.length ∧ l.length ≤ 100)
def SmEnd (g : Gram) (l : List Int) (e : Ending) : Prop:=∃ b,e = .returned (.bool b) ∧ (b = true → Sm24 g l)
theorem dec_int {a b : Nat} {v : Bool} (h : decide (a ≤ b) = v) : decide ((a : Int) ≤ (b : Int)) = v:=by rw [← h,decide_eq_decide];omega
theorem dec_ilt {a b : Nat} {v : Bool} (h : decide (a < b) = v) : decide ((a : Int) < (b : Int)) = v:=by rw [← h,decide_eq_decide];omega
set_option maxRecDepth 100000 in
set_option maxHeartbeats 16000000 in
theorem small24_c (g : Gram) (A1 A2 A3 : Option Addr) (c1 c2 c3 : Nat) (B : Option Addr) (d : Nat) (l : List Int) (w : World) (hg : RepG w g A1 A2 A3 c1 c2 c3) (hz : Sized g) :
    Calls Try.prog 15 #[.agg #[.slice A1 g.terms.length c1,.slice A2 g.names.length c2,.slice A3 g.rules.length c3],.slice B l.length d] w fun e w' => SmEnd g l e ∧ Below w.heap.size w w':=by
  obtain ⟨v0,hv0⟩ : ∃ v0 : World,v0 = w.alloc (.cells #[.slice A1 g.terms.length c1,.slice A2 g.names.length c2,.slice A3 g.rules.length c3] 25 (0,0)):=⟨_,rfl⟩
  have HB0 : Aside0 (Below w.heap.size w v0):=⟨by rw [hv0];exact (Below.refl w.heap.size w).alloc (Nat.le_refl _) _⟩
  have HP0 : Aside0 (v0.heap[w.heap.size]? = some (.cells #[.slice A1 g.terms.length c1,.slice A2 g.names.length c2,.slice A3 g.rules.length c3] 25 (0,0))):=⟨by rw [hv0];exact blk_new w _⟩
  have HG0:=Aside0.mk (hg.below_ HB0.out)
  have HZ:=Aside0.mk hz
  obtain ⟨gv,hgv⟩ : ∃ gv,goodF g = gv:=⟨_,rfl⟩
  have HGV:=Lib.hid hgv
  obtain ⟨l9,hl9⟩ : ∃ b,decide (l.length ≤ 9) = b:=⟨_,rfl⟩
  obtain ⟨l40,hl40⟩ : ∃ b,decide (40 < l.length) = b:=⟨_,rfl⟩
  obtain ⟨l100,hl100⟩ : ∃ b,decide (l.length ≤ 100) = b:=⟨_,rfl⟩
  obtain ⟨r20,hr20⟩ : ∃ b,decide (g.rules.length ≤ 20) = b:=⟨_,rfl⟩
  have i9 : decide ((l.length : Int) ≤ 9) = l9:=dec_int hl9
  have i40 : decide (40 < (l.length : Int)) = l40:=dec_ilt hl40
  have i100 : decide ((l.length : Int) ≤ 100) = l100:=dec_int hl100
  have i20 : decide ((g.rules.length : Int) ≤ 20) = r20:=dec_int hr20
  have HL9:=Lib.hid hl9
  have HL40:=Lib.hid hl40
  have HL100:=Lib.hid hl100
  have HR20:=Lib.hid hr20
  clear hg hz hgv
  go_enter Try.func15,Try.ntmps15
  go_upto_region 1 with (fail)
  simp only [← hv0]
  clear hv0
  refine pl_start ?_
  refine pl_held (B:=v0.heap.size) (v:=v0) (Below.refl _ _) (fun hHeld => ?_)
  refine pp_ ?_ ?_ ?_ (y:=by have d0:=(blk_cell (blk_below HP0.out hHeld) 0).trans rfl;have d1:=(blk_cell (blk_below HP0.out hHeld) 1).trans rfl;have d2:=(blk_cell (blk_below HP0.out hHeld) 2).trans rfl;go_simp;rfl)
  refine goesCL_ (N:=(some 6)) Try.func42 (by kernel_rfl) rfl (by rfl) rfl rfl (large_c g A1 A2 A3 c1 c2 c3 _ (HG0.out.below_ hHeld)) (by simp [Act.eval]) ?_
  rintro e x1_1 ⟨⟨lv,rfl,hsm⟩,hb1_1⟩
  refine ⟨_,rfl,?_⟩
  simp only [Act.put,List.setIfInBounds_toArray,List.set_cons_zero,List.set_cons_succ]
  refine pl_held (B:=v0.heap.size) (v:=v0) (below_then hHeld hHeld.size hb1_1) (fun hHeld => ?_)
  cases lv
  · have HSM:=Aside0.mk (hsm rfl)
    clear hsm
    cases gv
    · cases l9
      · cases l40
        · refine pl_held (B:=v0.heap.size) (v:=v0) (hHeld) (fun hHeld => ?_)
          refine pp_ ?_ ?_ ?_
          refine pp_ ?_ ?_ ?_
          refine pp_ ?_ ?_ ?_ (y:=by have d0:=(blk_cell (blk_below HP0.out hHeld) 0).trans rfl;have d1:=(blk_cell (blk_below HP0.out hHeld) 1).trans rfl;have d2:=(blk_cell (blk_below HP0.out hHeld) 2).trans rfl;go_simp;rfl)
          refine goesCL_ (N:=(some 10)) Try.func28 (by kernel_rfl) rfl (by rfl) rfl rfl (good1_v g A1 A2 A3 c1 c2 c3 _ (HG0.out.below_ hHeld) HZ.out HGV.out) (by simp [Act.eval]) ?_
          rintro e x1_5 ⟨rfl,hb1_5⟩
          refine ⟨_,rfl,?_⟩
          simp only [Act.put,List.setIfInBounds_toArray,List.set_cons_zero,List.set_cons_succ]
          refine pl_held (B:=v0.heap.size) (v:=v0) (below_then hHeld hHeld.size hb1_5) (fun hHeld => ?_)
          refine pp_ ?_ ?_ ?_
          refine pp_ ?_ ?_ ?_
          refine pf_ ?_ ?_
          refine pf_ ?_ ?_
          refine pf_ ?_ ?_
          refine pf_ ?_ ?_
          refine pp_ ?_ ?_ ?_
          refine pp_ ?_ ?_ ?_
          refine pp_ ?_ ?_ ?_
          refine pp_ ?_ ?_ ?_
          refine pp_ ?_ ?_ ?_
          refine pp_ ?_ ?_ ?_
          refine pp_ ?_ ?_ ?_
          refine pp_ ?_ ?_ ?_
          refine pp_ ?_ ?_ ?_
          refine pp_ ?_ ?_ ?_
          refine pp_ ?_ ?_ ?_
          refine pf_ ?_ ?_
          refine pf_ ?_ ?_
          refine pf_ ?_ ?_
          refine pp_ ?_ ?_ ?_
          refine pp_ ?_ ?_ ?_
          refine pp_ ?_ ?_ ?_
          refine pp_ ?_ ?_ ?_
          refine pl_nil ?_
          go_wp2
          go_ret
          exact ⟨⟨false,rfl,fun h => by cases h⟩,below_then HB0.out HB0.out.size hHeld⟩
        · refine pl_held (B:=v0.heap.size) (v:=v0) (hHeld) (fun hHeld => ?_)
          refine pp_ ?_ ?_ ?_
          refine pp_ ?_ ?_ ?_
          refine pp_ ?_ ?_ ?_ (y:=by have d0:=(blk_cell (blk_below HP0.out hHeld) 0).trans rfl;have d1:=(blk_cell (blk_below HP0.out hHeld) 1).trans rfl;have d2:=(blk_cell (blk_below HP0.out hHeld) 2).trans rfl;go_simp;rfl)
          refine goesCL_ (N:=(some 10)) Try.func28 (by kernel_rfl) rfl (by rfl) rfl rfl (good1_v g A1 A2 A3 c1 c2 c3 _ (HG0.out.below_ hHeld) HZ.out HGV.out) (by simp [Act.eval]) ?_
          rintro e x1_5 ⟨rfl,hb1_5⟩
          refine ⟨_,rfl,?_⟩
          simp only [Act.put,List.setIfInBounds_toArray,List.set_cons_zero,List.set_cons_succ]
          refine pl_held (B:=v0.heap.size) (v:=v0) (below_then hHeld hHeld.size hb1_5) (fun hHeld => ?_)
          refine pp_ ?_ ?_ ?_
          refine pp_ ?_ ?_ ?_
          refine pf_ ?_ ?_
          refine pf_ ?_ ?_
          refine pf_ ?_ ?_
          refine pf_ ?_ ?_
          refine pp_ ?_ ?_ ?_
          refine pp_ ?_ ?_ ?_
          refine pp_ ?_ ?_ ?_
          refine pp_ ?_ ?_ ?_
          refine pp_ ?_ ?_ ?_
          refine pp_ ?_ ?_ ?_
          refine pp_ ?_ ?_ ?_
          refine pp_ ?_ ?_ ?_
          refine pp_ ?_ ?_ ?_
          refine pp_ ?_ ?_ ?_
          refine pp_ ?_ ?_ ?_
          refine pp_ ?_ ?_ ?_
          refine pp_ ?_ ?_ ?_
          refine pp_ ?_ ?_ ?_
          refine pp_ ?_ ?_ ?_
          refine pp_ ?_ ?_ ?_
          refine pp_ ?_ ?_ ?_
          refine pp_ ?_ ?_ ?_
          refine pl_nil ?_
          go_wp2
          go_ret
          exact ⟨⟨l100,rfl,fun h => ⟨HSM.out,fun h2 => (by rw [HGV.out] at h2;cases h2),.inr ⟨of_decide_eq_true HL40.out,of_decide_eq_true (HL100.out.trans h)⟩⟩⟩,below_then HB0.out HB0.out.size hHeld⟩
      · refine pl_held (B:=v0.heap.size) (v:=v0) (hHeld) (fun hHeld => ?_)
        refine pp_ ?_ ?_ ?_
        refine pp_ ?_ ?_ ?_
        refine pp_ ?_ ?_ ?_ (y:=by have d0:=(blk_cell (blk_below HP0.out hHeld) 0).trans rfl;have d1:=(blk_cell (blk_below HP0.out hHeld) 1).trans rfl;have d2:=(blk_cell (blk_below HP0.out hHeld) 2).trans rfl;go_simp;rfl)
        refine goesCL_ (N:=(some 10)) Try.func28 (by kernel_rfl) rfl (by rfl) rfl rfl (good1_v g A1 A2 A3 c1 c2 c3 _ (HG0.out.below_ hHeld) HZ.out HGV.out) (by simp [Act.eval]) ?_
        rintro e x1_5 ⟨rfl,hb1_5⟩
        refine ⟨_,rfl,?_⟩
        simp only [Act.put,List.setIfInBounds_toArray,List.set_cons_zero,List.set_cons_succ]
        refine pl_held (B:=v0.heap.size) (v:=v0) (below_then hHeld hHeld.size hb1_5) (fun hHeld => ?_)
        refine pp_ ?_ ?_ ?_
        refine pp_ ?_ ?_ ?_
        refine pf_ ?_ ?_
        refine pf_ ?_ ?_
        refine pf_ ?_ ?_
        refine pf_ ?_ ?_
        refine pp_ ?_ ?_ ?_
        refine pp_ ?_ ?_ ?_
        refine pp_ ?_ ?_ ?_
        refine pp_ ?_ ?_ ?_
        refine pp_ ?_ ?_ ?_
        refine pp_ ?_ ?_ ?_
        refine pp_ ?_ ?_ ?_
        refine pf_ ?_ ?_
        refine pf_ ?_ ?_
        refine pf_ ?_ ?_
        refine pf_ ?_ ?_
        refine pf_ ?_ ?_
        refine pf_ ?_ ?_
        refine pf_ ?_ ?_
        refine pf_ ?_ ?_
        refine pp_ ?_ ?_ ?_
        refine pp_ ?_ ?_ ?_
        refine pp_ ?_ ?_ ?_
        refine pl_nil ?_
        go_wp2
        go_ret
        exact ⟨⟨true,rfl,fun h => ⟨HSM.out,fun h2 => (by rw [HGV.out] at h2;cases h2),.inl (of_decide_eq_true HL9.out)⟩⟩,below_then HB0.out HB0.out.size hHeld⟩
    · cases r20
      · refine pl_held (B:=v0.heap.size) (v:=v0) (hHeld) (fun hHeld => ?_)
        refine pp_ ?_ ?_ ?_
        refine pp_ ?_ ?_ ?_
        refine pp_ ?_ ?_ ?_ (y:=by have d0:=(blk_cell (blk_below HP0.out hHeld) 0).trans rfl;have d1:=(blk_cell (blk_below HP0.out hHeld) 1).trans rfl;have d2:=(blk_cell (blk_below HP0.out hHeld) 2).trans rfl;go_simp;rfl)
        refine goesCL_ (N:=(some 10)) Try.func28 (by kernel_rfl) rfl (by rfl) rfl rfl (good1_v g A1 A2 A3 c1 c2 c3 _ (HG0.out.below_ hHeld) HZ.out HGV.out) (by simp [Act.eval]) ?_
        rintro e x1_5 ⟨rfl,hb1_5⟩
        refine ⟨_,rfl,?_⟩
        simp only [Act.put,List.setIfInBounds_toArray,List.set_cons_zero,List.set_cons_succ]
        refine pl_held (B:=v0.heap.size) (v:=v0) (below_then hHeld hHeld.size hb1_5) (fun hHeld => ?_)
        refine pp_ ?_ ?_ ?_
        refine pp_ ?_ ?_ ?_
        refine pp_ ?_ ?_ ?_
        refine pp_ ?_ ?_ ?_ (y:=by have d0:=(blk_cell (blk_below HP0.out hHeld) 0).trans rfl;have d1:=(blk_cell (blk_below HP0.out hHeld) 1).trans rfl;have d2:=(blk_cell (blk_below HP0.out hHeld) 2).trans rfl;go_simp;rfl)
        refine pp_ ?_ ?_ ?_
        refine pp_ ?_ ?_ ?_
        refine pp_ ?_ ?_ ?_
        refine pp_ ?_ ?_ ?_
        refine pp_ ?_ ?_ ?_
        refine pf_ ?_ ?_
        refine pf_ ?_ ?_
        refine pf_ ?_ ?_
        refine pf_ ?_ ?_
        refine pf_ ?_ ?_
        refine pf_ ?_ ?_
        refine pf_ ?_ ?_
        refine pf_ ?_ ?_
        refine pf_ ?_ ?_
        refine pf_ ?_ ?_
        refine pf_ ?_ ?_
        refine pf_ ?_ ?_
        refine pf_ ?_ ?_
        refine pp_ ?_ ?_ ?_
        refine pp_ ?_ ?_ ?_
        refine pl_nil ?_
        go_wp2
        go_ret
        exact ⟨⟨false,rfl,fun h => by cases h⟩,below_then HB0.out HB0.out.size hHeld⟩
      · cases l9
        · cases l40
          · refine pl_held (B:=v0.heap.size) (v:=v0) (hHeld) (fun hHeld => ?_)
            refine pp_ ?_ ?_ ?_
            refine pp_ ?_ ?_ ?_
            refine pp_ ?_ ?_ ?_ (y:=by have d0:=(blk_cell (blk_below HP0.out hHeld) 0).trans rfl;have d1:=(blk_cell (blk_below HP0.out hHeld) 1).trans rfl;have d2:=(blk_cell (blk_below HP0.out hHeld) 2).trans rfl;go_simp;rfl)
            refine goesCL_ (N:=(some 10)) Try.func28 (by kernel_rfl) rfl (by rfl) rfl rfl (good1_v g A1 A2 A3 c1 c2 c3 _ (HG0.out.below_ hHeld) HZ.out HGV.out) (by simp [Act.eval]) ?_
            rintro e x1_5 ⟨rfl,hb1_5⟩
            refine ⟨_,rfl,?_⟩
            simp only [Act.put,List.setIfInBounds_toArray,List.set_cons_zero,List.set_cons_succ]
            refine pl_held (B:=v0.heap.size) (v:=v0) (below_then hHeld hHeld.size hb1_5) (fun hHeld => ?_)
            refine pp_ ?_ ?_ ?_
            refine pp_ ?_ ?_ ?_
            refine pp_ ?_ ?_ ?_
            refine pp_ ?_ ?_ ?_ (y:=by have d0:=(blk_cell (blk_below HP0.out hHeld) 0).trans rfl;have d1:=(blk_cell (blk_below HP0.out hHeld) 1).trans rfl;have d2:=(blk_cell (blk_below HP0.out hHeld) 2).trans rfl;go_simp;rfl)
            refine pp_ ?_ ?_ ?_
            refine pp_ ?_ ?_ ?_
            refine pp_ ?_ ?_ ?_
            refine pp_ ?_ ?_ ?_
            refine pp_ ?_ ?_ ?_
            refine pp_ ?_ ?_ ?_
            refine pp_ ?_ ?_ ?_
            refine pp_ ?_ ?_ ?_
            refine pp_ ?_ ?_ ?_
            refine pp_ ?_ ?_ ?_
            refine pp_ ?_ ?_ ?_
            refine pp_ ?_ ?_ ?_
            refine pp_ ?_ ?_ ?_
            refine pf_ ?_ ?_
            refine pf_ ?_ ?_
            refine pf_ ?_ ?_
            refine pp_ ?_ ?_ ?_
            refine pp_ ?_ ?_ ?_
            refine pp_ ?_ ?_ ?_
            refine pp_ ?_ ?_ ?_
            refine pl_nil ?_
            go_wp2
            go_ret
            exact ⟨⟨false,rfl,fun h => by cases h⟩,below_then HB0.out HB0.out.size hHeld⟩
          · refine pl_held (B:=v0.heap.size) (v:=v0) (hHeld) (fun hHeld => ?_)
            refine pp_ ?_ ?_ ?_
            refine pp_ ?_ ?_ ?_
            refine pp_ ?_ ?_ ?_ (y:=by have d0:=(blk_cell (blk_below HP0.out hHeld) 0).trans rfl;have d1:=(blk_cell (blk_below HP0.out hHeld) 1).trans rfl;have d2:=(blk_cell (blk_below HP0.out hHeld) 2).trans rfl;go_simp;rfl)
            refine goesCL_ (N:=(some 10)) Try.func28 (by kernel_rfl) rfl (by rfl) rfl rfl (good1_v g A1 A2 A3 c1 c2 c3 _ (HG0.out.below_ hHeld) HZ.out HGV.out) (by simp [Act.eval]) ?_
            rintro e x1_5 ⟨rfl,hb1_5⟩
            refine ⟨_,rfl,?_⟩
            simp only [Act.put,List.setIfInBounds_toArray,List.set_cons_zero,List.set_cons_succ]
            refine pl_held (B:=v0.heap.size) (v:=v0) (below_then hHeld hHeld.size hb1_5) (fun hHeld => ?_)
            refine pp_ ?_ ?_ ?_
            refine pp_ ?_ ?_ ?_
            refine pp_ ?_ ?_ ?_
            refine pp_ ?_ ?_ ?_ (y:=by have d0:=(blk_cell (blk_below HP0.out hHeld) 0).trans rfl;have d1:=(blk_cell (blk_below HP0.out hHeld) 1).trans rfl;have d2:=(blk_cell (blk_below HP0.out hHeld) 2).trans rfl;go_simp;rfl)
            refine pp_ ?_ ?_ ?_
            refine pp_ ?_ ?_ ?_
            refine pp_ ?_ ?_ ?_
            refine pp_ ?_ ?_ ?_
            refine pp_ ?_ ?_ ?_
            refine pp_ ?_ ?_ ?_
            refine pp_ ?_ ?_ ?_
            refine pp_ ?_ ?_ ?_
            refine pp_ ?_ ?_ ?_
            refine pp_ ?_ ?_ ?_
            refine pp_ ?_ ?_ ?_
            refine pp_ ?_ ?_ ?_
            refine pp_ ?_ ?_ ?_
            refine pp_ ?_ ?_ ?_
            refine pp_ ?_ ?_ ?_
            refine pp_ ?_ ?_ ?_
            refine pp_ ?_ ?_ ?_
            refine pp_ ?_ ?_ ?_
            refine pp_ ?_ ?_ ?_
            refine pp_ ?_ ?_ ?_
            refine pl_nil ?_
            go_wp2
            go_ret
            exact ⟨⟨l100,rfl,fun h => ⟨HSM.out,fun _ => of_decide_eq_true HR20.out,.inr ⟨of_decide_eq_true HL40.out,of_decide_eq_true (HL100.out.trans h)⟩⟩⟩,below_then HB0.out HB0.out.size hHeld⟩
        · refine pl_held (B:=v0.heap.size) (v:=v0) (hHeld) (fun hHeld => ?_)
          refine pp_ ?_ ?_ ?_
          refine pp_ ?_ ?_ ?_
          refine pp_ ?_ ?_ ?_ (y:=by have d0:=(blk_cell (blk_below HP0.out hHeld) 0).trans rfl;have d1:=(blk_cell (blk_below HP0.out hHeld) 1).trans rfl;have d2:=(blk_cell (blk_below HP0.out hHeld) 2).trans rfl;go_simp;rfl)
          refine goesCL_ (N:=(some 10)) Try.func28 (by kernel_rfl) rfl (by rfl) rfl rfl (good1_v g A1 A2 A3 c1 c2 c3 _ (HG0.out.below_ hHeld) HZ.out HGV.out) (by simp [Act.eval]) ?_
          rintro e x1_5 ⟨rfl,hb1_5⟩
          refine ⟨_,rfl,?_⟩
          simp only [Act.put,List.setIfInBounds_toArray,List.set_cons_zero,List.set_cons_succ]
          refine pl_held (B:=v0.heap.size) (v:=v0) (below_then hHeld hHeld.size hb1_5) (fun hHeld => ?_)
          refine pp_ ?_ ?_ ?_
          refine pp_ ?_ ?_ ?_
          refine pp_ ?_ ?_ ?_
          refine pp_ ?_ ?_ ?_ (y:=by have d0:=(blk_cell (blk_below HP0.out hHeld) 0).trans rfl;have d1:=(blk_cell (blk_below HP0.out hHeld) 1).trans rfl;have d2:=(blk_cell (blk_below HP0.out hHeld) 2).trans rfl;go_simp;rfl)
          refine pp_ ?_ ?_ ?_
          refine pp_ ?_ ?_ ?_
          refine pp_ ?_ ?_ ?_
          refine pp_ ?_ ?_ ?_
          refine pp_ ?_ ?_ ?_
          refine pp_ ?_ ?_ ?_
          refine pp_ ?_ ?_ ?_
          refine pp_ ?_ ?_ ?_
          refine pp_ ?_ ?_ ?_
          refine pf_ ?_ ?_
          refine pf_ ?_ ?_
          refine pf_ ?_ ?_
          refine pf_ ?_ ?_
          refine pf_ ?_ ?_
          refine pf_ ?_ ?_
          refine pf_ ?_ ?_
          refine pf_ ?_ ?_
          refine pp_ ?_ ?_ ?_
          refine pp_ ?_ ?_ ?_
          refine pp_ ?_ ?_ ?_
          refine pl_nil ?_
          go_wp2
          go_ret
          exact ⟨⟨true,rfl,fun h => ⟨HSM.out,fun _ => of_decide_eq_true HR20.out,.inl (of_decide_eq_true HL9.out)⟩⟩,below_then HB0.out HB0.out.size hHeld⟩
  · clear hsm
    refine pl_held (B:=v0.heap.size) (v:=v0) (hHeld) (fun hHeld => ?_)
    refine pp_ ?_ ?_ ?_
    refine pp_ ?_ ?_ ?_
    refine pf_ ?_ ?_
    refine pf_ ?_ ?_
    refine pf_ ?_ ?_
    refine pf_ ?_ ?_
    refine pf_ ?_ ?_
    refine pf_ ?_ ?_
    refine pf_ ?_ ?_
    refine pf_ ?_ ?_
    refine pf_ ?_ ?_
    refine pp_ ?_ ?_ ?_
    refine pp_ ?_ ?_ ?_
    refine pf_ ?_ ?_
    refine pf_ ?_ ?_
    refine pf_ ?_ ?_
    refine pf_ ?_ ?_
    refine pf_ ?_ ?_
    refine pf_ ?_ ?_
    refine pf_ ?_ ?_
    refine pf_ ?_ ?_
    refine pf_ ?_ ?_
    refine pf_ ?_ ?_
    refine pf_ ?_ ?_
    refine pf_ ?_ ?_
    refine pf_ ?_ ?_
    refine pp_ ?_ ?_ ?_
    refine pp_ ?_ ?_ ?_
    refine pl_nil ?_
    go_wp2
    go_ret
    exact ⟨⟨false,rfl,fun h => by cases h⟩,below_then HB0.out HB0.out.size hHeld⟩
end Go.Proofs.Ytmkgcjhimajgiaa

