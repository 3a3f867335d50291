/- The law UsefulTells,walked: it answers true. -/
import Derived.Test.YtphmmppmhphgeaaJV
import Derived.Test.YtphmmppmhphgeaaJZ
set_option linter.unusedVariables false
set_option linter.unusedSimpArgs false
namespace Go.Proofs.Ytphmmppmhphgeaa
open Go.RowKit Go.Proofs.YtphmmppmhphgeaaW.PrintWords Go.Proofs.YtphmmppmhphgeaaW.PrintLast

def reachO (g : Gram) (a : Int) : List Bool:=if inG g a = true then reachF g allOk a else []
def prodO (g : Gram) : List Bool:=if goodF g = true then prodF g else []
def usefulO (g : Gram) : List Bool:=if goodF g = true then usefulF g else []
theorem inG_is {g : Gram} {a : Int} (h : inG g a = true) : goodF g = true ∧ 0 ≤ a ∧ a < nsym g:=by
  simpa [inG,and_assoc] using h
theorem AnsB.any {w w' : World} {n : Nat} {m : List Bool} {e : Ending} (h : AnsB w n m e w') (hl : m.length = n) (hs : n ≤ 9223372036854775807) : OfAny w m e w':=by
  obtain ⟨b,he,hbb,_⟩:=h
  subst hl
  exact ⟨some ⟨b,0,none⟩,_,he,hbb.C hs⟩
theorem any_nil {w w' : World} {e : Ending} (he : e = .returned (.slice none 0 0)) : OfAny w [] e w':=⟨none,0,he,C_none _ _⟩
theorem good_n {g : Gram} (h : goodF g = true) : nsym g ≤ 9223372036854775807:=by
  have q:=goodF_small h
  unfold nsym;omega
theorem reachU_any (g : Gram) (A1 A2 A3 : Option Addr) (c1 c2 c3 : Nat) (a : Int) (w : World) (hg : RepG w g A1 A2 A3 c1 c2 c3) : Calls Try.prog 38 #[.agg #[.slice A1 g.terms.length c1,.slice A2 g.names.length c2,.slice A3 g.rules.length c3],.int .i64 a] w fun e w' => OfAny w (reachO g a) e w' ∧ Below w.heap.size w w':=by
  cases h : inG g a
  · have hn : reachO g a = []:=by unfold reachO;rw [h];rfl
    rw [hn]
    exact (reachU_no g A1 A2 A3 c1 c2 c3 a w hg h).mono fun e w' ⟨he,hb⟩ => ⟨any_nil he,hb⟩
  · have hn : reachO g a = reachF g allOk a:=by unfold reachO;rw [h];rfl
    rw [hn]
    obtain ⟨hgd,h0,h1⟩:=inG_is h
    have hl:=(reachF_is hgd allOk h0 h1).1
    exact (reachU_yes g A1 A2 A3 c1 c2 c3 a w hg hgd rfl h0 h1).mono fun e w' ⟨he,hb⟩ => ⟨he.any hl (good_n hgd),hb⟩
theorem reachR_any (g : Gram) (A1 A2 A3 : Option Addr) (c1 c2 c3 : Nat) (a : Int) (w : World) (hg : RepG w g A1 A2 A3 c1 c2 c3) (hz : Sized g) : Calls Try.prog 39 #[.agg #[.slice A1 g.terms.length c1,.slice A2 g.names.length c2,.slice A3 g.rules.length c3],.int .i64 a] w fun e w' => OfAny w (reachO g a) e w' ∧ Below w.heap.size w w':=by
  cases h : inG g a
  · have hn : reachO g a = []:=by unfold reachO;rw [h];rfl
    rw [hn]
    exact (reachR_no g A1 A2 A3 c1 c2 c3 a w hg hz h).mono fun e w' ⟨he,hb⟩ => ⟨any_nil he,hb⟩
  · have hn : reachO g a = reachF g allOk a:=by unfold reachO;rw [h];rfl
    rw [hn]
    obtain ⟨hgd,h0,h1⟩:=inG_is h
    have hl:=(reachF_is hgd allOk h0 h1).1
    exact (reachR_yes g A1 A2 A3 c1 c2 c3 a w hg hz hgd rfl h0 h1).mono fun e w' ⟨he,hb⟩ => ⟨he.any hl (good_n hgd),hb⟩
theorem prodU_any (g : Gram) (A1 A2 A3 : Option Addr) (c1 c2 c3 : Nat) (w : World) (hg : RepG w g A1 A2 A3 c1 c2 c3) : Calls Try.prog 40 #[.agg #[.slice A1 g.terms.length c1,.slice A2 g.names.length c2,.slice A3 g.rules.length c3]] w fun e w' => OfAny w (prodO g) e w' ∧ Below w.heap.size w w':=by
  cases h : goodF g
  · have hn : prodO g = []:=by unfold prodO;rw [h];rfl
    rw [hn]
    exact (prod_no g A1 A2 A3 c1 c2 c3 w hg h).mono fun e w' ⟨he,hb⟩ => ⟨any_nil he,hb⟩
  · have hn : prodO g = prodF g:=by unfold prodO;rw [h];rfl
    rw [hn]
    have hgd:=h
    have hl:=(prodF_is h).1
    exact (prod_yes g A1 A2 A3 c1 c2 c3 w hg hgd rfl).mono fun e w' ⟨he,hb⟩ => ⟨he.any hl (good_n hgd),hb⟩
theorem prodR_any (g : Gram) (A1 A2 A3 : Option Addr) (c1 c2 c3 : Nat) (w : World) (hg : RepG w g A1 A2 A3 c1 c2 c3) (hz : Sized g) : Calls Try.prog 41 #[.agg #[.slice A1 g.terms.length c1,.slice A2 g.names.length c2,.slice A3 g.rules.length c3]] w fun e w' => OfAny w (prodO g) e w' ∧ Below w.heap.size w w':=by
  cases h : goodF g
  · have hn : prodO g = []:=by unfold prodO;rw [h];rfl
    rw [hn]
    exact (prodR_no g A1 A2 A3 c1 c2 c3 w hg hz h).mono fun e w' ⟨he,hb⟩ => ⟨any_nil he,hb⟩
  · have hn : prodO g = prodF g:=by unfold prodO;rw [h];rfl
    rw [hn]
    have hgd:=h
    have hl:=(prodF_is h).1
    exact (prodR_yes g A1 A2 A3 c1 c2 c3 w hg hz hgd rfl).mono fun e w' ⟨he,hb⟩ => ⟨he.any hl (good_n hgd),hb⟩
theorem usefulU_any (g : Gram) (A1 A2 A3 : Option Addr) (c1 c2 c3 : Nat) (w : World) (hg : RepG w g A1 A2 A3 c1 c2 c3) : Calls Try.prog 42 #[.agg #[.slice A1 g.terms.length c1,.slice A2 g.names.length c2,.slice A3 g.rules.length c3]] w fun e w' => OfAny w (usefulO g) e w' ∧ Below w.heap.size w w':=by
  cases h : goodF g
  · have hn : usefulO g = []:=by unfold usefulO;rw [h];rfl
    rw [hn]
    exact (useful_no g A1 A2 A3 c1 c2 c3 w hg h).mono fun e w' ⟨he,hb⟩ => ⟨any_nil he,hb⟩
  · have hn : usefulO g = usefulF g:=by unfold usefulO;rw [h];rfl
    rw [hn]
    have hgd:=h
    have hl:=usefulF_len h
    exact (useful_yes g A1 A2 A3 c1 c2 c3 w hg hgd rfl).mono fun e w' ⟨he,hb⟩ => ⟨he.any hl (good_n hgd),hb⟩
theorem usefulR_any (g : Gram) (A1 A2 A3 : Option Addr) (c1 c2 c3 : Nat) (w : World) (hg : RepG w g A1 A2 A3 c1 c2 c3) (hz : Sized g) : Calls Try.prog 43 #[.agg #[.slice A1 g.terms.length c1,.slice A2 g.names.length c2,.slice A3 g.rules.length c3]] w fun e w' => OfAny w (usefulO g) e w' ∧ Below w.heap.size w w':=by
  cases h : goodF g
  · have hn : usefulO g = []:=by unfold usefulO;rw [h];rfl
    rw [hn]
    exact (usefulR_no g A1 A2 A3 c1 c2 c3 w hg hz h).mono fun e w' ⟨he,hb⟩ => ⟨any_nil he,hb⟩
  · have hn : usefulO g = usefulF g:=by unfold usefulO;rw [h];rfl
    rw [hn]
    have hgd:=h
    have hl:=usefulF_len h
    exact (usefulR_yes g A1 A2 A3 c1 c2 c3 w hg hz hgd rfl).mono fun e w' ⟨he,hb⟩ => ⟨he.any hl (good_n hgd),hb⟩

set_option maxRecDepth 100000 in
set_option maxHeartbeats 8000000 in
theorem usefulTells_c (g : Gram) (A1 A2 A3 : Option Addr) (c1 c2 c3 : Nat) (i : Int) (w : World) (hg : RepG w g A1 A2 A3 c1 c2 c3) (hz : Sized g) (hi : -9223372036854775808 ≤ i ∧ i ≤ 9223372036854775807) :
    Calls Try.prog 12 #[.agg #[.slice A1 g.terms.length c1,.slice A2 g.names.length c2,.slice A3 g.rules.length c3],.int .i64 i] w fun e w' => e = .returned (.bool true) ∧ Below w.heap.size w w':=by
  obtain ⟨v0,hv0⟩ : ∃ v0 : World,v0 = w.alloc (.cells #[.slice A1 g.terms.length c1,.slice A2 g.names.length c2,.slice A3 g.rules.length c3] 25 (0,0)):=⟨_,rfl⟩
  have HB0 : Aside0 (Below w.heap.size w v0):=⟨by rw [hv0];exact (Below.refl w.heap.size w).alloc (Nat.le_refl _) _⟩
  have HP0 : Aside0 (v0.heap[w.heap.size]? = some (.cells #[.slice A1 g.terms.length c1,.slice A2 g.names.length c2,.slice A3 g.rules.length c3] 25 (0,0))):=⟨by rw [hv0];exact blk_new w _⟩
  have HG0:=Aside0.mk (hg.below_ HB0.out)
  have HZ:=Aside0.mk hz
  clear hg hz hi
  go_enter Try.func12,Try.ntmps12
  go_upto_region 1 with (fail)
  simp only [← hv0]
  clear hv0
  refine pl_start ?_
  refine pl_held (B:=v0.heap.size) (v:=v0) (Below.refl _ _) (fun hHeld => ?_)
  refine pl_pure (N:=(some 6)) (v:=?v118) (by rfl) rfl ?h118 ?_
  case h118 => (have d0:=(blk_cell (blk_below HP0.out hHeld) 0).trans rfl;have d1:=(blk_cell (blk_below HP0.out hHeld) 1).trans rfl;have d2:=(blk_cell (blk_below HP0.out hHeld) 2).trans rfl;go_simp;rfl)
  simp only [Act.put,List.setIfInBounds_toArray,List.set_cons_zero,List.set_cons_succ]
  refine goesCL_ (N:=(some 7)) Try.func15 (by kernel_rfl) rfl (by rfl) rfl rfl (large_c g A1 A2 A3 c1 c2 c3 _ (HG0.out.below_ hHeld)) (by simp [Act.eval]) ?_
  rintro e x1_1 ⟨⟨lb,rfl,hs⟩,hb1_1⟩
  refine ⟨_,rfl,?_⟩
  simp only [Act.put,List.setIfInBounds_toArray,List.set_cons_zero,List.set_cons_succ]
  have HS:=Aside0.mk hs
  clear hs
  refine pl_held (B:=v0.heap.size) (v:=v0) (below_then hHeld hHeld.size hb1_1) (fun hHeld => ?_)
  refine pl_nil ?_
  have HX1:=Aside0.mk hHeld
  cases lb
  · have HS1:=Aside0.mk (HS.out rfl)
    go_upto_region 3 with (fail)
    refine pl_start ?_
    refine pl_held (B:=v0.heap.size) (v:=v0) (HX1.out) (fun hHeld => ?_)
    refine pl_pure (N:=(some 9)) (v:=?v120) (by rfl) rfl ?h120 ?_
    case h120 => (have d0:=(blk_cell (blk_below HP0.out hHeld) 0).trans rfl;have d1:=(blk_cell (blk_below HP0.out hHeld) 1).trans rfl;have d2:=(blk_cell (blk_below HP0.out hHeld) 2).trans rfl;go_simp;rfl)
    simp only [Act.put,List.setIfInBounds_toArray,List.set_cons_zero,List.set_cons_succ]
    refine goesCL_ (N:=(some 10)) Try.func19 (by kernel_rfl) rfl (by rfl) rfl rfl (own_c g A1 A2 A3 c1 c2 c3 _ (HG0.out.below_ hHeld) HS1.out.own) (by simp [Act.eval]) ?_
    rintro e x3_1 ⟨⟨B1,B2,B3,e1,e2,e3,rfl,ho⟩,hb3_1⟩
    refine ⟨_,rfl,?_⟩
    simp only [Act.put,List.setIfInBounds_toArray,List.set_cons_zero,List.set_cons_succ]
    refine pl_held (B:=v0.heap.size) (v:=v0) (below_then hHeld hHeld.size hb3_1) (fun hHeld => ?_)
    refine pl_value (N:=(some 5)) (v:=?v122) (w1:=?w122) (by rfl) rfl ?h122 ?_
    case h122 => (go_simp;first | rfl | (constructor;rfl;rfl))
    simp only [Act.put,List.setIfInBounds_toArray,List.set_cons_zero,List.set_cons_succ]
    refine pl_skip (w1:=?w123) (by rfl) rfl ?h123 ?_
    case h123 => (go_simp;rfl)
    refine pl_world ?_
    intro x3_3 hb3_3 hx3_3 hs3_3 hq3_3
    refine pl_held (B:=v0.heap.size) (v:=v0) (below_then hHeld hHeld.size hb3_3) (fun hHeld => ?_)
    refine pl_nil ?_
    have HV : Aside0 (Below w.heap.size w x3_3):=⟨below_then HB0.out HB0.out.size hHeld⟩
    have K1:=Aside0.mk (blk_below HP0.out hHeld)
    have K2:=Aside0.mk hx3_3
    have RG:=Aside0.mk (HG0.out.below_ hHeld)
    have RI:=Aside0.mk (ho.rep.below_ hb3_3)
    clear hHeld ho hb3_1 hb3_3 hx3_3 hs3_3 hq3_3
    go_upto_region 4 with (fail)
    refine start_ (n:=30) (S:=fun w' => Below x3_3.heap.size x3_3 w') (ds:=[]) (lb 30 0x0) (by kernel_rfl) rfl (by kernel_rfl) (below_drew1 (Below.refl _ _)) (fun hHeld => ?_)
    refine pure_ (i:=1) (N:=(some 12)) (v:=?_) (a':=?_) (lb 30 0x2) rfl rfl (by kernel_rfl) (fun _ _ _ h => h) (Or.inl ⟨by rfl,?_⟩) ?_ ?_
    rotate_left
    · (intro w';go_simp;with_reducible rfl)
    rotate_left
    · (simp only [Act.put,List.setIfInBounds_toArray,List.set_cons_zero,List.set_cons_succ];rfl)
    refine pure_ (i:=4) (N:=(some 15)) (v:=?_) (a':=?_) (lb 30 0x12) rfl rfl (by kernel_rfl) (fun _ _ _ h => h) (Or.inl ⟨by rfl,?_⟩) ?_ ?_
    rotate_left
    · (intro w';go_simp;with_reducible rfl)
    rotate_left
    · (simp only [Act.put,List.setIfInBounds_toArray,List.set_cons_zero,List.set_cons_succ];rfl)
    refine take_ (i:=0) (N:=(some 11)) (v:=?_) (a':=?_) (lb 30 0x13) rfl rfl (by kernel_rfl) (fun _ _ _ h => h) (Or.inl ⟨by rfl,?_⟩) hHeld ?_ ?_
    rotate_left
    · (rintro w' hS;have d0:=(blk_cell (blk_below K1.out hS) 0).trans rfl;have d1:=(blk_cell (blk_below K1.out hS) 1).trans rfl;have d2:=(blk_cell (blk_below K1.out hS) 2).trans rfl;have d3:=(blk_cell (blk_below K2.out hS) 0).trans rfl;have d4:=(blk_cell (blk_below K2.out hS) 1).trans rfl;have d5:=(blk_cell (blk_below K2.out hS) 2).trans rfl;go_simp;with_reducible rfl)
    rotate_left
    · (simp only [Act.put,List.setIfInBounds_toArray,List.set_cons_zero,List.set_cons_succ];rfl)
    refine take_ (i:=3) (N:=(some 14)) (v:=?_) (a':=?_) (lb 30 0x1b) rfl rfl (by kernel_rfl) (fun _ _ _ h => h) (Or.inl ⟨by rfl,?_⟩) hHeld ?_ ?_
    rotate_left
    · (rintro w' hS;have d0:=(blk_cell (blk_below K1.out hS) 0).trans rfl;have d1:=(blk_cell (blk_below K1.out hS) 1).trans rfl;have d2:=(blk_cell (blk_below K1.out hS) 2).trans rfl;have d3:=(blk_cell (blk_below K2.out hS) 0).trans rfl;have d4:=(blk_cell (blk_below K2.out hS) 1).trans rfl;have d5:=(blk_cell (blk_below K2.out hS) 2).trans rfl;go_simp;with_reducible rfl)
    rotate_left
    · (simp only [Act.put,List.setIfInBounds_toArray,List.set_cons_zero,List.set_cons_succ];rfl)
    refine one_ (i:=2) (N:=(some 13)) (lb 30 0x1f) rfl rfl (by kernel_rfl) (by decide) (fun K hK => ?_)
    (refine goesC_ Try.func38 (by kernel_rfl) rfl (by rfl) rfl rfl (reachU_any g B1 B2 B3 e1 e2 e3 i _ (RI.out.below_ hHeld)) (by simp [Act.eval]) ?_;rintro e w9 ⟨⟨NA,nc,rfl,hn⟩,hb9⟩;refine ⟨_,rfl,?_⟩;have HQ9:=Aside0.mk (below_then hHeld hHeld.size hb9);have HN1:=Aside0.mk hn;clear hn;clear hb9;refine hK.out _ _ HQ9.out (fun hHeld => ?_))
    skip
    clear hK K
    refine norm_ (a':=?_) ?_ ?_
    rotate_left
    · (show Act.put _ (some 13) _ = _;simp only [Act.put,List.setIfInBounds_toArray,List.set_cons_zero,List.set_cons_succ];rfl)
    refine one_ (i:=5) (N:=(some 16)) (lb 30 0x3f) rfl rfl (by kernel_rfl) (by decide) (fun K hK => ?_)
    (refine goesC_ Try.func39 (by kernel_rfl) rfl (by rfl) rfl rfl (reachR_any g A1 A2 A3 c1 c2 c3 i _ (RG.out.below_ hHeld) HZ.out) (by simp [Act.eval]) ?_;rintro e w9 ⟨⟨RA,rc,rfl,hr⟩,hb9⟩;refine ⟨_,rfl,?_⟩;have HQ9:=Aside0.mk (below_then hHeld hHeld.size hb9);have HN2:=Aside0.mk (Kd.C_below HN1.out hb9);have HR2:=Aside0.mk hr;clear hr;clear hb9;refine hK.out _ _ HQ9.out (fun hHeld => ?_))
    skip
    clear hK K
    refine norm_ (a':=?_) ?_ ?_
    rotate_left
    · (show Act.put _ (some 16) _ = _;simp only [Act.put,List.setIfInBounds_toArray,List.set_cons_zero,List.set_cons_succ];rfl)
    refine one_ (i:=6) (N:=(some 17)) (lb 30 0x7f) rfl rfl (by kernel_rfl) (by decide) (fun K hK => ?_)
    (refine goesC_ Try.func29 (by kernel_rfl) rfl (by rfl) rfl rfl (keepBools_v NA RA nc rc _ _ (reachO g i) (reachO g i) _ HN2.out HR2.out (decide_eq_true rfl)) (by simp [Act.eval]) ?_;rintro e w9 ⟨rfl,hb9⟩;refine ⟨_,rfl,?_⟩;have HQ9:=Aside0.mk (below_then hHeld hHeld.size hb9);clear hb9;refine hK.out _ _ HQ9.out (fun hHeld => ?_))
    skip
    clear hK K
    refine norm_ (a':=?_) ?_ ?_
    rotate_left
    · (show Act.put _ (some 17) _ = _;simp only [Act.put,List.setIfInBounds_toArray,List.set_cons_zero,List.set_cons_succ];rfl)
    refine pure_ (i:=7) (N:=(some 18)) (v:=?_) (a':=?_) (lb 30 0xff) rfl rfl (by kernel_rfl) (fun _ _ _ h => h) (Or.inl ⟨by rfl,?_⟩) ?_ ?_
    rotate_left
    · (intro w';go_simp;with_reducible rfl)
    rotate_left
    · (simp only [Act.put,List.setIfInBounds_toArray,List.set_cons_zero,List.set_cons_succ];rfl)
    refine take_ (i:=8) (N:=(some 19)) (v:=?_) (a':=?_) (lb 30 0x1ff) rfl rfl (by kernel_rfl) (fun _ _ _ h => h) (Or.inl ⟨by rfl,?_⟩) hHeld ?_ ?_
    rotate_left
    · (rintro w' hS;have d0:=(blk_cell (blk_below K1.out hS) 0).trans rfl;have d1:=(blk_cell (blk_below K1.out hS) 1).trans rfl;have d2:=(blk_cell (blk_below K1.out hS) 2).trans rfl;have d3:=(blk_cell (blk_below K2.out hS) 0).trans rfl;have d4:=(blk_cell (blk_below K2.out hS) 1).trans rfl;have d5:=(blk_cell (blk_below K2.out hS) 2).trans rfl;go_simp;with_reducible rfl)
    rotate_left
    · (simp only [Act.put,List.setIfInBounds_toArray,List.set_cons_zero,List.set_cons_succ];rfl)
    refine take_ (i:=10) (N:=(some 21)) (v:=?_) (a':=?_) (lb 30 0x5ff) rfl rfl (by kernel_rfl) (fun _ _ _ h => h) (Or.inl ⟨by rfl,?_⟩) hHeld ?_ ?_
    rotate_left
    · (rintro w' hS;have d0:=(blk_cell (blk_below K1.out hS) 0).trans rfl;have d1:=(blk_cell (blk_below K1.out hS) 1).trans rfl;have d2:=(blk_cell (blk_below K1.out hS) 2).trans rfl;have d3:=(blk_cell (blk_below K2.out hS) 0).trans rfl;have d4:=(blk_cell (blk_below K2.out hS) 1).trans rfl;have d5:=(blk_cell (blk_below K2.out hS) 2).trans rfl;go_simp;with_reducible rfl)
    rotate_left
    · (simp only [Act.put,List.setIfInBounds_toArray,List.set_cons_zero,List.set_cons_succ];rfl)
    refine one_ (i:=9) (N:=(some 20)) (lb 30 0x7ff) rfl rfl (by kernel_rfl) (by decide) (fun K hK => ?_)
    (refine goesC_ Try.func40 (by kernel_rfl) rfl (by rfl) rfl rfl (prodU_any g B1 B2 B3 e1 e2 e3 _ (RI.out.below_ hHeld)) (by simp [Act.eval]) ?_;rintro e w9 ⟨⟨NA,nc,rfl,hn⟩,hb9⟩;refine ⟨_,rfl,?_⟩;have HQ9:=Aside0.mk (below_then hHeld hHeld.size hb9);have HN1:=Aside0.mk hn;clear hn;clear hb9;refine hK.out _ _ HQ9.out (fun hHeld => ?_))
    skip
    clear hK K
    refine norm_ (a':=?_) ?_ ?_
    rotate_left
    · (show Act.put _ (some 20) _ = _;simp only [Act.put,List.setIfInBounds_toArray,List.set_cons_zero,List.set_cons_succ];rfl)
    refine one_ (i:=11) (N:=(some 22)) (lb 30 0xfff) rfl rfl (by kernel_rfl) (by decide) (fun K hK => ?_)
    (refine goesC_ Try.func41 (by kernel_rfl) rfl (by rfl) rfl rfl (prodR_any g A1 A2 A3 c1 c2 c3 _ (RG.out.below_ hHeld) HZ.out) (by simp [Act.eval]) ?_;rintro e w9 ⟨⟨RA,rc,rfl,hr⟩,hb9⟩;refine ⟨_,rfl,?_⟩;have HQ9:=Aside0.mk (below_then hHeld hHeld.size hb9);have HN2:=Aside0.mk (Kd.C_below HN1.out hb9);have HR2:=Aside0.mk hr;clear hr;clear hb9;refine hK.out _ _ HQ9.out (fun hHeld => ?_))
    skip
    clear hK K
    refine norm_ (a':=?_) ?_ ?_
    rotate_left
    · (show Act.put _ (some 22) _ = _;simp only [Act.put,List.setIfInBounds_toArray,List.set_cons_zero,List.set_cons_succ];rfl)
    refine one_ (i:=12) (N:=(some 23)) (lb 30 0x1fff) rfl rfl (by kernel_rfl) (by decide) (fun K hK => ?_)
    (refine goesC_ Try.func29 (by kernel_rfl) rfl (by rfl) rfl rfl (keepBools_v NA RA nc rc _ _ (prodO g) (prodO g) _ HN2.out HR2.out (decide_eq_true rfl)) (by simp [Act.eval]) ?_;rintro e w9 ⟨rfl,hb9⟩;refine ⟨_,rfl,?_⟩;have HQ9:=Aside0.mk (below_then hHeld hHeld.size hb9);clear hb9;refine hK.out _ _ HQ9.out (fun hHeld => ?_))
    skip
    clear hK K
    refine norm_ (a':=?_) ?_ ?_
    rotate_left
    · (show Act.put _ (some 23) _ = _;simp only [Act.put,List.setIfInBounds_toArray,List.set_cons_zero,List.set_cons_succ];rfl)
    refine pure_ (i:=13) (N:=(some 24)) (v:=?_) (a':=?_) (lb 30 0x3fff) rfl rfl (by kernel_rfl) (fun _ _ _ h => h) (Or.inl ⟨by rfl,?_⟩) ?_ ?_
    rotate_left
    · (intro w';go_simp;with_reducible rfl)
    rotate_left
    · (simp only [Act.put,List.setIfInBounds_toArray,List.set_cons_zero,List.set_cons_succ];rfl)
    refine pure_ (i:=14) (N:=(some 25)) (v:=?_) (a':=?_) (lb 30 0x7fff) rfl rfl (by kernel_rfl) (fun _ _ _ h => h) (Or.inl ⟨by rfl,?_⟩) ?_ ?_
    rotate_left
    · (intro w';go_simp;with_reducible rfl)
    rotate_left
    · (simp only [Act.put,List.setIfInBounds_toArray,List.set_cons_zero,List.set_cons_succ];rfl)
    refine take_ (i:=15) (N:=(some 26)) (v:=?_) (a':=?_) (lb 30 0xffff) rfl rfl (by kernel_rfl) (fun _ _ _ h => h) (Or.inl ⟨by rfl,?_⟩) hHeld ?_ ?_
    rotate_left
    · (rintro w' hS;have d0:=(blk_cell (blk_below K1.out hS) 0).trans rfl;have d1:=(blk_cell (blk_below K1.out hS) 1).trans rfl;have d2:=(blk_cell (blk_below K1.out hS) 2).trans rfl;have d3:=(blk_cell (blk_below K2.out hS) 0).trans rfl;have d4:=(blk_cell (blk_below K2.out hS) 1).trans rfl;have d5:=(blk_cell (blk_below K2.out hS) 2).trans rfl;go_simp;with_reducible rfl)
    rotate_left
    · (simp only [Act.put,List.setIfInBounds_toArray,List.set_cons_zero,List.set_cons_succ];rfl)
    refine take_ (i:=17) (N:=(some 28)) (v:=?_) (a':=?_) (lb 30 0x2ffff) rfl rfl (by kernel_rfl) (fun _ _ _ h => h) (Or.inl ⟨by rfl,?_⟩) hHeld ?_ ?_
    rotate_left
    · (rintro w' hS;have d0:=(blk_cell (blk_below K1.out hS) 0).trans rfl;have d1:=(blk_cell (blk_below K1.out hS) 1).trans rfl;have d2:=(blk_cell (blk_below K1.out hS) 2).trans rfl;have d3:=(blk_cell (blk_below K2.out hS) 0).trans rfl;have d4:=(blk_cell (blk_below K2.out hS) 1).trans rfl;have d5:=(blk_cell (blk_below K2.out hS) 2).trans rfl;go_simp;with_reducible rfl)
    rotate_left
    · (simp only [Act.put,List.setIfInBounds_toArray,List.set_cons_zero,List.set_cons_succ];rfl)
    refine one_ (i:=16) (N:=(some 27)) (lb 30 0x3ffff) rfl rfl (by kernel_rfl) (by decide) (fun K hK => ?_)
    (refine goesC_ Try.func42 (by kernel_rfl) rfl (by rfl) rfl rfl (usefulU_any g B1 B2 B3 e1 e2 e3 _ (RI.out.below_ hHeld)) (by simp [Act.eval]) ?_;rintro e w9 ⟨⟨NA,nc,rfl,hn⟩,hb9⟩;refine ⟨_,rfl,?_⟩;have HQ9:=Aside0.mk (below_then hHeld hHeld.size hb9);have HN1:=Aside0.mk hn;clear hn;clear hb9;refine hK.out _ _ HQ9.out (fun hHeld => ?_))
    skip
    clear hK K
    refine norm_ (a':=?_) ?_ ?_
    rotate_left
    · (show Act.put _ (some 27) _ = _;simp only [Act.put,List.setIfInBounds_toArray,List.set_cons_zero,List.set_cons_succ];rfl)
    refine one_ (i:=18) (N:=(some 29)) (lb 30 0x7ffff) rfl rfl (by kernel_rfl) (by decide) (fun K hK => ?_)
    (refine goesC_ Try.func43 (by kernel_rfl) rfl (by rfl) rfl rfl (usefulR_any g A1 A2 A3 c1 c2 c3 _ (RG.out.below_ hHeld) HZ.out) (by simp [Act.eval]) ?_;rintro e w9 ⟨⟨RA,rc,rfl,hr⟩,hb9⟩;refine ⟨_,rfl,?_⟩;have HQ9:=Aside0.mk (below_then hHeld hHeld.size hb9);have HN2:=Aside0.mk (Kd.C_below HN1.out hb9);have HR2:=Aside0.mk hr;clear hr;clear hb9;refine hK.out _ _ HQ9.out (fun hHeld => ?_))
    skip
    clear hK K
    refine norm_ (a':=?_) ?_ ?_
    rotate_left
    · (show Act.put _ (some 29) _ = _;simp only [Act.put,List.setIfInBounds_toArray,List.set_cons_zero,List.set_cons_succ];rfl)
    refine one_ (i:=19) (N:=(some 30)) (lb 30 0xfffff) rfl rfl (by kernel_rfl) (by decide) (fun K hK => ?_)
    (refine goesC_ Try.func29 (by kernel_rfl) rfl (by rfl) rfl rfl (keepBools_v NA RA nc rc _ _ (usefulO g) (usefulO g) _ HN2.out HR2.out (decide_eq_true rfl)) (by simp [Act.eval]) ?_;rintro e w9 ⟨rfl,hb9⟩;refine ⟨_,rfl,?_⟩;have HQ9:=Aside0.mk (below_then hHeld hHeld.size hb9);clear hb9;refine hK.out _ _ HQ9.out (fun hHeld => ?_))
    skip
    clear hK K
    refine norm_ (a':=?_) ?_ ?_
    rotate_left
    · (show Act.put _ (some 30) _ = _;simp only [Act.put,List.setIfInBounds_toArray,List.set_cons_zero,List.set_cons_succ];rfl)
    refine pure_ (i:=20) (N:=(some 31)) (v:=?_) (a':=?_) (lb 30 0x1fffff) rfl rfl (by kernel_rfl) (fun _ _ _ h => h) (Or.inl ⟨by rfl,?_⟩) ?_ ?_
    rotate_left
    · (intro w';go_simp;with_reducible rfl)
    rotate_left
    · (simp only [Act.put,List.setIfInBounds_toArray,List.set_cons_zero,List.set_cons_succ];rfl)
    refine pure_ (i:=21) (N:=(some 32)) (v:=?_) (a':=?_) (lb 30 0x3fffff) rfl rfl (by kernel_rfl) (fun _ _ _ h => h) (Or.inl ⟨by rfl,?_⟩) ?_ ?_
    rotate_left
    · (intro w';go_simp;with_reducible rfl)
    rotate_left
    · (simp only [Act.put,List.setIfInBounds_toArray,List.set_cons_zero,List.set_cons_succ];rfl)
    refine take_ (i:=22) (N:=(some 33)) (v:=?_) (a':=?_) (lb 30 0x7fffff) rfl rfl (by kernel_rfl) (fun _ _ _ h => h) (Or.inl ⟨by rfl,?_⟩) hHeld ?_ ?_
    rotate_left
    · (rintro w' hS;have d0:=(blk_cell (blk_below K1.out hS) 0).trans rfl;have d1:=(blk_cell (blk_below K1.out hS) 1).trans rfl;have d2:=(blk_cell (blk_below K1.out hS) 2).trans rfl;have d3:=(blk_cell (blk_below K2.out hS) 0).trans rfl;have d4:=(blk_cell (blk_below K2.out hS) 1).trans rfl;have d5:=(blk_cell (blk_below K2.out hS) 2).trans rfl;go_simp;with_reducible rfl)
    rotate_left
    · (simp only [Act.put,List.setIfInBounds_toArray,List.set_cons_zero,List.set_cons_succ];rfl)
    refine take_ (i:=23) (N:=(some 34)) (v:=?_) (a':=?_) (lb 30 0xffffff) rfl rfl (by kernel_rfl) (fun _ _ _ h => h) (Or.inl ⟨by rfl,?_⟩) hHeld ?_ ?_
    rotate_left
    · (rintro w' hS;have d0:=(blk_cell (blk_below K1.out hS) 0).trans rfl;have d1:=(blk_cell (blk_below K1.out hS) 1).trans rfl;have d2:=(blk_cell (blk_below K1.out hS) 2).trans rfl;have d3:=(blk_cell (blk_below K2.out hS) 0).trans rfl;have d4:=(blk_cell (blk_below K2.out hS) 1).trans rfl;have d5:=(blk_cell (blk_below K2.out hS) 2).trans rfl;go_simp;with_reducible rfl)
    rotate_left
    · (simp only [Act.put,List.setIfInBounds_toArray,List.set_cons_zero,List.set_cons_succ];rfl)
    refine one_ (i:=24) (N:=(some 35)) (lb 30 0x1ffffff) rfl rfl (by kernel_rfl) (by decide) (fun K hK => ?_)
    (refine goesC_ Try.func22 (by kernel_rfl) rfl (by rfl) rfl rfl (keepGrammar_v g B1 B2 B3 A1 A2 A3 e1 e2 e3 c1 c2 c3 _ (RI.out.below_ hHeld) (RG.out.below_ hHeld)) (by simp [Act.eval]) ?_;rintro e w9 ⟨rfl,hb9⟩;refine ⟨_,rfl,?_⟩;have HQ9:=Aside0.mk (below_then hHeld hHeld.size hb9);clear hb9;refine hK.out _ _ HQ9.out (fun hHeld => ?_))
    skip
    clear hK K
    refine norm_ (a':=?_) ?_ ?_
    rotate_left
    · (show Act.put _ (some 35) _ = _;simp only [Act.put,List.setIfInBounds_toArray,List.set_cons_zero,List.set_cons_succ];rfl)
    refine pure_ (i:=25) (N:=(some 36)) (v:=?_) (a':=?_) (lb 30 0x3ffffff) rfl rfl (by kernel_rfl) (fun _ _ _ h => h) (Or.inl ⟨by rfl,?_⟩) ?_ ?_
    rotate_left
    · (intro w';go_simp;with_reducible rfl)
    rotate_left
    · (simp only [Act.put,List.setIfInBounds_toArray,List.set_cons_zero,List.set_cons_succ];rfl)
    refine pure_ (i:=26) (N:=(some 37)) (v:=?_) (a':=?_) (lb 30 0x7ffffff) rfl rfl (by kernel_rfl) (fun _ _ _ h => h) (Or.inl ⟨by rfl,?_⟩) ?_ ?_
    rotate_left
    · (intro w';go_simp;with_reducible rfl)
    rotate_left
    · (simp only [Act.put,List.setIfInBounds_toArray,List.set_cons_zero,List.set_cons_succ];rfl)
    refine one_ (i:=27) (N:=(some 38)) (lb 30 0xfffffff) rfl rfl (by kernel_rfl) (by decide) (fun K hK => ?_)
    (refine goesC_ Try.func37 (by kernel_rfl) rfl (by rfl) rfl rfl (wakes07_c _) (by simp [Act.eval]) ?_;rintro e w9 ⟨rfl,hb9⟩;refine ⟨_,rfl,?_⟩;have HQ9:=Aside0.mk (below_then hHeld hHeld.size hb9);clear hb9;refine hK.out _ _ HQ9.out (fun hHeld => ?_))
    skip
    clear hK K
    refine norm_ (a':=?_) ?_ ?_
    rotate_left
    · (show Act.put _ (some 38) _ = _;simp only [Act.put,List.setIfInBounds_toArray,List.set_cons_zero,List.set_cons_succ];rfl)
    refine pure_ (i:=28) (N:=(some 39)) (v:=?_) (a':=?_) (lb 30 0x1fffffff) rfl rfl (by kernel_rfl) (fun _ _ _ h => h) (Or.inl ⟨by rfl,?_⟩) ?_ ?_
    rotate_left
    · (intro w';go_simp;with_reducible rfl)
    rotate_left
    · (simp only [Act.put,List.setIfInBounds_toArray,List.set_cons_zero,List.set_cons_succ];rfl)
    refine pure_ (i:=29) (N:=(some 4)) (v:=?_) (a':=?_) (lb 30 0x3fffffff) rfl rfl (by kernel_rfl) (fun _ _ _ h => h) (Or.inl ⟨by rfl,?_⟩) ?_ ?_
    rotate_left
    · (intro w';go_simp;with_reducible rfl)
    rotate_left
    · (simp only [Act.put,List.setIfInBounds_toArray,List.set_cons_zero,List.set_cons_succ];rfl)
    refine done_ (by kernel_rfl) ?_
    go_wp2
    go_ret
    exact ⟨ret_bool rfl,below_then HV.out HV.out.size hHeld⟩
  · go_upto_region 2 with (fail)
    refine pl_start ?_
    refine pl_held (B:=v0.heap.size) (v:=v0) (HX1.out) (fun hHeld => ?_)
    refine goesCL_ (N:=(some 8)) Try.func37 (by kernel_rfl) rfl (by rfl) rfl rfl (wakes07_c _) (by simp [Act.eval]) ?_
    rintro e x2_0 ⟨rfl,hb2_0⟩
    refine ⟨_,rfl,?_⟩
    simp only [Act.put,List.setIfInBounds_toArray,List.set_cons_zero,List.set_cons_succ]
    refine pl_held (B:=v0.heap.size) (v:=v0) (below_then hHeld hHeld.size hb2_0) (fun hHeld => ?_)
    refine pl_pure (N:=(some 4)) (v:=?v117) (by rfl) rfl ?h117 ?_
    case h117 => (go_simp;rfl)
    simp only [Act.put,List.setIfInBounds_toArray,List.set_cons_zero,List.set_cons_succ]
    refine pl_nil ?_
    go_wp2
    go_ret
    exact ⟨ret_bool rfl,below_then HB0.out HB0.out.size hHeld⟩
end Go.Proofs.Ytphmmppmhphgeaa
