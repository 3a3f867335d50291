/- The law ShowBack,walked: it answers true (printed by mkD10.py). -/
import Derived.Test.YtdpdbgaoaibafaaJQ
import Derived.Test.YtdpdbgaoaibafaaJN
import Derived.Test.YtdpdbgaoaibafaaJP
set_option linter.unusedVariables false
set_option linter.unusedSimpArgs false
namespace Go.Proofs.Ytdpdbgaoaibafaa
open Go.RowKit Go.Proofs.YtdpdbgaoaibafaaW.PrintWords Go.Proofs.YtdpdbgaoaibafaaW.PrintLast

theorem of_bad {s : ByteArray} {a p : Int} (h : ofF s = .error (a,p)) (w : World) : Calls Try.prog 23 #[.string s] w fun e w' => e = .returned (.tuple #[.agg #[.slice none 0 0,.slice none 0 0,.slice none 0 0],.agg #[.int .i64 a,.int .i64 p]]) ∧ Below w.heap.size w w':=by
  refine (of_c s w).mono ?_
  rw [h]
  rintro e w1 ⟨he,hb1⟩
  exact ⟨he,hb1⟩
set_option maxRecDepth 100000 in
set_option maxHeartbeats 16000000 in
theorem showBack_c (g : Gram) (A1 A2 A3 : Option Addr) (c1 c2 c3 : Nat) (s : ByteArray) (w : World) (hg : RepG w g A1 A2 A3 c1 c2 c3) (hz : Sized g) :
    Calls Try.prog 4 #[.agg #[.slice A1 g.terms.length c1,.slice A2 g.names.length c2,.slice A3 g.rules.length c3],.string s] w fun e w' => e = .returned (.bool true) ∧ Below w.heap.size w w':=by
  obtain ⟨v0,hv0⟩ : ∃ v0 : World,v0 = w.alloc (.cells #[.slice A1 g.terms.length c1,.slice A2 g.names.length c2,.slice A3 g.rules.length c3] 25 (0,0)):=⟨_,rfl⟩
  have HB0 : Aside0 (Below w.heap.size w v0):=⟨by rw [hv0];exact below_alloc (Below.refl _ _) _⟩
  have HP0 : Aside0 (v0.heap[w.heap.size]? = some (.cells #[.slice A1 g.terms.length c1,.slice A2 g.names.length c2,.slice A3 g.rules.length c3] 25 (0,0))):=⟨by rw [hv0];exact blk_new w _⟩
  have HG0:=Aside0.mk (hg.below_ HB0.out)
  clear hg hz
  obtain ⟨⟨t,x⟩,ho⟩ : ∃ o,textO g = o:=⟨_,rfl⟩
  have HO:=Lib.hid ho
  have ho2:=ho
  rw [textO] at ho2
  clear ho
  go_enter Try.func4,Try.ntmps4
  go_upto_region 1 with (fail)
  simp only [← hv0]
  clear hv0
  refine pl_start ?_
  refine pl_held (B:=v0.heap.size) (v:=v0) (Below.refl _ _) (fun hHeld => ?_)
  refine pp_ ?_ ?_ ?_ (y:=by have d0:=(blk_cell (blk_below HP0.out hHeld) 0).trans rfl;have d1:=(blk_cell (blk_below HP0.out hHeld) 1).trans rfl;have d2:=(blk_cell (blk_below HP0.out hHeld) 2).trans rfl;go_simp;rfl)
  refine goesCL_ (N:=(some 18)) Try.func15 (by kernel_rfl) rfl (by rfl) rfl rfl (large_c g A1 A2 A3 c1 c2 c3 _ (HG0.out.below_ hHeld)) (by simp [Act.eval]) ?_
  rintro e x1_1 ⟨⟨lb,rfl,hs⟩,hb1_1⟩
  refine ⟨_,rfl,?_⟩
  simp only [Act.put,List.setIfInBounds_toArray,List.set_cons_zero,List.set_cons_succ]
  clear hs
  refine pl_held (B:=v0.heap.size) (v:=v0) (below_then hHeld hHeld.size hb1_1) (fun hHeld => ?_)
  have HX1:=Aside0.mk hHeld
  cases lb
  · by_cases hl2 : 2000 < s.size
    · have d1 : decide ((2000 : Int) < (s.size : Int)) = true:=decide_eq_true (by omega)
      refine pp_ ?_ ?_ ?_
      refine pp_ ?_ ?_ ?_
      refine pp_ ?_ ?_ ?_
      refine pp_ ?_ ?_ ?_
      refine pp_ ?_ ?_ ?_
      refine pl_nil ?_
      go_upto_region 2 with (fail)
      refine pl_start ?_
      refine pl_held (B:=v0.heap.size) (v:=v0) (HX1.out) (fun hHeld => ?_)
      refine goesCL_ (N:=(some 24)) Try.func16 (by kernel_rfl) rfl (by rfl) rfl rfl (wakes04_c _) (by simp [Act.eval]) ?_
      rintro e x2_0 ⟨rfl,hb2_0⟩
      refine ⟨_,rfl,?_⟩
      simp only [Act.put,List.setIfInBounds_toArray,List.set_cons_zero,List.set_cons_succ]
      refine pl_held (B:=v0.heap.size) (v:=v0) (below_then hHeld hHeld.size hb2_0) (fun hHeld => ?_)
      refine pp_ ?_ ?_ ?_
      refine pl_nil ?_
      go_wp2
      go_ret
      exact ⟨ret_bool rfl,below_then HB0.out HB0.out.size hHeld⟩
    · have d1 : decide ((2000 : Int) < (s.size : Int)) = false:=decide_eq_false (by omega)
      refine pp_ ?_ ?_ ?_
      refine pp_ ?_ ?_ ?_
      refine pp_ ?_ ?_ ?_
      refine pp_ ?_ ?_ ?_
      refine pp_ ?_ ?_ ?_
      refine pl_nil ?_
      go_upto_region 3 with (fail)
      refine pl_start ?_
      refine pl_held (B:=v0.heap.size) (v:=v0) (HX1.out) (fun hHeld => ?_)
      refine pp_ ?_ ?_ ?_ (y:=by have d0:=(blk_cell (blk_below HP0.out hHeld) 0).trans rfl;have d1:=(blk_cell (blk_below HP0.out hHeld) 1).trans rfl;have d2:=(blk_cell (blk_below HP0.out hHeld) 2).trans rfl;go_simp;rfl)
      refine goesCL_ (N:=(some 27)) Try.func18 (by kernel_rfl) rfl (by rfl) rfl rfl (text_c g A1 A2 A3 c1 c2 c3 _ (HG0.out.below_ hHeld) HO.out) (by simp [Act.eval]) ?_
      rintro e x3_1 ⟨rfl,hb3_1⟩
      refine ⟨_,rfl,?_⟩
      simp only [Act.put,List.setIfInBounds_toArray,List.set_cons_zero,List.set_cons_succ]
      refine pl_held (B:=v0.heap.size) (v:=v0) (below_then hHeld hHeld.size hb3_1) (fun hHeld => ?_)
      refine pp_ ?_ ?_ ?_
      refine pp_ ?_ ?_ ?_
      refine pp_ ?_ ?_ ?_
      refine pp_ ?_ ?_ ?_
      refine pp_ ?_ ?_ ?_
      refine pl_nil ?_
      have HX3:=Aside0.mk hHeld
      clear hHeld hb3_1 hb1_1
      by_cases hx : goodF g = true ∧ ¬ 2000 < (textF g).size
      · rw [if_pos hx.1,if_neg hx.2] at ho2
        injection ho2 with e1 e2
        have HT:=Aside0.mk (of_text hx.1 (show (textF g).size ≤ 2000 by omega))
        rw [e1] at HT
        subst e2
        clear e1 hx
        go_upto_region 6 with (go_at_call 23;go_loud (refine (of_ok HT.out _).mono ?_;rintro e w0 ⟨⟨D1,D2,D3,Dc1,Dc2,Dc3,rfl,hg1⟩,hb1⟩;have HBw0:=Aside0.mk hb1;have HGw0:=Aside0.mk hg1;clear hg1 hb1))
        obtain ⟨va,hv⟩ : ∃ v,v = (w0.alloc (.cells #[.slice D1 g.terms.length Dc1,.slice D2 g.names.length Dc2,.slice D3 g.rules.length Dc3] 25 (0,0))).alloc (.cells #[.int .i64 0,.int .i64 0] 42 (0,0)):=⟨_,rfl⟩
        have KGw0 : Aside0 (va.heap[w0.heap.size]? = some (.cells #[.slice D1 g.terms.length Dc1,.slice D2 g.names.length Dc2,.slice D3 g.rules.length Dc3] 25 (0,0))):=⟨by rw [hv];exact blk_alloc (blk_new w0 _) _⟩
        have KFw0 : Aside0 (va.heap[w0.heap.size + 1]? = some (.cells #[.int .i64 0,.int .i64 0] 42 (0,0))):=⟨by rw [hv];exact blk_snd w0 _ _⟩
        have HGw0 : Aside0 (RepG va g D1 D2 D3 Dc1 Dc2 Dc3):=⟨by rw [hv];exact HGw0.out.below_ (below_alloc (below_alloc (Below.refl _ _) _) _)⟩
        have HBw0:=Aside0.mk (below_then HX3.out HX3.out.size ((HBw0.out.alloc HBw0.out.size (.cells #[.slice D1 g.terms.length Dc1,.slice D2 g.names.length Dc2,.slice D3 g.rules.length Dc3] 25 (0,0))).alloc (by simp;have:=HBw0.out.size;omega) (.cells #[.int .i64 0,.int .i64 0] 42 (0,0))))
        rw [← hv] at HBw0
        simp only [← hv]
        clear hv
        have KGg:=Aside0.mk (blk_below HP0.out HBw0.out)
        have HGg:=Aside0.mk (HG0.out.below_ HBw0.out)
        refine pl_start ?_
        refine pl_held (B:=va.heap.size) (v:=va) (Below.refl _ _) (fun hHeld => ?_)
        refine pp_ ?_ ?_ ?_
        refine pp_ ?_ ?_ ?_ (y:=by have d0:=(blk_cell (blk_below KGg.out hHeld) 0).trans rfl;have d1:=(blk_cell (blk_below KGg.out hHeld) 1).trans rfl;have d2:=(blk_cell (blk_below KGg.out hHeld) 2).trans rfl;have d3:=(blk_cell (blk_below KGw0.out hHeld) 0).trans rfl;have d4:=(blk_cell (blk_below KGw0.out hHeld) 1).trans rfl;have d5:=(blk_cell (blk_below KGw0.out hHeld) 2).trans rfl;have d6:=(blk_cell (blk_below KFw0.out hHeld) 0).trans rfl;have d7:=(blk_cell (blk_below KFw0.out hHeld) 1).trans rfl;go_simp;rfl)
        refine pp_ ?_ ?_ ?_
        refine pp_ ?_ ?_ ?_
        refine pp_ ?_ ?_ ?_ (y:=by have d0:=(blk_cell (blk_below KGg.out hHeld) 0).trans rfl;have d1:=(blk_cell (blk_below KGg.out hHeld) 1).trans rfl;have d2:=(blk_cell (blk_below KGg.out hHeld) 2).trans rfl;have d3:=(blk_cell (blk_below KGw0.out hHeld) 0).trans rfl;have d4:=(blk_cell (blk_below KGw0.out hHeld) 1).trans rfl;have d5:=(blk_cell (blk_below KGw0.out hHeld) 2).trans rfl;have d6:=(blk_cell (blk_below KFw0.out hHeld) 0).trans rfl;have d7:=(blk_cell (blk_below KFw0.out hHeld) 1).trans rfl;go_simp;rfl)
        refine pp_ ?_ ?_ ?_ (y:=by have d0:=(blk_cell (blk_below KGg.out hHeld) 0).trans rfl;have d1:=(blk_cell (blk_below KGg.out hHeld) 1).trans rfl;have d2:=(blk_cell (blk_below KGg.out hHeld) 2).trans rfl;have d3:=(blk_cell (blk_below KGw0.out hHeld) 0).trans rfl;have d4:=(blk_cell (blk_below KGw0.out hHeld) 1).trans rfl;have d5:=(blk_cell (blk_below KGw0.out hHeld) 2).trans rfl;have d6:=(blk_cell (blk_below KFw0.out hHeld) 0).trans rfl;have d7:=(blk_cell (blk_below KFw0.out hHeld) 1).trans rfl;go_simp;rfl)
        refine goesCL_ (N:=(some 43)) Try.func22 (by kernel_rfl) rfl (by rfl) rfl rfl (keepGrammar_v g A1 A2 A3 D1 D2 D3 c1 c2 c3 Dc1 Dc2 Dc3 _ (HGg.out.below_ hHeld) (HGw0.out.below_ hHeld)) (by simp [Act.eval]) ?_
        rintro e x6_6 ⟨rfl,hb6_6⟩
        refine ⟨_,rfl,?_⟩
        simp only [Act.put,List.setIfInBounds_toArray,List.set_cons_zero,List.set_cons_succ]
        refine pl_held (B:=va.heap.size) (v:=va) (below_then hHeld hHeld.size hb6_6) (fun hHeld => ?_)
        refine pp_ ?_ ?_ ?_
        refine pp_ ?_ ?_ ?_
        refine pl_nil ?_
        have HX6:=Aside0.mk (below_then HBw0.out HBw0.out.size hHeld)
        clear hHeld hb6_6
        cases hos : ofF s with
        | error er =>
          obtain ⟨a,p⟩:=er
          have ha:=(ofF_err hos).1
          have HOS:=Lib.hid hos
          clear hos
          go_upto_region 9 with (go_at_call 23;go_loud (refine (of_bad HOS.out _).mono ?_;rintro e w1 ⟨rfl,hb1⟩;have HBw1:=Aside0.mk hb1;clear hb1))
          obtain ⟨v1,hv⟩ : ∃ v,v = (w1.alloc (.cells #[.slice none 0 0,.slice none 0 0,.slice none 0 0] 25 (0,0))).alloc (.cells #[.int .i64 a,.int .i64 p] 42 (0,0)):=⟨_,rfl⟩
          have KFw1 : Aside0 (v1.heap[w1.heap.size + 1]? = some (.cells #[.int .i64 a,.int .i64 p] 42 (0,0))):=⟨by rw [hv];exact blk_snd w1 _ _⟩
          have HBw1:=Aside0.mk (below_then HX6.out HX6.out.size ((HBw1.out.alloc HBw1.out.size (.cells #[.slice none 0 0,.slice none 0 0,.slice none 0 0] 25 (0,0))).alloc (by simp;have:=HBw1.out.size;omega) (.cells #[.int .i64 a,.int .i64 p] 42 (0,0))))
          rw [← hv] at HBw1
          simp only [← hv]
          clear hv
          refine pl_start ?_
          refine pl_held (B:=v1.heap.size) (v:=v1) (Below.refl _ _) (fun hHeld => ?_)
          refine pp_ ?_ ?_ ?_
          refine pp_ ?_ ?_ ?_ (y:=by have d0:=(blk_cell (blk_below KFw1.out hHeld) 0).trans rfl;have d1:=(blk_cell (blk_below KFw1.out hHeld) 1).trans rfl;go_simp;rfl)
          refine pp_ ?_ ?_ ?_
          refine pl_nil ?_
          go_upto_region 10 with (fail)
          refine pl_start ?_
          refine pl_held (B:=v1.heap.size) (v:=v1) (Below.refl _ _) (fun hHeld => ?_)
          refine goesCL_ (N:=(some 54)) Try.func16 (by kernel_rfl) rfl (by rfl) rfl rfl (wakes04_c _) (by simp [Act.eval]) ?_
          rintro e x10_0 ⟨rfl,hb10_0⟩
          refine ⟨_,rfl,?_⟩
          simp only [Act.put,List.setIfInBounds_toArray,List.set_cons_zero,List.set_cons_succ]
          refine pl_held (B:=v1.heap.size) (v:=v1) (below_then hHeld hHeld.size hb10_0) (fun hHeld => ?_)
          refine pp_ ?_ ?_ ?_
          refine pl_nil ?_
          go_wp2
          go_ret
          exact ⟨ret_bool rfl,below_then HB0.out HB0.out.size (below_then HBw1.out HBw1.out.size hHeld)⟩
        | ok h =>
          have HGH:=Aside0.mk (ofF_good hos)
          have HOS:=Lib.hid hos
          clear hos
          go_upto_region 9 with (go_at_call 23;go_loud (refine (of_ok HOS.out _).mono ?_;rintro e w1 ⟨⟨B1,B2,B3,Bc1,Bc2,Bc3,rfl,hg1⟩,hb1⟩;have HBw1:=Aside0.mk hb1;have HGw1:=Aside0.mk hg1;clear hg1 hb1))
          obtain ⟨v1,hv⟩ : ∃ v,v = (w1.alloc (.cells #[.slice B1 h.terms.length Bc1,.slice B2 h.names.length Bc2,.slice B3 h.rules.length Bc3] 25 (0,0))).alloc (.cells #[.int .i64 0,.int .i64 0] 42 (0,0)):=⟨_,rfl⟩
          have KGw1 : Aside0 (v1.heap[w1.heap.size]? = some (.cells #[.slice B1 h.terms.length Bc1,.slice B2 h.names.length Bc2,.slice B3 h.rules.length Bc3] 25 (0,0))):=⟨by rw [hv];exact blk_alloc (blk_new w1 _) _⟩
          have KFw1 : Aside0 (v1.heap[w1.heap.size + 1]? = some (.cells #[.int .i64 0,.int .i64 0] 42 (0,0))):=⟨by rw [hv];exact blk_snd w1 _ _⟩
          have HGw1 : Aside0 (RepG v1 h B1 B2 B3 Bc1 Bc2 Bc3):=⟨by rw [hv];exact HGw1.out.below_ (below_alloc (below_alloc (Below.refl _ _) _) _)⟩
          have HBw1:=Aside0.mk (below_then HX6.out HX6.out.size ((HBw1.out.alloc HBw1.out.size (.cells #[.slice B1 h.terms.length Bc1,.slice B2 h.names.length Bc2,.slice B3 h.rules.length Bc3] 25 (0,0))).alloc (by simp;have:=HBw1.out.size;omega) (.cells #[.int .i64 0,.int .i64 0] 42 (0,0))))
          rw [← hv] at HBw1
          simp only [← hv]
          clear hv
          refine pl_start ?_
          refine pl_held (B:=v1.heap.size) (v:=v1) (Below.refl _ _) (fun hHeld => ?_)
          refine pp_ ?_ ?_ ?_
          refine pp_ ?_ ?_ ?_ (y:=by have d0:=(blk_cell (blk_below KFw1.out hHeld) 0).trans rfl;have d1:=(blk_cell (blk_below KFw1.out hHeld) 1).trans rfl;go_simp;rfl)
          refine pp_ ?_ ?_ ?_
          refine pl_nil ?_
          obtain ⟨⟨t2,x2⟩,hto⟩ : ∃ o,textO h = o:=⟨_,rfl⟩
          have HTO:=Lib.hid hto
          have hto2:=hto
          rw [textO,HGH.out,if_pos rfl] at hto2
          clear hto
          go_upto_region 11 with (fail)
          refine pl_start ?_
          refine pl_held (B:=v1.heap.size) (v:=v1) (hHeld) (fun hHeld => ?_)
          refine pp_ ?_ ?_ ?_ (y:=by have d0:=(blk_cell (blk_below KGw1.out hHeld) 0).trans rfl;have d1:=(blk_cell (blk_below KGw1.out hHeld) 1).trans rfl;have d2:=(blk_cell (blk_below KGw1.out hHeld) 2).trans rfl;go_simp;rfl)
          refine goesCL_ (N:=(some 57)) Try.func18 (by kernel_rfl) rfl (by rfl) rfl rfl (text_c h B1 B2 B3 Bc1 Bc2 Bc3 _ (HGw1.out.below_ hHeld) HTO.out) (by simp [Act.eval]) ?_
          rintro e x11_1 ⟨rfl,hb11_1⟩
          refine ⟨_,rfl,?_⟩
          simp only [Act.put,List.setIfInBounds_toArray,List.set_cons_zero,List.set_cons_succ]
          refine pl_held (B:=v1.heap.size) (v:=v1) (below_then hHeld hHeld.size hb11_1) (fun hHeld => ?_)
          refine pp_ ?_ ?_ ?_
          refine pp_ ?_ ?_ ?_
          refine pp_ ?_ ?_ ?_
          refine pp_ ?_ ?_ ?_
          refine pp_ ?_ ?_ ?_
          refine pl_nil ?_
          have HX11:=Aside0.mk hHeld
          clear hHeld hb11_1
          by_cases hbig : 2000 < (textF h).size
          · rw [if_pos hbig] at hto2
            injection hto2 with e1 e2
            subst e1 e2
            go_upto_region 13 with (fail)
            refine pl_start ?_
            refine pl_held (B:=v1.heap.size) (v:=v1) (HX11.out) (fun hHeld => ?_)
            refine pp_ ?_ ?_ ?_
            refine pp_ ?_ ?_ ?_
            refine pp_ ?_ ?_ ?_
            refine goesCL_ (N:=(some 65)) Try.func16 (by kernel_rfl) rfl (by rfl) rfl rfl (wakes04_c _) (by simp [Act.eval]) ?_
            rintro e x13_3 ⟨rfl,hb13_3⟩
            refine ⟨_,rfl,?_⟩
            simp only [Act.put,List.setIfInBounds_toArray,List.set_cons_zero,List.set_cons_succ]
            refine pl_held (B:=v1.heap.size) (v:=v1) (below_then hHeld hHeld.size hb13_3) (fun hHeld => ?_)
            refine pp_ ?_ ?_ ?_
            refine pp_ ?_ ?_ ?_
            refine pl_nil ?_
            go_wp2
            go_ret
            exact ⟨ret_bool rfl,below_then HB0.out HB0.out.size (below_then HBw1.out HBw1.out.size hHeld)⟩
          · rw [if_neg hbig] at hto2
            injection hto2 with e1 e2
            have HT:=Aside0.mk (of_text HGH.out (show (textF h).size ≤ 2000 by omega))
            rw [e1] at HT
            subst e2
            clear hbig e1
            go_upto_region 15 with (go_at_call 23;go_loud (refine (of_ok HT.out _).mono ?_;rintro e w2 ⟨⟨C1,C2,C3,Cc1,Cc2,Cc3,rfl,hg1⟩,hb1⟩;have HBw2:=Aside0.mk hb1;have HGw2:=Aside0.mk hg1;clear hg1 hb1))
            obtain ⟨v2,hv⟩ : ∃ v,v = (w2.alloc (.cells #[.slice C1 h.terms.length Cc1,.slice C2 h.names.length Cc2,.slice C3 h.rules.length Cc3] 25 (0,0))).alloc (.cells #[.int .i64 0,.int .i64 0] 42 (0,0)):=⟨_,rfl⟩
            have KGw2 : Aside0 (v2.heap[w2.heap.size]? = some (.cells #[.slice C1 h.terms.length Cc1,.slice C2 h.names.length Cc2,.slice C3 h.rules.length Cc3] 25 (0,0))):=⟨by rw [hv];exact blk_alloc (blk_new w2 _) _⟩
            have KFw2 : Aside0 (v2.heap[w2.heap.size + 1]? = some (.cells #[.int .i64 0,.int .i64 0] 42 (0,0))):=⟨by rw [hv];exact blk_snd w2 _ _⟩
            have HGw2 : Aside0 (RepG v2 h C1 C2 C3 Cc1 Cc2 Cc3):=⟨by rw [hv];exact HGw2.out.below_ (below_alloc (below_alloc (Below.refl _ _) _) _)⟩
            have HBw2:=Aside0.mk (below_then HX11.out HX11.out.size ((HBw2.out.alloc HBw2.out.size (.cells #[.slice C1 h.terms.length Cc1,.slice C2 h.names.length Cc2,.slice C3 h.rules.length Cc3] 25 (0,0))).alloc (by simp;have:=HBw2.out.size;omega) (.cells #[.int .i64 0,.int .i64 0] 42 (0,0))))
            rw [← hv] at HBw2
            simp only [← hv]
            clear hv
            refine pl_start ?_
            refine pl_held (B:=v2.heap.size) (v:=v2) (Below.refl _ _) (fun hHeld => ?_)
            refine pp_ ?_ ?_ ?_ (y:=by have d0:=(blk_cell (blk_below KGw2.out hHeld) 0).trans rfl;have d1:=(blk_cell (blk_below KGw2.out hHeld) 1).trans rfl;have d2:=(blk_cell (blk_below KGw2.out hHeld) 2).trans rfl;go_simp;rfl)
            refine goesCL_ (N:=(some 74)) Try.func18 (by kernel_rfl) rfl (by rfl) rfl rfl (text_c h C1 C2 C3 Cc1 Cc2 Cc3 _ (HGw2.out.below_ hHeld) HTO.out) (by simp [Act.eval]) ?_
            rintro e x15_1 ⟨rfl,hb15_1⟩
            refine ⟨_,rfl,?_⟩
            simp only [Act.put,List.setIfInBounds_toArray,List.set_cons_zero,List.set_cons_succ]
            refine pl_held (B:=v2.heap.size) (v:=v2) (below_then hHeld hHeld.size hb15_1) (fun hHeld => ?_)
            refine pp_ ?_ ?_ ?_
            refine pp_ ?_ ?_ ?_
            refine pp_ ?_ ?_ ?_
            refine pp_ ?_ ?_ ?_
            refine pp_ ?_ ?_ ?_
            refine pl_nil ?_
            have KGh:=Aside0.mk (blk_below KGw1.out HBw2.out)
            have HGh:=Aside0.mk (HGw1.out.below_ HBw2.out)
            go_upto_region 16 with (fail)
            refine pl_start ?_
            refine pl_held (B:=v2.heap.size) (v:=v2) (hHeld) (fun hHeld => ?_)
            refine pp_ ?_ ?_ ?_
            refine pp_ ?_ ?_ ?_ (y:=by have d0:=(blk_cell (blk_below KGh.out hHeld) 0).trans rfl;have d1:=(blk_cell (blk_below KGh.out hHeld) 1).trans rfl;have d2:=(blk_cell (blk_below KGh.out hHeld) 2).trans rfl;have d3:=(blk_cell (blk_below KGw2.out hHeld) 0).trans rfl;have d4:=(blk_cell (blk_below KGw2.out hHeld) 1).trans rfl;have d5:=(blk_cell (blk_below KGw2.out hHeld) 2).trans rfl;have d6:=(blk_cell (blk_below KFw2.out hHeld) 0).trans rfl;have d7:=(blk_cell (blk_below KFw2.out hHeld) 1).trans rfl;go_simp;rfl)
            refine pp_ ?_ ?_ ?_
            refine pp_ ?_ ?_ ?_
            refine pp_ ?_ ?_ ?_ (y:=by have d0:=(blk_cell (blk_below KGh.out hHeld) 0).trans rfl;have d1:=(blk_cell (blk_below KGh.out hHeld) 1).trans rfl;have d2:=(blk_cell (blk_below KGh.out hHeld) 2).trans rfl;have d3:=(blk_cell (blk_below KGw2.out hHeld) 0).trans rfl;have d4:=(blk_cell (blk_below KGw2.out hHeld) 1).trans rfl;have d5:=(blk_cell (blk_below KGw2.out hHeld) 2).trans rfl;have d6:=(blk_cell (blk_below KFw2.out hHeld) 0).trans rfl;have d7:=(blk_cell (blk_below KFw2.out hHeld) 1).trans rfl;go_simp;rfl)
            refine pp_ ?_ ?_ ?_ (y:=by have d0:=(blk_cell (blk_below KGh.out hHeld) 0).trans rfl;have d1:=(blk_cell (blk_below KGh.out hHeld) 1).trans rfl;have d2:=(blk_cell (blk_below KGh.out hHeld) 2).trans rfl;have d3:=(blk_cell (blk_below KGw2.out hHeld) 0).trans rfl;have d4:=(blk_cell (blk_below KGw2.out hHeld) 1).trans rfl;have d5:=(blk_cell (blk_below KGw2.out hHeld) 2).trans rfl;have d6:=(blk_cell (blk_below KFw2.out hHeld) 0).trans rfl;have d7:=(blk_cell (blk_below KFw2.out hHeld) 1).trans rfl;go_simp;rfl)
            refine goesCL_ (N:=(some 83)) Try.func22 (by kernel_rfl) rfl (by rfl) rfl rfl (keepGrammar_v h B1 B2 B3 C1 C2 C3 Bc1 Bc2 Bc3 Cc1 Cc2 Cc3 _ (HGh.out.below_ hHeld) (HGw2.out.below_ hHeld)) (by simp [Act.eval]) ?_
            rintro e x16_6 ⟨rfl,hb16_6⟩
            refine ⟨_,rfl,?_⟩
            simp only [Act.put,List.setIfInBounds_toArray,List.set_cons_zero,List.set_cons_succ]
            refine pl_held (B:=v2.heap.size) (v:=v2) (below_then hHeld hHeld.size hb16_6) (fun hHeld => ?_)
            refine pp_ ?_ ?_ ?_
            refine pp_ ?_ ?_ ?_
            refine pp_ ?_ ?_ ?_
            refine pp_ ?_ ?_ ?_
            refine pp_ ?_ ?_ ?_
            refine pp_ ?_ ?_ ?_
            refine pp_ ?_ ?_ ?_
            refine pp_ ?_ ?_ ?_
            refine pp_ (.bool true) ?_ ?_ (y:=by go_simp)
            refine pp_ ?_ ?_ ?_
            refine pp_ ?_ ?_ ?_
            refine goesCL_ (N:=(some 95)) Try.func16 (by kernel_rfl) rfl (by rfl) rfl rfl (wakes04_c _) (by simp [Act.eval]) ?_
            rintro e x16_18 ⟨rfl,hb16_18⟩
            refine ⟨_,rfl,?_⟩
            simp only [Act.put,List.setIfInBounds_toArray,List.set_cons_zero,List.set_cons_succ]
            refine pl_held (B:=v2.heap.size) (v:=v2) (below_then hHeld hHeld.size hb16_18) (fun hHeld => ?_)
            refine pp_ ?_ ?_ ?_
            refine pp_ ?_ ?_ ?_
            refine pl_nil ?_
            go_wp2
            go_ret
            exact ⟨ret_bool rfl,below_then HB0.out HB0.out.size (below_then HBw1.out HBw1.out.size (below_then HBw2.out HBw2.out.size hHeld))⟩
      · have hx0 : x ≠ 0:=by
          cases hgd : goodF g
          · rw [hgd,if_neg (by decide)] at ho2
            injection ho2 with e1 e2
            rw [← e2];decide
          · rw [hgd,if_pos rfl,if_pos (by rcases Nat.lt_or_ge 2000 (textF g).size with h | h;exact h;exact absurd ⟨hgd,by omega⟩ hx)] at ho2
            injection ho2 with e1 e2
            rw [← e2];decide
        clear hx ho2
        cases hos : ofF s with
        | error er =>
          obtain ⟨a,p⟩:=er
          have ha:=(ofF_err hos).1
          have HOS:=Lib.hid hos
          clear hos
          go_upto_region 9 with (go_at_call 23;go_loud (refine (of_bad HOS.out _).mono ?_;rintro e w1 ⟨rfl,hb1⟩;have HBw1:=Aside0.mk hb1;clear hb1))
          obtain ⟨v1,hv⟩ : ∃ v,v = (w1.alloc (.cells #[.slice none 0 0,.slice none 0 0,.slice none 0 0] 25 (0,0))).alloc (.cells #[.int .i64 a,.int .i64 p] 42 (0,0)):=⟨_,rfl⟩
          have KFw1 : Aside0 (v1.heap[w1.heap.size + 1]? = some (.cells #[.int .i64 a,.int .i64 p] 42 (0,0))):=⟨by rw [hv];exact blk_snd w1 _ _⟩
          have HBw1:=Aside0.mk (below_then HX3.out HX3.out.size ((HBw1.out.alloc HBw1.out.size (.cells #[.slice none 0 0,.slice none 0 0,.slice none 0 0] 25 (0,0))).alloc (by simp;have:=HBw1.out.size;omega) (.cells #[.int .i64 a,.int .i64 p] 42 (0,0))))
          rw [← hv] at HBw1
          simp only [← hv]
          clear hv
          refine pl_start ?_
          refine pl_held (B:=v1.heap.size) (v:=v1) (Below.refl _ _) (fun hHeld => ?_)
          refine pp_ ?_ ?_ ?_
          refine pp_ ?_ ?_ ?_ (y:=by have d0:=(blk_cell (blk_below KFw1.out hHeld) 0).trans rfl;have d1:=(blk_cell (blk_below KFw1.out hHeld) 1).trans rfl;go_simp;rfl)
          refine pp_ ?_ ?_ ?_
          refine pl_nil ?_
          go_upto_region 10 with (fail)
          refine pl_start ?_
          refine pl_held (B:=v1.heap.size) (v:=v1) (Below.refl _ _) (fun hHeld => ?_)
          refine goesCL_ (N:=(some 54)) Try.func16 (by kernel_rfl) rfl (by rfl) rfl rfl (wakes04_c _) (by simp [Act.eval]) ?_
          rintro e x10_0 ⟨rfl,hb10_0⟩
          refine ⟨_,rfl,?_⟩
          simp only [Act.put,List.setIfInBounds_toArray,List.set_cons_zero,List.set_cons_succ]
          refine pl_held (B:=v1.heap.size) (v:=v1) (below_then hHeld hHeld.size hb10_0) (fun hHeld => ?_)
          refine pp_ ?_ ?_ ?_
          refine pl_nil ?_
          go_wp2
          go_ret
          exact ⟨ret_bool rfl,below_then HB0.out HB0.out.size (below_then HBw1.out HBw1.out.size hHeld)⟩
        | ok h =>
          have HGH:=Aside0.mk (ofF_good hos)
          have HOS:=Lib.hid hos
          clear hos
          go_upto_region 9 with (go_at_call 23;go_loud (refine (of_ok HOS.out _).mono ?_;rintro e w1 ⟨⟨B1,B2,B3,Bc1,Bc2,Bc3,rfl,hg1⟩,hb1⟩;have HBw1:=Aside0.mk hb1;have HGw1:=Aside0.mk hg1;clear hg1 hb1))
          obtain ⟨v1,hv⟩ : ∃ v,v = (w1.alloc (.cells #[.slice B1 h.terms.length Bc1,.slice B2 h.names.length Bc2,.slice B3 h.rules.length Bc3] 25 (0,0))).alloc (.cells #[.int .i64 0,.int .i64 0] 42 (0,0)):=⟨_,rfl⟩
          have KGw1 : Aside0 (v1.heap[w1.heap.size]? = some (.cells #[.slice B1 h.terms.length Bc1,.slice B2 h.names.length Bc2,.slice B3 h.rules.length Bc3] 25 (0,0))):=⟨by rw [hv];exact blk_alloc (blk_new w1 _) _⟩
          have KFw1 : Aside0 (v1.heap[w1.heap.size + 1]? = some (.cells #[.int .i64 0,.int .i64 0] 42 (0,0))):=⟨by rw [hv];exact blk_snd w1 _ _⟩
          have HGw1 : Aside0 (RepG v1 h B1 B2 B3 Bc1 Bc2 Bc3):=⟨by rw [hv];exact HGw1.out.below_ (below_alloc (below_alloc (Below.refl _ _) _) _)⟩
          have HBw1:=Aside0.mk (below_then HX3.out HX3.out.size ((HBw1.out.alloc HBw1.out.size (.cells #[.slice B1 h.terms.length Bc1,.slice B2 h.names.length Bc2,.slice B3 h.rules.length Bc3] 25 (0,0))).alloc (by simp;have:=HBw1.out.size;omega) (.cells #[.int .i64 0,.int .i64 0] 42 (0,0))))
          rw [← hv] at HBw1
          simp only [← hv]
          clear hv
          refine pl_start ?_
          refine pl_held (B:=v1.heap.size) (v:=v1) (Below.refl _ _) (fun hHeld => ?_)
          refine pp_ ?_ ?_ ?_
          refine pp_ ?_ ?_ ?_ (y:=by have d0:=(blk_cell (blk_below KFw1.out hHeld) 0).trans rfl;have d1:=(blk_cell (blk_below KFw1.out hHeld) 1).trans rfl;go_simp;rfl)
          refine pp_ ?_ ?_ ?_
          refine pl_nil ?_
          obtain ⟨⟨t2,x2⟩,hto⟩ : ∃ o,textO h = o:=⟨_,rfl⟩
          have HTO:=Lib.hid hto
          have hto2:=hto
          rw [textO,HGH.out,if_pos rfl] at hto2
          clear hto
          go_upto_region 11 with (fail)
          refine pl_start ?_
          refine pl_held (B:=v1.heap.size) (v:=v1) (hHeld) (fun hHeld => ?_)
          refine pp_ ?_ ?_ ?_ (y:=by have d0:=(blk_cell (blk_below KGw1.out hHeld) 0).trans rfl;have d1:=(blk_cell (blk_below KGw1.out hHeld) 1).trans rfl;have d2:=(blk_cell (blk_below KGw1.out hHeld) 2).trans rfl;go_simp;rfl)
          refine goesCL_ (N:=(some 57)) Try.func18 (by kernel_rfl) rfl (by rfl) rfl rfl (text_c h B1 B2 B3 Bc1 Bc2 Bc3 _ (HGw1.out.below_ hHeld) HTO.out) (by simp [Act.eval]) ?_
          rintro e x11_1 ⟨rfl,hb11_1⟩
          refine ⟨_,rfl,?_⟩
          simp only [Act.put,List.setIfInBounds_toArray,List.set_cons_zero,List.set_cons_succ]
          refine pl_held (B:=v1.heap.size) (v:=v1) (below_then hHeld hHeld.size hb11_1) (fun hHeld => ?_)
          refine pp_ ?_ ?_ ?_
          refine pp_ ?_ ?_ ?_
          refine pp_ ?_ ?_ ?_
          refine pp_ ?_ ?_ ?_
          refine pp_ ?_ ?_ ?_
          refine pl_nil ?_
          have HX11:=Aside0.mk hHeld
          clear hHeld hb11_1
          by_cases hbig : 2000 < (textF h).size
          · rw [if_pos hbig] at hto2
            injection hto2 with e1 e2
            subst e1 e2
            go_upto_region 13 with (fail)
            refine pl_start ?_
            refine pl_held (B:=v1.heap.size) (v:=v1) (HX11.out) (fun hHeld => ?_)
            refine pp_ ?_ ?_ ?_
            refine pp_ ?_ ?_ ?_
            refine pp_ ?_ ?_ ?_
            refine goesCL_ (N:=(some 65)) Try.func16 (by kernel_rfl) rfl (by rfl) rfl rfl (wakes04_c _) (by simp [Act.eval]) ?_
            rintro e x13_3 ⟨rfl,hb13_3⟩
            refine ⟨_,rfl,?_⟩
            simp only [Act.put,List.setIfInBounds_toArray,List.set_cons_zero,List.set_cons_succ]
            refine pl_held (B:=v1.heap.size) (v:=v1) (below_then hHeld hHeld.size hb13_3) (fun hHeld => ?_)
            refine pp_ ?_ ?_ ?_
            refine pp_ ?_ ?_ ?_
            refine pl_nil ?_
            go_wp2
            go_ret
            exact ⟨ret_bool rfl,below_then HB0.out HB0.out.size (below_then HBw1.out HBw1.out.size hHeld)⟩
          · rw [if_neg hbig] at hto2
            injection hto2 with e1 e2
            have HT:=Aside0.mk (of_text HGH.out (show (textF h).size ≤ 2000 by omega))
            rw [e1] at HT
            subst e2
            clear hbig e1
            go_upto_region 15 with (go_at_call 23;go_loud (refine (of_ok HT.out _).mono ?_;rintro e w2 ⟨⟨C1,C2,C3,Cc1,Cc2,Cc3,rfl,hg1⟩,hb1⟩;have HBw2:=Aside0.mk hb1;have HGw2:=Aside0.mk hg1;clear hg1 hb1))
            obtain ⟨v2,hv⟩ : ∃ v,v = (w2.alloc (.cells #[.slice C1 h.terms.length Cc1,.slice C2 h.names.length Cc2,.slice C3 h.rules.length Cc3] 25 (0,0))).alloc (.cells #[.int .i64 0,.int .i64 0] 42 (0,0)):=⟨_,rfl⟩
            have KGw2 : Aside0 (v2.heap[w2.heap.size]? = some (.cells #[.slice C1 h.terms.length Cc1,.slice C2 h.names.length Cc2,.slice C3 h.rules.length Cc3] 25 (0,0))):=⟨by rw [hv];exact blk_alloc (blk_new w2 _) _⟩
            have KFw2 : Aside0 (v2.heap[w2.heap.size + 1]? = some (.cells #[.int .i64 0,.int .i64 0] 42 (0,0))):=⟨by rw [hv];exact blk_snd w2 _ _⟩
            have HGw2 : Aside0 (RepG v2 h C1 C2 C3 Cc1 Cc2 Cc3):=⟨by rw [hv];exact HGw2.out.below_ (below_alloc (below_alloc (Below.refl _ _) _) _)⟩
            have HBw2:=Aside0.mk (below_then HX11.out HX11.out.size ((HBw2.out.alloc HBw2.out.size (.cells #[.slice C1 h.terms.length Cc1,.slice C2 h.names.length Cc2,.slice C3 h.rules.length Cc3] 25 (0,0))).alloc (by simp;have:=HBw2.out.size;omega) (.cells #[.int .i64 0,.int .i64 0] 42 (0,0))))
            rw [← hv] at HBw2
            simp only [← hv]
            clear hv
            refine pl_start ?_
            refine pl_held (B:=v2.heap.size) (v:=v2) (Below.refl _ _) (fun hHeld => ?_)
            refine pp_ ?_ ?_ ?_ (y:=by have d0:=(blk_cell (blk_below KGw2.out hHeld) 0).trans rfl;have d1:=(blk_cell (blk_below KGw2.out hHeld) 1).trans rfl;have d2:=(blk_cell (blk_below KGw2.out hHeld) 2).trans rfl;go_simp;rfl)
            refine goesCL_ (N:=(some 74)) Try.func18 (by kernel_rfl) rfl (by rfl) rfl rfl (text_c h C1 C2 C3 Cc1 Cc2 Cc3 _ (HGw2.out.below_ hHeld) HTO.out) (by simp [Act.eval]) ?_
            rintro e x15_1 ⟨rfl,hb15_1⟩
            refine ⟨_,rfl,?_⟩
            simp only [Act.put,List.setIfInBounds_toArray,List.set_cons_zero,List.set_cons_succ]
            refine pl_held (B:=v2.heap.size) (v:=v2) (below_then hHeld hHeld.size hb15_1) (fun hHeld => ?_)
            refine pp_ ?_ ?_ ?_
            refine pp_ ?_ ?_ ?_
            refine pp_ ?_ ?_ ?_
            refine pp_ ?_ ?_ ?_
            refine pp_ ?_ ?_ ?_
            refine pl_nil ?_
            have KGh:=Aside0.mk (blk_below KGw1.out HBw2.out)
            have HGh:=Aside0.mk (HGw1.out.below_ HBw2.out)
            go_upto_region 16 with (fail)
            refine pl_start ?_
            refine pl_held (B:=v2.heap.size) (v:=v2) (hHeld) (fun hHeld => ?_)
            refine pp_ ?_ ?_ ?_
            refine pp_ ?_ ?_ ?_ (y:=by have d0:=(blk_cell (blk_below KGh.out hHeld) 0).trans rfl;have d1:=(blk_cell (blk_below KGh.out hHeld) 1).trans rfl;have d2:=(blk_cell (blk_below KGh.out hHeld) 2).trans rfl;have d3:=(blk_cell (blk_below KGw2.out hHeld) 0).trans rfl;have d4:=(blk_cell (blk_below KGw2.out hHeld) 1).trans rfl;have d5:=(blk_cell (blk_below KGw2.out hHeld) 2).trans rfl;have d6:=(blk_cell (blk_below KFw2.out hHeld) 0).trans rfl;have d7:=(blk_cell (blk_below KFw2.out hHeld) 1).trans rfl;go_simp;rfl)
            refine pp_ ?_ ?_ ?_
            refine pp_ ?_ ?_ ?_
            refine pp_ ?_ ?_ ?_ (y:=by have d0:=(blk_cell (blk_below KGh.out hHeld) 0).trans rfl;have d1:=(blk_cell (blk_below KGh.out hHeld) 1).trans rfl;have d2:=(blk_cell (blk_below KGh.out hHeld) 2).trans rfl;have d3:=(blk_cell (blk_below KGw2.out hHeld) 0).trans rfl;have d4:=(blk_cell (blk_below KGw2.out hHeld) 1).trans rfl;have d5:=(blk_cell (blk_below KGw2.out hHeld) 2).trans rfl;have d6:=(blk_cell (blk_below KFw2.out hHeld) 0).trans rfl;have d7:=(blk_cell (blk_below KFw2.out hHeld) 1).trans rfl;go_simp;rfl)
            refine pp_ ?_ ?_ ?_ (y:=by have d0:=(blk_cell (blk_below KGh.out hHeld) 0).trans rfl;have d1:=(blk_cell (blk_below KGh.out hHeld) 1).trans rfl;have d2:=(blk_cell (blk_below KGh.out hHeld) 2).trans rfl;have d3:=(blk_cell (blk_below KGw2.out hHeld) 0).trans rfl;have d4:=(blk_cell (blk_below KGw2.out hHeld) 1).trans rfl;have d5:=(blk_cell (blk_below KGw2.out hHeld) 2).trans rfl;have d6:=(blk_cell (blk_below KFw2.out hHeld) 0).trans rfl;have d7:=(blk_cell (blk_below KFw2.out hHeld) 1).trans rfl;go_simp;rfl)
            refine goesCL_ (N:=(some 83)) Try.func22 (by kernel_rfl) rfl (by rfl) rfl rfl (keepGrammar_v h B1 B2 B3 C1 C2 C3 Bc1 Bc2 Bc3 Cc1 Cc2 Cc3 _ (HGh.out.below_ hHeld) (HGw2.out.below_ hHeld)) (by simp [Act.eval]) ?_
            rintro e x16_6 ⟨rfl,hb16_6⟩
            refine ⟨_,rfl,?_⟩
            simp only [Act.put,List.setIfInBounds_toArray,List.set_cons_zero,List.set_cons_succ]
            refine pl_held (B:=v2.heap.size) (v:=v2) (below_then hHeld hHeld.size hb16_6) (fun hHeld => ?_)
            refine pp_ ?_ ?_ ?_
            refine pp_ ?_ ?_ ?_
            refine pp_ ?_ ?_ ?_
            refine pp_ ?_ ?_ ?_
            refine pp_ ?_ ?_ ?_
            refine pp_ ?_ ?_ ?_
            refine pp_ ?_ ?_ ?_
            refine pp_ ?_ ?_ ?_
            refine pp_ (.bool true) ?_ ?_ (y:=by go_simp)
            refine pp_ ?_ ?_ ?_
            refine pp_ ?_ ?_ ?_
            refine goesCL_ (N:=(some 95)) Try.func16 (by kernel_rfl) rfl (by rfl) rfl rfl (wakes04_c _) (by simp [Act.eval]) ?_
            rintro e x16_18 ⟨rfl,hb16_18⟩
            refine ⟨_,rfl,?_⟩
            simp only [Act.put,List.setIfInBounds_toArray,List.set_cons_zero,List.set_cons_succ]
            refine pl_held (B:=v2.heap.size) (v:=v2) (below_then hHeld hHeld.size hb16_18) (fun hHeld => ?_)
            refine pp_ ?_ ?_ ?_
            refine pp_ ?_ ?_ ?_
            refine pl_nil ?_
            go_wp2
            go_ret
            exact ⟨ret_bool rfl,below_then HB0.out HB0.out.size (below_then HBw1.out HBw1.out.size (below_then HBw2.out HBw2.out.size hHeld))⟩
  · refine pp_ ?_ ?_ ?_
    refine pf_ ?_ ?_
    refine pf_ ?_ ?_
    refine pf_ ?_ ?_
    refine pp_ ?_ ?_ ?_
    refine pl_nil ?_
    go_upto_region 2 with (fail)
    refine pl_start ?_
    refine pl_held (B:=v0.heap.size) (v:=v0) (HX1.out) (fun hHeld => ?_)
    refine goesCL_ (N:=(some 24)) Try.func16 (by kernel_rfl) rfl (by rfl) rfl rfl (wakes04_c _) (by simp [Act.eval]) ?_
    rintro e x2_0 ⟨rfl,hb2_0⟩
    refine ⟨_,rfl,?_⟩
    simp only [Act.put,List.setIfInBounds_toArray,List.set_cons_zero,List.set_cons_succ]
    refine pl_held (B:=v0.heap.size) (v:=v0) (below_then hHeld hHeld.size hb2_0) (fun hHeld => ?_)
    refine pp_ ?_ ?_ ?_
    refine pl_nil ?_
    go_wp2
    go_ret
    exact ⟨ret_bool rfl,below_then HB0.out HB0.out.size hHeld⟩
end Go.Proofs.Ytdpdbgaoaibafaa
