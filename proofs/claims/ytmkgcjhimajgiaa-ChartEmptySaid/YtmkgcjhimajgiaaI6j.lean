/- The law ChartEmpty,walked: it answers true. -/
import Derived.Test.YtmkgcjhimajgiaaI2j
import Derived.Test.YtmkgcjhimajgiaaJI
import Derived.Test.YtmkgcjhimajgiaaP35j
import Derived.Test.YtmkgcjhimajgiaaJK
set_option linter.unusedVariables false
set_option linter.unusedSimpArgs false
namespace Go.Proofs.Ytmkgcjhimajgiaa
open Go.RowKit Go.Proofs.YtmkgcjhimajgiaaW.PrintWords Go.Proofs.YtmkgcjhimajgiaaW.PrintLast Go.Conc

def othN (nu : List Bool) (l : List Int) (k m : Nat) : Bool:=(List.range m).all fun j => decide (j = k) || getB nu (l.getD j 0)
theorem othN_succ (nu : List Bool) (l : List Int) (k m : Nat) : othN nu l k (m + 1) = (othN nu l k m && (decide (m = k) || getB nu (l.getD m 0))):=by
  unfold othN;rw [List.range_succ,List.all_append];simp
theorem othN_end (nu : List Bool) (l : List Int) (k : Nat) : othN nu l k l.length = othB nu l k:=rfl
theorem othN_false {nu : List Bool} {l : List Int} {k j : Nat} (hj : j ≤ l.length) (h : othN nu l k j = false) : othB nu l k = false:=by
  rw [Bool.eq_false_iff] at *
  intro h2
  apply h
  unfold othB at h2
  unfold othN
  rw [List.all_eq_true] at *
  exact fun a ha => h2 a (List.mem_range.2 (by have:=List.mem_range.1 ha;omega))
theorem set_or {M : List Bool} {i : Nat} {a c : Bool} (hi : i < M.length) (hc : getB M (i : Int) = c) : M.set i (c || a) = if a = true then setB M (i : Int) else M:=by
  have key : M.set i (getB M (i : Int)) = M:=by
    rw [getB_at hi]
    exact List.set_getElem_self hi
  cases a
  · rw [Bool.or_false,← hc,key];rfl
  · rw [Bool.or_true];rfl

theorem bb_or {W : World} {b lf : Nat} {M : List Bool} {a c : Bool} (h : BB W b M) (hi : lf < M.length) (hc : getB M (lf : Int) = c) : BB (W.setCell ⟨b,lf,none⟩ (.bool (c || a))) b (if a = true then setB M (lf : Int) else M):=by
  rw [← set_or hi hc];exact h.set lf _
set_option maxRecDepth 100000 in
set_option maxHeartbeats 16000000 in
theorem chartEmpty_c (g : Gram) (A1 A2 A3 : Option Addr) (c1 c2 c3 : Nat) (xt : Int) (w : World) (hg : RepG w g A1 A2 A3 c1 c2 c3) (hz : Sized g) (hxt : 0 ≤ xt ∧ xt ≤ 255) :
    Calls Try.prog 8 #[.agg #[.slice A1 g.terms.length c1,.slice A2 g.names.length c2,.slice A3 g.rules.length c3],.int .u8 xt] w fun e w' => e = .returned (.bool true) ∧ Below w.heap.size w w':=by
  obtain ⟨x0,hx0⟩ : ∃ x0,x0 = w.heap.size:=⟨_,rfl⟩
  obtain ⟨v0,hv0⟩ : ∃ v0 : World,v0 = w.alloc (.cells #[.slice A1 g.terms.length c1,.slice A2 g.names.length c2,.slice A3 g.rules.length c3] 25 (0,0)):=⟨_,rfl⟩
  have HB0 : Aside0 (Below w.heap.size w v0):=⟨by rw [hv0];exact (Below.refl w.heap.size w).alloc (Nat.le_refl _) _⟩
  have HP0 : Aside0 (v0.heap[x0]? = some (.cells #[.slice A1 g.terms.length c1,.slice A2 g.names.length c2,.slice A3 g.rules.length c3] 25 (0,0))):=⟨by rw [hv0,hx0];exact blk_new w _⟩
  have HG0:=Aside0.mk (hg.below_ HB0.out)
  have HZ:=Aside0.mk hz
  have HXT:=Aside0.mk hxt
  have HNIL : Aside0 (kInt.C w none ([] : List Int).length []):=⟨C_none _ _⟩
  obtain ⟨gv,hgv⟩ : ∃ gv,goodF g = gv:=⟨_,rfl⟩
  have HGV:=Lib.hid hgv
  obtain ⟨t0,ht0⟩ : ∃ b,decide (g.terms.length = 0) = b:=⟨_,rfl⟩
  have i0 : decide ((g.terms.length : Int) = 0) = t0:=by rw [← ht0,decide_eq_decide];omega
  have i1 : ((g.terms.length : Int) == 0) = t0:=by rw [← i0];rfl
  have HT0:=Lib.hid ht0
  clear hg hz hgv hxt ht0
  go_enter Try.func8,Try.ntmps8
  go_upto_region 1 with (fail)
  simp only [← hv0]
  simp only [← hx0]
  have HX0:=Lib.hid hx0
  clear hv0 hx0
  refine pl_start ?_
  refine pl_held (B:=v0.heap.size) (v:=v0) (Below.refl _ _) (fun hHeld => ?_)
  refine pp_ ?_ ?_ ?_ (y:=by have d0:=(blk_cell (blk_below HP0.out hHeld) 0).trans rfl;have d1:=(blk_cell (blk_below HP0.out hHeld) 1).trans rfl;have d2:=(blk_cell (blk_below HP0.out hHeld) 2).trans rfl;go_simp;rfl)
  refine goesCL_ (N:=(some 20)) Try.func15 (by kernel_rfl) rfl (by rfl) rfl rfl (small24_c g A1 A2 A3 c1 c2 c3 none 0 [] _ (HG0.out.below_ hHeld) HZ.out) (by simp [Act.eval]) ?_
  rintro e x1_1 ⟨⟨sv,rfl,hsm⟩,hb1_1⟩
  refine ⟨_,rfl,?_⟩
  simp only [Act.put,List.setIfInBounds_toArray,List.set_cons_zero,List.set_cons_succ]
  refine pl_held (B:=v0.heap.size) (v:=v0) (below_then hHeld hHeld.size hb1_1) (fun hHeld => ?_)
  cases sv
  · clear hsm
    refine pl_held (B:=v0.heap.size) (v:=v0) (hHeld) (fun hHeld => ?_)
    refine pp_ ?_ ?_ ?_
    refine pp_ ?_ ?_ ?_
    refine pf_ ?_ ?_
    refine pf_ ?_ ?_
    refine pf_ ?_ ?_
    refine pp_ ?_ ?_ ?_
    refine pp_ ?_ ?_ ?_
    refine pf_ ?_ ?_
    refine pf_ ?_ ?_
    refine pf_ ?_ ?_
    refine pf_ ?_ ?_
    refine pp_ ?_ ?_ ?_
    refine pl_nil ?_
    go_wp2_with (go_at_call 16;refine (wakes24_c _).mono ?_;rintro e w9 ⟨rfl,hb9⟩)
    go_ret
    exact ⟨rfl,below_then (below_then HB0.out HB0.out.size hHeld) (below_then HB0.out HB0.out.size hHeld).size hb9⟩
  have HSM:=Aside0.mk (hsm rfl)
  clear hsm
  cases gv
  · refine pl_held (B:=v0.heap.size) (v:=v0) (hHeld) (fun hHeld => ?_)
    refine pp_ ?_ ?_ ?_
    refine pp_ ?_ ?_ ?_
    refine pp_ ?_ ?_ ?_ (y:=by have d0:=(blk_cell (blk_below HP0.out hHeld) 0).trans rfl;have d1:=(blk_cell (blk_below HP0.out hHeld) 1).trans rfl;have d2:=(blk_cell (blk_below HP0.out hHeld) 2).trans rfl;go_simp;rfl)
    refine goesCL_ (N:=(some 24)) Try.func28 (by kernel_rfl) rfl (by rfl) rfl rfl (good1_v g A1 A2 A3 c1 c2 c3 _ (HG0.out.below_ hHeld) HZ.out HGV.out) (by simp [Act.eval]) ?_
    rintro e x1_5 ⟨rfl,hb1_5⟩
    refine ⟨_,rfl,?_⟩
    simp only [Act.put,List.setIfInBounds_toArray,List.set_cons_zero,List.set_cons_succ]
    refine pl_held (B:=v0.heap.size) (v:=v0) (below_then hHeld hHeld.size hb1_5) (fun hHeld => ?_)
    refine pp_ ?_ ?_ ?_
    refine pp_ ?_ ?_ ?_
    refine pp_ ?_ ?_ ?_
    refine pf_ ?_ ?_
    refine pf_ ?_ ?_
    refine pf_ ?_ ?_
    refine pf_ ?_ ?_
    refine pp_ ?_ ?_ ?_
    refine pl_nil ?_
    go_wp2_with (go_at_call 16;refine (wakes24_c _).mono ?_;rintro e w9 ⟨rfl,hb9⟩)
    go_ret
    exact ⟨rfl,below_then (below_then HB0.out HB0.out.size hHeld) (below_then HB0.out HB0.out.size hHeld).size hb9⟩
  refine pl_held (B:=v0.heap.size) (v:=v0) (hHeld) (fun hHeld => ?_)
  refine pp_ ?_ ?_ ?_
  refine pp_ ?_ ?_ ?_
  refine pp_ ?_ ?_ ?_ (y:=by have d0:=(blk_cell (blk_below HP0.out hHeld) 0).trans rfl;have d1:=(blk_cell (blk_below HP0.out hHeld) 1).trans rfl;have d2:=(blk_cell (blk_below HP0.out hHeld) 2).trans rfl;go_simp;rfl)
  refine goesCL_ (N:=(some 24)) Try.func28 (by kernel_rfl) rfl (by rfl) rfl rfl (good1_v g A1 A2 A3 c1 c2 c3 _ (HG0.out.below_ hHeld) HZ.out HGV.out) (by simp [Act.eval]) ?_
  rintro e x1_5 ⟨rfl,hb1_5⟩
  refine ⟨_,rfl,?_⟩
  simp only [Act.put,List.setIfInBounds_toArray,List.set_cons_zero,List.set_cons_succ]
  refine pl_held (B:=v0.heap.size) (v:=v0) (below_then hHeld hHeld.size hb1_5) (fun hHeld => ?_)
  refine pp_ ?_ ?_ ?_
  refine pp_ ?_ ?_ ?_
  refine pp_ ?_ ?_ ?_
  refine pp_ ?_ ?_ ?_
  refine pp_ ?_ ?_ ?_ (y:=by have d0:=(blk_cell (blk_below HP0.out hHeld) 0).trans rfl;have d1:=(blk_cell (blk_below HP0.out hHeld) 1).trans rfl;have d2:=(blk_cell (blk_below HP0.out hHeld) 2).trans rfl;go_simp;rfl)
  refine pp_ ?_ ?_ ?_
  refine pp_ ?_ ?_ ?_
  refine pp_ ?_ ?_ ?_
  refine pl_nil ?_
  cases t0
  case true =>
    go_wp2_with (go_at_call 16;refine (wakes24_c _).mono ?_;rintro e w9 ⟨rfl,hb9⟩)
    go_ret
    exact ⟨rfl,below_then (below_then HB0.out HB0.out.size hHeld) (below_then HB0.out HB0.out.size hHeld).size hb9⟩
  have htp : 0 < g.terms.length:=by have:=of_decide_eq_false HT0.out;omega
  clear i0 i1
  obtain ⟨q1,q2,q3,q4⟩:=goodF_small HGV.out
  obtain ⟨n,hn⟩ : ∃ n,nsym g = n:=⟨_,rfl⟩
  have hn80 : n ≤ 80:=by rw [← hn];unfold nsym;omega
  have hnT : g.terms.length < n:=by rw [← hn];unfold nsym;omega
  have e1 : IntKind.i64.wrap ((g.terms.length : Int) + (g.names.length : Int)) = (n : Int):=by rw [IntWalk.i64_in _ (by omega),← hn];unfold nsym;omega
  have HN:=Lib.hid hn
  clear hn
  obtain ⟨t,ht⟩ : ∃ t : Nat,xt % (g.terms.length : Int) = t:=⟨(xt % (g.terms.length : Int)).toNat,by have:=Int.emod_nonneg xt (show (g.terms.length : Int) ≠ 0 by omega);omega⟩
  have htt : t < g.terms.length:=by have:=Int.emod_lt_of_pos xt (show (0 : Int) < g.terms.length by omega);omega
  have t1 : IntKind.i64.wrap xt = xt:=by have:=HXT.out;rw [IntWalk.i64_in _ (by omega)]
  have t2 : xt.tmod (g.terms.length : Int) = (t : Int):=by rw [Int.tmod_eq_emod_of_nonneg HXT.out.1,ht]
  have hnz : ¬ g.terms = []:=by intro h;rw [h] at htp;simp at htp
  have hnz2 : ¬ g.terms.length = 0:=by omega
  have HTT:=Aside0.mk htt
  clear ht
  go_upto_region 3 with (fail)
  refine pl_start ?_
  refine pl_held (B:=v0.heap.size) (v:=v0) (hHeld) (fun hHeld => ?_)
  refine pp_ ?_ ?_ ?_ (y:=by have d0:=(blk_cell (blk_below HP0.out hHeld) 0).trans rfl;have d1:=(blk_cell (blk_below HP0.out hHeld) 1).trans rfl;have d2:=(blk_cell (blk_below HP0.out hHeld) 2).trans rfl;go_simp;rfl)
  refine goesCL_ (N:=(some 36)) Try.func17 (by kernel_rfl) rfl (by rfl) rfl rfl (ofC_yes g A1 A2 A3 c1 c2 c3 none 0 [] _ (HG0.out.below_ hHeld) (C_none _ _) HGV.out (by simp) (by simp)) (by simp [Act.eval]) ?_
  rintro e x3_1 ⟨⟨k,rfl,hcf,hlo⟩,hb3_1⟩
  refine ⟨_,rfl,?_⟩
  simp only [Act.put,List.setIfInBounds_toArray,List.set_cons_zero,List.set_cons_succ]
  refine pl_held (B:=v0.heap.size) (v:=v0) (below_then hHeld hHeld.size hb3_1) (fun hHeld => ?_)
  refine pp_ ?_ ?_ ?_
  refine pp_ ?_ ?_ ?_
  refine pp_ ?_ ?_ ?_
  refine pp_ ?_ ?_ ?_
  refine pp_ ?_ ?_ ?_
  refine pl_nil ?_
  have HC3:=Aside0.mk hcf
  have a0:=(blk_cell (blk_below HP0.out hHeld) 0).trans rfl
  clear hcf
  go_upto_region 5 with (fail)
  clear a0 t1 t2 hnz
  refine pl_start ?_
  refine pl_held (B:=v0.heap.size) (v:=v0) (hHeld) (fun hHeld => ?_)
  refine pp_ ?_ ?_ ?_ (y:=by have d0:=(blk_cell (blk_below HP0.out hHeld) 0).trans rfl;have d1:=(blk_cell (blk_below HP0.out hHeld) 1).trans rfl;have d2:=(blk_cell (blk_below HP0.out hHeld) 2).trans rfl;go_simp;rfl)
  refine pp_ ?_ ?_ ?_
  refine pl_alloc (N:=(some 48)) (v:=?v48) (o:=?o48) (by rfl) rfl ?h48 ?_
  case h48 => (go_simp;first | rfl | (constructor;rfl;rfl))
  intro x5_2 hb5_2 hx5_2 hs5_2 hq5_2
  simp only [Act.put,List.setIfInBounds_toArray,List.set_cons_zero,List.set_cons_succ]
  refine pl_held (B:=v0.heap.size) (v:=v0) (below_then hHeld hHeld.size hb5_2) (fun hHeld => ?_)
  refine goesCL_ (N:=(some 49)) Try.func17 (by kernel_rfl) rfl (by rfl) rfl rfl (ofC_yes g A1 A2 A3 c1 c2 c3 (some ⟨x3_1.heap.size,0,none⟩) 1 [(t : Int)] _ (HG0.out.below_ hHeld) (by rw [hq5_2.out];exact C_lit x3_1 [(t : Int)] (by simp)) HGV.out (by simp) (by intro y hy;rw [List.mem_singleton.1 hy];omega)) (by simp [Act.eval]) ?_
  rintro e x5_3 ⟨⟨k2,rfl,hcf2,hlo2⟩,hb5_3⟩
  refine ⟨_,rfl,?_⟩
  simp only [Act.put,List.setIfInBounds_toArray,List.set_cons_zero,List.set_cons_succ]
  refine pl_held (B:=v0.heap.size) (v:=v0) (below_then hHeld hHeld.size hb5_3) (fun hHeld => ?_)
  refine pp_ ?_ ?_ ?_
  refine pp_ ?_ ?_ ?_
  refine pp_ ?_ ?_ ?_
  refine pp_ ?_ ?_ ?_
  refine pp_ ?_ ?_ ?_
  refine pl_nil ?_
  have HC5:=Aside0.mk ((HC3.out.below_ hb5_2).below_ hb5_3)
  have HD5:=Aside0.mk hcf2
  clear hcf2
  go_upto_region 6 with (fail)
  refine pl_start ?_
  refine pl_held (B:=v0.heap.size) (v:=v0) (hHeld) (fun hHeld => ?_)
  refine pp_ ?_ ?_ ?_ (y:=by have d0:=(blk_cell (blk_below HP0.out hHeld) 0).trans rfl;have d1:=(blk_cell (blk_below HP0.out hHeld) 1).trans rfl;have d2:=(blk_cell (blk_below HP0.out hHeld) 2).trans rfl;go_simp;rfl)
  refine goesCL_ (N:=(some 53)) Try.func31 (by kernel_rfl) rfl (by rfl) rfl rfl (ofN_yes g A1 A2 A3 c1 c2 c3 _ (HG0.out.below_ hHeld) HGV.out) (by simp [Act.eval]) ?_
  rintro e x6_1 ⟨⟨bn,rfl,hbn,hbl⟩,hb6_1⟩
  refine ⟨_,rfl,?_⟩
  simp only [Act.put,List.setIfInBounds_toArray,List.set_cons_zero,List.set_cons_succ]
  refine pl_held (B:=v0.heap.size) (v:=v0) (below_then hHeld hHeld.size hb6_1) (fun hHeld => ?_)
  refine pp_ ?_ ?_ ?_
  refine pl_nil ?_
  have HC:=Aside0.mk (HC5.out.below_ hb6_1)
  have HD:=Aside0.mk (HD5.out.below_ hb6_1)
  have HNU:=Aside0.mk hbn
  have HP:=Aside0.mk (blk_below HP0.out hHeld)
  have HG:=Aside0.mk (HG0.out.below_ hHeld)
  have HBv:=Aside0.mk (below_then HB0.out HB0.out.size hHeld)
  obtain ⟨v,hv⟩ : ∃ v,v = x6_1:=⟨_,rfl⟩
  rw [← hv] at HC HD HNU HP HG HBv ⊢
  have HNL : Aside0 ((nullF g).length = n):=⟨by rw [nullF_len HGV.out,HN.out]⟩
  have HS0 : Hid (∀ s : Nat,symV g [] s (0 : Nat) (0 : Nat) = getB (nullF g) s):=Lib.hid fun s => sym_null HGV.out (Nat.le_refl _)
  have HS1 : Hid (∀ s : Nat,symV g [(t : Int)] s (1 : Nat) (1 : Nat) = getB (nullF g) s):=Lib.hid fun s => sym_null HGV.out (Nat.le_refl _)
  have HS2 : Hid (∀ s : Nat,symV g [(t : Int)] s (0 : Nat) (1 : Nat) = getB (oneF g t n) s):=Lib.hid fun s => by rw [one_sym HGV.out HTT.out,HN.out]
  have HOL : Hid (∀ k,(oneF g t k).length = n):=Lib.hid fun k => by rw [oneF_len,HN.out]
  have HFI : Hid (setB (List.replicate n false) (t : Int) = oneF g t 0):=Lib.hid (by rw [← HN.out];rfl)
  obtain ⟨nv,hnv⟩ : ∃ nv,nv = nullF g:=⟨_,rfl⟩
  have HNV:=Lib.hid hnv
  rw [← hnv] at HNU HNL HS0 HS1 ⊢
  clear hv hnv hlo hlo2 hHeld hb1_1 hb1_5 hb3_1 hb5_2 hb5_3 hb6_1 hx5_2 hs5_2 hq5_2 HC3 HC5 HD5 hbn hbl HNIL
  have a1:=(blk_cell HP.out 0).trans rfl
  have a2:=(blk_cell HP.out 1).trans rfl
  simp only [HNL.out]
  have hmf:=print_make_of (P:=Try.prog) 57 4 (.bool false) 1 Try.underlying57 (by kernel_rfl) rfl (by decide) n (by omega)
  obtain ⟨b,hb⟩ : ∃ b,b = v.heap.size:=⟨_,rfl⟩
  obtain ⟨vj,hvj⟩ : ∃ vj,vj = v.alloc (.cells (madeCells #[.bool false] n) 4):=⟨_,rfl⟩
  have HZB : Aside0 (BB vj b (List.replicate n false)):=⟨by rw [hvj,hb];exact BB.new _ _⟩
  have HVJ : Aside0 (Below v.heap.size v vj):=⟨by rw [hvj];exact (Below.refl _ _).alloc (Nat.le_refl _) _⟩
  have hbv : v.heap.size ≤ b:=by omega
  go_upto_region 11 with (fail)
  simp only [← hvj,← hb]
  clear hvj hb hmf e1 a1 a2
  have j1 : (t : Int) < (n : Int):=by have:=HTT.out;omega
  have j2:=HZB.out.fz t
  have j3:=HZB.out.cell' (i:=t) (by simp;have:=HTT.out;omega) rfl
  go_upto_region 12 with (fail)
  clear j1 j2 j3
  have HB1 : Aside0 (BB (vj.setCell ⟨b,t,none⟩ (.bool true)) b (oneF g t 0)):=⟨by rw [← HFI.out];exact HZB.out.set t true⟩
  have HW1 : Aside0 (Below v.heap.size v (vj.setCell ⟨b,t,none⟩ (.bool true))):=⟨below_set HVJ.out hbv t _⟩
  clear HZB HVJ
  go_wp2
  go_loopw [13] (fun pv wr => ∃ p : Nat,p ≤ n ∧ pv = .int .i64 p ∧ Aside0 (BB wr b (oneF g t p)) ∧ Aside0 (Below v.heap.size v wr)) (fun pv _ => n - (intOf pv).toNat)
  case atStart => exact ⟨0,Nat.zero_le _,rfl,HB1,HW1⟩
  case round =>
    clear HB1 HW1
    obtain ⟨p,hp,rfl,HBB,HB⟩:=hrel
    rename World => wp_
    by_cases hpn : p < n
    · have p2 : (p : Int) < (n : Int):=by omega
      go_wp2
      clear p2
      obtain ⟨M0,hM0⟩ : ∃ M0,M0 = oneF g t p:=⟨_,rfl⟩
      have hM0l : M0.length = n:=by rw [hM0,HOL.out]
      have HEN : Hid (roundF (oneH g g.rules.length) M0 = oneF g t (p + 1)):=Lib.hid (by rw [hM0,oneF_succ])
      rw [← hM0] at HBB
      clear hM0
      go_loopw [14] (fun rv wr => ∃ r : Nat,r ≤ g.rules.length ∧ rv = .int .i64 r ∧ Aside0 (BB wr b (roundF (oneH g r) M0)) ∧ Aside0 (Below v.heap.size v wr)) (fun rv _ => g.rules.length - (intOf rv).toNat)
      case atStart => exact ⟨0,Nat.zero_le _,rfl,HBB,HB⟩
      case round =>
        clear HBB HB
        obtain ⟨r,hr,rfl,HBB,HB⟩:=hrel
        rename World => wr_
        have a3 : wr_.cell? ⟨x0,2,none⟩ = some (.slice A3 g.rules.length c3):=(blk_cell (blk_below HP.out HB.out) 2).trans rfl
        by_cases hrl : r < g.rules.length
        · have r2 : (r : Int) < (g.rules.length : Int):=by omega
          obtain ⟨ad,Br,d1,ead,hx,hy,hd1,hC1⟩:=at_rule HG.out.rules r hrl
          cases ead
          have HX:=Aside0.mk hx
          have HY:=Aside0.mk hy
          have HC1:=Aside0.mk hC1
          have HRS:=Lib.hid (oneH_succ hrl)
          have hgm:=goodF_mem HGV.out (g.rules[r]'hrl) (List.getElem_mem _)
          obtain ⟨xr,hxr⟩ : ∃ xr,xr = g.rules[r]'hrl:=⟨_,rfl⟩
          rw [← hxr] at HX HY HC1 HRS hgm
          rw [HN.out] at hgm
          rw [← HNV.out] at HRS
          obtain ⟨lf,hlf⟩:=Int.eq_ofNat_of_zero_le (show 0 ≤ xr.left by omega)
          rw [hlf] at HX
          have hlfn : lf < n:=by omega
          have hr8:=hgm.2.2.1
          have HIN:=Aside0.mk hgm.2.2.2
          have HLF:=Lib.hid hlf
          obtain ⟨R0,hR0⟩ : ∃ R0,R0 = oneH g r:=⟨_,rfl⟩
          rw [← hR0] at HBB HRS
          clear hx hy hC1 hxr hd1 hgm hlf hR0
          go_wp2
          clear a3 r2
          go_loopw [15] (fun kv wr => ∃ k : Nat,k ≤ xr.right.length ∧ kv = .int .i64 k ∧ Aside0 (BB wr b (roundF (R0 ++ oneR nv xr k) M0)) ∧ Aside0 (Below v.heap.size v wr)) (fun kv _ => xr.right.length - (intOf kv).toNat)
          case atStart => exact ⟨0,Nat.zero_le _,rfl,⟨by simpa [oneR] using HBB.out⟩,HB⟩
          case round =>
            clear HBB HB
            obtain ⟨kk,hk,rfl,HBB,HB⟩:=hrel
            rename World => wk
            have a3 : wk.cell? ⟨x0,2,none⟩ = some (.slice (some ad) g.rules.length c3):=(blk_cell (blk_below HP.out HB.out) 2).trans rfl
            have a4:=pw_cell_below HB.out HY.out
            by_cases hkl : kk < xr.right.length
            · have k2 : (kk : Int) < (xr.right.length : Int):=by omega
              have i0 : (0 : Int) ≤ (kk : Int):=by omega
              have r2 : (r : Int) < (g.rules.length : Int):=by omega
              obtain ⟨ae,eae,hxk⟩:=at_int (Kd.C_below HC1.out HB.out) kk hkl
              cases eae
              have hyin:=HIN.out _ (List.getElem_mem hkl)
              obtain ⟨y,hy⟩ : ∃ y,y = xr.right[kk]'hkl:=⟨_,rfl⟩
              rw [← hy] at hxk hyin
              have hyD : xr.right.getD kk 0 = y:=by rw [List.getD_eq_getElem?_getD,List.getElem?_eq_getElem hkl,hy];rfl
              obtain ⟨yn,rfl⟩:=Int.eq_ofNat_of_zero_le hyin.1
              have hro:=round_one (R0 ++ oneR nv xr kk) nv M0 xr kk
              rw [List.append_assoc,← oneR_succ,hyD] at hro
              have HRO:=Lib.hid hro
              clear hro
              obtain ⟨M,hM⟩ : ∃ M,M = roundF (R0 ++ oneR nv xr kk) M0:=⟨_,rfl⟩
              have hMl : M.length = n:=by rw [hM,roundF_len,hM0l]
              rw [← hM] at HBB HRO
              obtain ⟨a0,ha0⟩ : ∃ a0,getB M (yn : Int) = a0:=⟨_,rfl⟩
              rw [ha0] at HRO
              have y2 : (yn : Int) < (n : Int):=by omega
              have hcy:=HBB.out.cell' (i:=yn) (by omega) ha0
              have HA0:=Lib.hid ha0
              have HKL:=Aside0.mk hkl
              clear hy hM hyD hyin ha0
              go_upto_region 22 with (fail)
              clear hcy hxk k2 i0 r2 a3 a4 y2
              go_wp2
              go_loopw [17,16] (fun jv av wr => ∃ j : Nat,j ≤ xr.right.length ∧ jv = .int .i64 j ∧ av = .bool (a0 && othN nv xr.right kk j) ∧ wr = wk) (fun jv _ _ => xr.right.length - (intOf jv).toNat)
              case atStart => exact ⟨0,Nat.zero_le _,rfl,by simp [othN],rfl⟩
              case round =>
                obtain ⟨j,hj,rfl,rfl,rfl⟩:=hrel
                rename World => wk
                have a3 : wk.cell? ⟨x0,2,none⟩ = some (.slice (some ad) g.rules.length c3):=(blk_cell (blk_below HP.out HB.out) 2).trans rfl
                have a4:=pw_cell_below HB.out HY.out
                have r2 : (r : Int) < (g.rules.length : Int):=by omega
                have HOS:=Lib.hid (othN_succ nv xr.right kk j)
                have hoe : j = xr.right.length → othN nv xr.right kk j = othB nv xr.right kk:=fun h => by rw [h];rfl
                have hof:=othN_false (nu:=nv) (l:=xr.right) (k:=kk) hj
                obtain ⟨ov,hov⟩ : ∃ ov,othN nv xr.right kk j = ov:=⟨_,rfl⟩
                rw [hov] at HOS hof hoe ⊢
                clear hov
                obtain ⟨av,hav⟩ : ∃ av,(a0 && ov) = av:=⟨_,rfl⟩
                rw [hav]
                by_cases hgo : j < xr.right.length ∧ av = true
                · obtain ⟨hjl,rfl⟩:=hgo
                  have j2 : (j : Int) < (xr.right.length : Int):=by omega
                  have j0 : (0 : Int) ≤ (j : Int):=by omega
                  obtain ⟨h1,h2⟩:=(Bool.and_eq_true _ _).mp hav
                  subst h1 h2
                  clear hof hoe hav
                  by_cases hjk : j = kk
                  · have d1 : decide ((j : Int) = (kk : Int)) = true:=decide_eq_true (by omega)
                    have d2 : ((j : Int) == (kk : Int)) = true:=d1
                    have HO2 : Hid (othN nv xr.right kk (j + 1) = true):=Lib.hid (by rw [HOS.out,decide_eq_true hjk];rfl)
                    go_wp2
                    go_roundw
                    case rel => exact ⟨j + 1,by omega,by go_num,by rw [HO2.out];exact ⟨rfl,trivial⟩⟩
                    case measure => simp [intOf];omega
                  · have d1 : decide ((j : Int) = (kk : Int)) = false:=decide_eq_false (by omega)
                    have d2 : ((j : Int) == (kk : Int)) = false:=d1
                    obtain ⟨ae,eae,hxj⟩:=at_int (Kd.C_below HC1.out HB.out) j hjl
                    cases eae
                    have hzin:=HIN.out _ (List.getElem_mem hjl)
                    obtain ⟨z,hz⟩ : ∃ z,z = xr.right[j]'hjl:=⟨_,rfl⟩
                    rw [← hz] at hxj hzin
                    have hzD : xr.right.getD j 0 = z:=by rw [List.getD_eq_getElem?_getD,List.getElem?_eq_getElem hjl,hz];rfl
                    obtain ⟨zn,rfl⟩:=Int.eq_ofNat_of_zero_le hzin.1
                    rw [hzD] at HOS
                    obtain ⟨zv,hzv⟩ : ∃ zv,getB nv (zn : Int) = zv:=⟨_,rfl⟩
                    rw [hzv,decide_eq_false hjk] at HOS
                    have z2 : (zn : Int) < (nv.length : Int):=by have:=HNL.out;omega
                    have z3 : (zn : Int) < (n : Int):=by omega
                    have z0 : (0 : Int) ≤ (zn : Int):=by omega
                    have hcz:=(HNU.out.below HB.out).cell' (i:=zn) (by have:=HNL.out;omega) hzv
                    have HO2 : Hid (othN nv xr.right kk (j + 1) = zv):=Lib.hid (by rw [HOS.out];rfl)
                    clear hz hzD hzin hzv
                    go_wp2
                    go_roundw
                    case rel => exact ⟨j + 1,by omega,by go_num,by rw [HO2.out];exact ⟨rfl,trivial⟩⟩
                    case measure => simp [intOf];omega
                · have HAE : Hid ((a0 && othB nv xr.right kk) = av):=Lib.hid (by
                    by_cases hjl : j < xr.right.length
                    · have h1 : av = false:=by cases av with | false => rfl | true => exact absurd ⟨hjl,rfl⟩ hgo
                      subst h1
                      cases a0
                      · rfl
                      · rw [Bool.true_and] at hav ⊢
                        exact hof hav
                    · rw [← hoe (by omega),hav])
                  have hex : (decide ((j : Int) < (xr.right.length : Int)) = false ∧ ¬ (j : Int) < (xr.right.length : Int)) ∨ (decide ((j : Int) < (xr.right.length : Int)) = true ∧ (j : Int) < (xr.right.length : Int) ∧ av = false):=by
                    by_cases hjl : j < xr.right.length
                    · exact .inr ⟨decide_eq_true (by omega),by omega,by cases av with | false => rfl | true => exact absurd ⟨hjl,rfl⟩ hgo⟩
                    · exact .inl ⟨decide_eq_false (by omega),by omega⟩
                  clear hof hoe hav hgo
                  rcases hex with ⟨hd,hj2⟩ | ⟨hd,hj2,rfl⟩ <;> go_upto_region 26 with (fail)
                  all_goals
                    clear a3 a4 r2 hd hj2
                    obtain ⟨c,hc⟩ : ∃ c,getB M (lf : Int) = c:=⟨_,rfl⟩
                    have HCC:=Lib.hid hc
                    have HPk:=Aside0.mk (blk_below HP.out HB.out)
                    have HXk:=Aside0.mk (pw_cell_below HB.out HX.out)
                    have HCk:=Aside0.mk (HBB.out.cell' (i:=lf) (by omega) hc)
                    have r2 : (r : Int) < (g.rules.length : Int):=by omega
                    have l2 : (lf : Int) < (n : Int):=by omega
                    have l3 : (0 : Int) ≤ (lf : Int):=by omega
                    have lM : lf < M.length:=by omega
                    clear hc
                    cases c
                    · refine start_ (n:=21) (S:=fun w' => Below wk.heap.size wk w') (ds:=[20]) (lb 21 0x0) (by kernel_rfl) rfl (by kernel_rfl) (below_drew1 (Below.refl _ _)) (fun hHeld => ?_)
                      refine pu_ ?_ ?_ 0 (some 152) (lb 21 0x1) ?_
                      refine pu_ ?_ ?_ 1 (some 153) (lb 21 0x3) ?_
                      refine pu_ ?_ ?_ 3 (some 155) (lb 21 0xb) ?_
                      refine pu_ ?_ ?_ 7 (some 159) (lb 21 0x8b) ?_
                      refine pu_ ?_ ?_ 8 (some 160) (lb 21 0x18b) ?_
                      refine pu_ ?_ ?_ 10 (some 162) (lb 21 0x58b) ?_
                      refine ta_ ?_ ?_ 2 (some 154) (lb 21 0x58f) hHeld ?_ (y:=by rintro w' hS;have d0:=(blk_cell (blk_below HPk.out hS) 0).trans rfl;have d1:=(blk_cell (blk_below HPk.out hS) 1).trans rfl;have d2:=(blk_cell (blk_below HPk.out hS) 2).trans rfl;have d3:=cell_at hS HXk.out;have d4:=cell_at hS HCk.out;go_simp;with_reducible rfl)
                      refine pu_ ?_ ?_ 4 (some 156) (lb 21 0x59f) ?_
                      refine pu_ ?_ ?_ 5 (some 157) (lb 21 0x5bf) ?_
                      refine ta_ ?_ ?_ 6 (some 158) (lb 21 0x5ff) hHeld ?_ (y:=by rintro w' hS;have d0:=(blk_cell (blk_below HPk.out hS) 0).trans rfl;have d1:=(blk_cell (blk_below HPk.out hS) 1).trans rfl;have d2:=(blk_cell (blk_below HPk.out hS) 2).trans rfl;have d3:=cell_at hS HXk.out;have d4:=cell_at hS HCk.out;go_simp;with_reducible rfl)
                      refine ta_ ?_ ?_ 9 (some 161) (lb 21 0x7ff) hHeld ?_ (y:=by rintro w' hS;have d0:=(blk_cell (blk_below HPk.out hS) 0).trans rfl;have d1:=(blk_cell (blk_below HPk.out hS) 1).trans rfl;have d2:=(blk_cell (blk_below HPk.out hS) 2).trans rfl;have d3:=cell_at hS HXk.out;have d4:=cell_at hS HCk.out;go_simp;with_reducible rfl)
                      refine pu_ ?_ ?_ 11 (some 163) (lb 21 0xfff) ?_
                      refine pu_ ?_ ?_ 12 (some 164) (lb 21 0x1fff) ?_
                      refine ta_ ?_ ?_ 13 (some 165) (lb 21 0x3fff) hHeld ?_ (y:=by rintro w' hS;have d0:=(blk_cell (blk_below HPk.out hS) 0).trans rfl;have d1:=(blk_cell (blk_below HPk.out hS) 1).trans rfl;have d2:=(blk_cell (blk_below HPk.out hS) 2).trans rfl;have d3:=cell_at hS HXk.out;have d4:=cell_at hS HCk.out;go_simp;with_reducible rfl)
                      refine pu_ ?_ ?_ 14 (some 166) (lb 21 0x7fff) ?_
                      refine ta_ ?_ ?_ 15 (some 167) (lb 21 0xffff) hHeld ?_ (y:=by rintro w' hS;have d0:=(blk_cell (blk_below HPk.out hS) 0).trans rfl;have d1:=(blk_cell (blk_below HPk.out hS) 1).trans rfl;have d2:=(blk_cell (blk_below HPk.out hS) 2).trans rfl;have d3:=cell_at hS HXk.out;have d4:=cell_at hS HCk.out;go_simp;with_reducible rfl)
                      refine pu_ ?_ ?_ 16 (some 168) (lb 21 0x1ffff) ?_
                      refine pu_ ?_ ?_ 17 (some 169) (lb 21 0x3ffff) ?_
                      refine pu_ ?_ ?_ 18 (some 170) (lb 21 0x7ffff) ?_
                      refine pu_ ?_ ?_ 19 (some 171) (lb 21 0xfffff) ?_
                      refine ls_ 20 none (lb 21 0x1fffff) (fun K hK => ?_)
                      (have fz:=((HBB.out.below hHeld).fz lf);have hz:=(HBB.out.below hHeld).cell' (i:=lf) lM HCC.out)
                      refine skip_ (w1:=?_) (by rfl) rfl ?_ ?_
                      rotate_left
                      · (go_simp;first | rfl | (constructor;rfl;rfl))
                      refine hK.out _ _ ?_
                      clear hK K
                      refine done_ (by kernel_rfl) ?_
                      go_wp2
                      go_roundw
                      case rel => exact ⟨kk + 1,HKL.out,by go_num,⟨by rw [HRO.out,HAE.out,HLF.out];exact bb_or (HBB.out.below (below_drew1 (Below.refl _ _))) lM HCC.out⟩,⟨below_set (HB.out.trans (below_drew1 (Below.refl _ wk))) hbv lf _⟩⟩
                      case measure => have:=HKL.out;simp [intOf];omega
                    · refine start_ (n:=21) (S:=fun w' => Below wk.heap.size wk w') (ds:=[20]) (lb 21 0x0) (by kernel_rfl) rfl (by kernel_rfl) (below_drew1 (Below.refl _ _)) (fun hHeld => ?_)
                      refine pu_ ?_ ?_ 0 (some 152) (lb 21 0x1) ?_
                      refine pu_ ?_ ?_ 1 (some 153) (lb 21 0x3) ?_
                      refine pu_ ?_ ?_ 3 (some 155) (lb 21 0xb) ?_
                      refine pu_ ?_ ?_ 7 (some 159) (lb 21 0x8b) ?_
                      refine pu_ ?_ ?_ 8 (some 160) (lb 21 0x18b) ?_
                      refine pu_ ?_ ?_ 10 (some 162) (lb 21 0x58b) ?_
                      refine ta_ ?_ ?_ 2 (some 154) (lb 21 0x58f) hHeld ?_ (y:=by rintro w' hS;have d0:=(blk_cell (blk_below HPk.out hS) 0).trans rfl;have d1:=(blk_cell (blk_below HPk.out hS) 1).trans rfl;have d2:=(blk_cell (blk_below HPk.out hS) 2).trans rfl;have d3:=cell_at hS HXk.out;have d4:=cell_at hS HCk.out;go_simp;with_reducible rfl)
                      refine pu_ ?_ ?_ 4 (some 156) (lb 21 0x59f) ?_
                      refine pu_ ?_ ?_ 5 (some 157) (lb 21 0x5bf) ?_
                      refine ta_ ?_ ?_ 6 (some 158) (lb 21 0x5ff) hHeld ?_ (y:=by rintro w' hS;have d0:=(blk_cell (blk_below HPk.out hS) 0).trans rfl;have d1:=(blk_cell (blk_below HPk.out hS) 1).trans rfl;have d2:=(blk_cell (blk_below HPk.out hS) 2).trans rfl;have d3:=cell_at hS HXk.out;have d4:=cell_at hS HCk.out;go_simp;with_reducible rfl)
                      refine ta_ ?_ ?_ 9 (some 161) (lb 21 0x7ff) hHeld ?_ (y:=by rintro w' hS;have d0:=(blk_cell (blk_below HPk.out hS) 0).trans rfl;have d1:=(blk_cell (blk_below HPk.out hS) 1).trans rfl;have d2:=(blk_cell (blk_below HPk.out hS) 2).trans rfl;have d3:=cell_at hS HXk.out;have d4:=cell_at hS HCk.out;go_simp;with_reducible rfl)
                      refine pu_ ?_ ?_ 11 (some 163) (lb 21 0xfff) ?_
                      refine pu_ ?_ ?_ 12 (some 164) (lb 21 0x1fff) ?_
                      refine ta_ ?_ ?_ 13 (some 165) (lb 21 0x3fff) hHeld ?_ (y:=by rintro w' hS;have d0:=(blk_cell (blk_below HPk.out hS) 0).trans rfl;have d1:=(blk_cell (blk_below HPk.out hS) 1).trans rfl;have d2:=(blk_cell (blk_below HPk.out hS) 2).trans rfl;have d3:=cell_at hS HXk.out;have d4:=cell_at hS HCk.out;go_simp;with_reducible rfl)
                      refine pu_ ?_ ?_ 14 (some 166) (lb 21 0x7fff) ?_
                      refine ta_ ?_ ?_ 15 (some 167) (lb 21 0xffff) hHeld ?_ (y:=by rintro w' hS;have d0:=(blk_cell (blk_below HPk.out hS) 0).trans rfl;have d1:=(blk_cell (blk_below HPk.out hS) 1).trans rfl;have d2:=(blk_cell (blk_below HPk.out hS) 2).trans rfl;have d3:=cell_at hS HXk.out;have d4:=cell_at hS HCk.out;go_simp;with_reducible rfl)
                      refine pu_ ?_ ?_ 16 (some 168) (lb 21 0x1ffff) ?_
                      refine po_ ?_ 17 (some 169) (lb 21 0x3ffff) ?_
                      refine pu_ ?_ ?_ 18 (some 170) (lb 21 0x7ffff) ?_
                      refine pu_ ?_ ?_ 19 (some 171) (lb 21 0xfffff) ?_
                      refine ls_ 20 none (lb 21 0x1fffff) (fun K hK => ?_)
                      (have fz:=((HBB.out.below hHeld).fz lf);have hz:=(HBB.out.below hHeld).cell' (i:=lf) lM HCC.out)
                      refine skip_ (w1:=?_) (by rfl) rfl ?_ ?_
                      rotate_left
                      · (go_simp;first | rfl | (constructor;rfl;rfl))
                      refine hK.out _ _ ?_
                      clear hK K
                      refine done_ (by kernel_rfl) ?_
                      go_wp2
                      go_roundw
                      case rel => exact ⟨kk + 1,HKL.out,by go_num,⟨by rw [HRO.out,HAE.out,HLF.out];exact bb_or (HBB.out.below (below_drew1 (Below.refl _ _))) lM HCC.out⟩,⟨below_set (HB.out.trans (below_drew1 (Below.refl _ wk))) hbv lf _⟩⟩
                      case measure => have:=HKL.out;simp [intOf];omega
            · have hke : kk = xr.right.length:=by omega
              have k2 : ¬ (kk : Int) < (xr.right.length : Int):=by omega
              rw [hke,← HRS.out] at HBB
              clear hke
              have r2 : (r : Int) < (g.rules.length : Int):=by omega
              go_wp2
              go_roundw
              case rel => exact ⟨r + 1,by omega,by go_num,HBB,HB⟩
              case measure => simp [intOf];omega
        · have hre : r = g.rules.length:=by omega
          have r2 : ¬ (r : Int) < (g.rules.length : Int):=by omega
          rw [hre,HEN.out] at HBB
          clear hre
          go_wp2
          go_roundw
          case rel => exact ⟨p + 1,by omega,by go_num,HBB,HB⟩
          case measure => simp [intOf];omega
    · have hpe : p = n:=by omega
      have p2 : ¬ (p : Int) < (n : Int):=by omega
      rw [hpe] at HBB
      rw [hpe] at p2
      have HCn:=Aside0.mk (HC.out.below_ HB.out)
      have HDn:=Aside0.mk (HD.out.below_ HB.out)
      have HNn:=Aside0.mk (HNU.out.below HB.out)
      have HBn:=Aside0.mk (below_then HBv.out HBv.out.size HB.out)
      clear hpe HB HC HD HNU HBv
      go_wp2
      clear p2
      go_loopw [18] (fun sv wr => ∃ s : Nat,s ≤ n ∧ sv = .int .i64 s ∧ Aside0 (Below wp_.heap.size wp_ wr)) (fun sv _ => n - (intOf sv).toNat)
      case atStart => exact ⟨0,Nat.zero_le _,rfl,⟨Below.refl _ _⟩⟩
      case round =>
        obtain ⟨s,hs,rfl,HB⟩:=hrel
        rename World => ws
        by_cases hsn : s < n
        · have s2 : (s : Int) < (n : Int):=by omega
          have s0 : (0 : Int) ≤ (s : Int):=by omega
          have s3 : (s : Int) < (nv.length : Int):=by have:=HNL.out;omega
          obtain ⟨nz,hnz⟩ : ∃ nz,getB nv (s : Int) = nz:=⟨_,rfl⟩
          obtain ⟨oz,hoz⟩ : ∃ oz,getB (oneF g t n) (s : Int) = oz:=⟨_,rfl⟩
          have HN1:=Aside0.mk ((HNn.out.below HB.out).cell' (i:=s) (by have:=HNL.out;omega) hnz)
          have HO1:=Aside0.mk ((HBB.out.below HB.out).cell' (i:=s) (by rw [HOL.out];omega) hoz)
          have HCs:=Aside0.mk (HCn.out.below_ HB.out)
          have HDs:=Aside0.mk (HDn.out.below_ HB.out)
          have HV0 : Hid (symV g [] s 0 0 = nz):=Lib.hid ((HS0.out s).trans hnz)
          have HV1 : Hid (symV g [(t : Int)] s 1 1 = nz):=Lib.hid ((HS1.out s).trans hnz)
          have HV2 : Hid (symV g [(t : Int)] s 0 1 = oz):=Lib.hid ((HS2.out s).trans hoz)
          have hn1 : (nz != nz) = false:=by cases nz <;> rfl
          have hn2 : (oz != oz) = false:=by cases oz <;> rfl
          have hsb : -9223372036854775808 ≤ (s : Int) ∧ (s : Int) ≤ 9223372036854775807:=by omega
          clear hnz hoz
          go_upto_region 30 with (fail)
          refine start_ (n:=31) (S:=fun w' => Below ws.heap.size ws w') (ds:=[]) (lb 31 0x0) (by kernel_rfl) rfl (by kernel_rfl) (below_drew1 (Below.refl _ _)) (fun hHeld => ?_)
          refine pu_ ?_ ?_ 0 (some 177) (lb 31 0x1) ?_
          refine pu_ ?_ ?_ 1 (some 178) (lb 31 0x3) ?_
          refine pu_ ?_ ?_ 2 (some 179) (lb 31 0x7) ?_
          refine pu_ ?_ ?_ 4 (some 181) (lb 31 0x17) ?_
          refine pu_ ?_ ?_ 5 (some 182) (lb 31 0x37) ?_
          refine pu_ ?_ ?_ 6 (some 183) (lb 31 0x77) ?_
          refine ta_ ?_ ?_ 7 (some 184) (lb 31 0xf7) hHeld ?_ (y:=by rintro w' hS;have d0:=cell_at hS HN1.out;have d1:=cell_at hS HO1.out;go_simp;with_reducible rfl)
          refine on_ 3 (some 180) (lb 31 0xff) (fun K hK => ?_)
          (refine goesC_ Try.func26 (by kernel_rfl) rfl (by rfl) rfl rfl (symM_c k g [] s 0 0 _ (HCs.out.below_ hHeld) hsb HV0.out) (by simp [Act.eval]) ?_;rintro e w9 ⟨rfl,hb9⟩;refine ⟨_,rfl,?_⟩;have HQ9:=Aside0.mk (below_then hHeld hHeld.size hb9);clear hb9;refine hK.out _ _ HQ9.out (fun hHeld => ?_))
          clear hK K
          refine nm_ ?_ (some 180) ?_
          refine pu_ ?_ ?_ 8 (some 185) (lb 31 0x1ff) ?_
          refine pu_ ?_ ?_ 9 (some 186) (lb 31 0x3ff) ?_
          refine pu_ ?_ ?_ 10 (some 187) (lb 31 0x7ff) ?_
          refine pu_ ?_ ?_ 11 (some 188) (lb 31 0xfff) ?_
          refine pu_ ?_ ?_ 12 (some 189) (lb 31 0x1fff) ?_
          refine pu_ ?_ ?_ 14 (some 191) (lb 31 0x5fff) ?_
          refine pu_ ?_ ?_ 15 (some 192) (lb 31 0xdfff) ?_
          refine pu_ ?_ ?_ 16 (some 193) (lb 31 0x1dfff) ?_
          refine ta_ ?_ ?_ 17 (some 194) (lb 31 0x3dfff) hHeld ?_ (y:=by rintro w' hS;have d0:=cell_at hS HN1.out;have d1:=cell_at hS HO1.out;go_simp;with_reducible rfl)
          refine on_ 13 (some 190) (lb 31 0x3ffff) (fun K hK => ?_)
          (refine goesC_ Try.func26 (by kernel_rfl) rfl (by rfl) rfl rfl (symM_c k2 g [(t : Int)] s 0 1 _ (HDs.out.below_ hHeld) hsb HV2.out) (by simp [Act.eval]) ?_;rintro e w9 ⟨rfl,hb9⟩;refine ⟨_,rfl,?_⟩;have HQ9:=Aside0.mk (below_then hHeld hHeld.size hb9);clear hb9;refine hK.out _ _ HQ9.out (fun hHeld => ?_))
          clear hK K
          refine nm_ ?_ (some 190) ?_
          refine pu_ ?_ ?_ 18 (some 195) (lb 31 0x7ffff) ?_
          refine pu_ ?_ ?_ 19 (some 196) (lb 31 0xfffff) ?_
          refine pu_ ?_ ?_ 20 (some 197) (lb 31 0x1fffff) ?_
          refine pu_ ?_ ?_ 21 (some 198) (lb 31 0x3fffff) ?_
          refine pu_ ?_ ?_ 22 (some 199) (lb 31 0x7fffff) ?_
          refine pu_ ?_ ?_ 23 (some 200) (lb 31 0xffffff) ?_
          refine pu_ ?_ ?_ 25 (some 202) (lb 31 0x2ffffff) ?_
          refine pu_ ?_ ?_ 26 (some 203) (lb 31 0x6ffffff) ?_
          refine pu_ ?_ ?_ 27 (some 204) (lb 31 0xeffffff) ?_
          refine ta_ ?_ ?_ 28 (some 205) (lb 31 0x1effffff) hHeld ?_ (y:=by rintro w' hS;have d0:=cell_at hS HN1.out;have d1:=cell_at hS HO1.out;go_simp;with_reducible rfl)
          refine on_ 24 (some 201) (lb 31 0x1fffffff) (fun K hK => ?_)
          (refine goesC_ Try.func26 (by kernel_rfl) rfl (by rfl) rfl rfl (symM_c k2 g [(t : Int)] s 1 1 _ (HDs.out.below_ hHeld) hsb HV1.out) (by simp [Act.eval]) ?_;rintro e w9 ⟨rfl,hb9⟩;refine ⟨_,rfl,?_⟩;have HQ9:=Aside0.mk (below_then hHeld hHeld.size hb9);clear hb9;refine hK.out _ _ HQ9.out (fun hHeld => ?_))
          clear hK K
          refine nm_ ?_ (some 201) ?_
          refine pu_ ?_ ?_ 29 (some 206) (lb 31 0x3fffffff) ?_
          refine pu_ ?_ ?_ 30 (some 207) (lb 31 0x7fffffff) ?_
          refine done_ (by kernel_rfl) ?_
          rename World => w6
          have HB6:=Aside0.mk (below_then HB.out HB.out.size hHeld)
          clear hHeld
          go_wp2
          go_roundw
          case rel => exact ⟨s + 1,by omega,by go_num,HB6⟩
          case measure => simp [intOf];omega
        · have s2 : ¬ (s : Int) < (n : Int):=by omega
          go_wp2_with (go_at_call 16;refine (wakes24_c _).mono ?_;rintro e w9 ⟨rfl,hb9⟩)
          go_ret
          exact ⟨rfl,below_then HBn.out HBn.out.size (below_then HB.out HB.out.size hb9)⟩
end Go.Proofs.Ytmkgcjhimajgiaa
