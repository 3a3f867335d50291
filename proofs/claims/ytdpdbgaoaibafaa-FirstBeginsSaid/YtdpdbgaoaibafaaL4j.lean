/- The law FirstBegins,walked: it answers true. -/
import Derived.Test.YtdpdbgaoaibafaaL0j
set_option linter.unusedVariables false
set_option linter.unusedSimpArgs false
namespace Go.Proofs.Ytdpdbgaoaibafaa
open Go.RowKit Go.Proofs.YtdpdbgaoaibafaaW.PrintWords Go.Proofs.YtdpdbgaoaibafaaW.PrintLast

/-! ### the list that grows while it is gone through,plain -/
def anyOk : Rule → Bool:=fun _ => true
theorem RC.all {g : Gram} {a : Int} {n : Nat} {m : List Bool} (h : RC g anyOk a n m [] (-1)) (t : Int) : getB m t = true ↔ Der (hornR anyOk g.rules) (fromI a) t:=by
  refine ⟨h.sound t,fun d => ?_⟩
  induction d with
  | init h0 => rw [show _ = a from h0];exact h.here
  | @step b y hm _ ih =>
    obtain ⟨r,hr,_,e1,e2⟩:=hornR_mem hm
    simp only at e1 e2
    subst e1
    have hl:=ih r.left List.mem_cons_self
    rcases h.done r.left hl with h2 | h2 | h2
    · cases h2
    · have:=(getB_in hl).1;omega
    · exact h2 r hr rfl rfl y e2
structure FB (v W : World) (lo b n : Nat) (g : Gram) (a : Int) (lv : Value) (m : List Bool) (l : List Int) (i : Nat) (x : Int) : Prop where
  bb : BB W b m
  row : kInt.R 3 W lo (fun _ => True) lv l
  below : Below lo v W
  rc : RC (headG g) anyOk a n m (l.drop i) x
  cnt : l.length = cnt m
  lb : lo ≤ b
  il : i ≤ l.length
section
variable {v W W' : World} {lo b n : Nat} {g : Gram} {a : Int} {lv : Value} {m : List Bool} {l : List Int} {i : Nat} {x : Int}
theorem FB.below_ (h : FB v W lo b n g a lv m l i x) (hb : Below W.heap.size W W') (hl : lo ≤ W.heap.size) : FB v W' lo b n g a lv m l i x :=
  ⟨h.bb.below hb,Kd.R_below h.row hb,below_then h.below hl hb,h.rc,h.cnt,h.lb,h.il⟩
theorem FB.len (h : FB v W lo b n g a lv m l i x) : l.length ≤ n:=by rw [h.cnt,← h.rc.len];exact cnt_le m
theorem FB.take (h : FB v W lo b n g a lv m l i (-1)) (hi : i < l.length) : FB v W lo b n g a lv m l (i + 1) (l[i]'hi) :=
  ⟨h.bb,h.row,h.below,by have:=h.rc;rw [List.drop_eq_getElem_cons hi] at this;exact this.take,h.cnt,h.lb,hi⟩
theorem FB.old (h : FB v W lo b n g a lv m l i x) : m.length = n:=h.rc.len
/-- A symbol more: marked,then laid behind the list. -/
theorem FB.add (h : FB v W lo b n g a lv m l i x) {r : Rule} {s : Nat} (hr : r ∈ g.rules) (hl : getB m r.left = true) (hs : (s : Int) ∈ heads (nullF g) r.right) (hn : s < n) (hg : getB m (s : Int) = false) {v1 : Value} {w1 : World}
    (A : Appd kInt 3 v (W.setCell ⟨b,s,none⟩ (.bool true)) lo (fun _ => True) lv (l ++ [(s : Int)]) v1 w1) : FB v w1 lo b n g a v1 (setB m (s : Int)) (l ++ [(s : Int)]) i x:=by
  have hbb : (W.setCell ⟨b,s,none⟩ (.bool true)).heap[b]? = some (.cells ((m.set s true).map Value.bool).toArray 4 (0,0)):=h.bb.set s true
  have hR:=Kd.R_set h.row (show W.heap[b]? = some (.cells (m.map Value.bool).toArray 4 (0,0)) from h.bb) (show ∀ q,q ∈ [3] → q ≠ 4 by decide) s (.bool true)
  have h1:=blk_grown hbb A.grown (Kd.R_ne hR hbb (by decide))
  have h2:=h.rc.add (headG_mem hr) rfl hl hs (by omega) (by omega)
  rw [addM,addQ,if_neg (by rw [hg];decide)] at h2
  refine ⟨by rw [setB,Int.toNat_natCast];exact h1,A.row,A.below,?_,?_,h.lb,by have:=h.il;simp;omega⟩
  · rw [List.drop_append_of_le_length h.il];exact h2
  · rw [List.length_append,cnt_set (by omega) (by rw [h.old];omega) hg,← h.cnt];rfl
theorem FB.shut (h : FB v W lo b n g a lv m l i x) (hx : ∀ r ∈ g.rules,r.left = x → ∀ y ∈ heads (nullF g) r.right,getB m y = true) : FB v W lo b n g a lv m l i (-1) :=
  ⟨h.bb,h.row,h.below,h.rc.shut (fun r' hr' _ hl y hy => by
    obtain ⟨r,hr,rfl⟩:=List.mem_map.1 hr'
    exact hx r hr hl y hy),h.cnt,h.lb,h.il⟩
theorem FB.le (h : FB v W lo b n g a lv m l i x) {s : Int} (h0 : 0 ≤ s) (h1 : s < n) : LeB m (setB m s):=LeB.set m h0 (by rw [h.old];exact h1)
end
theorem begins_is {g : Gram} (hg : goodF g = true) {s : Nat} (hs : s < nsym g) {m : List Bool} {n : Nat} (hn : nsym g = n) (h : RC (headG g) anyOk (s : Int) n m [] (-1)) : m.take g.terms.length = rowT (firstF g) (s : Int):=by
  have hl:=h.len
  have ht : g.terms.length ≤ m.length:=by rw [hl,← hn];unfold nsym;omega
  refine getB_ext (by rw [List.length_take,(firstF_sh g).row hs];omega) (fun t h1 => ?_)
  rw [List.length_take] at h1
  have e : getB (m.take g.terms.length) (t : Int) = getB m (t : Int):=by
    rw [getB_nat,getB_nat,List.getD_eq_getElem?_getD,List.getD_eq_getElem?_getD,List.getElem?_take,if_pos (by omega)]
  rw [e,h.all t]
  exact (begins_steps hg (by omega) (by omega)).symm
set_option maxRecDepth 100000 in
set_option maxHeartbeats 16000000 in
theorem firstBegins_c (g : Gram) (A1 A2 A3 : Option Addr) (c1 c2 c3 : Nat) (wh : Int) (w : World) (hg : RepG w g A1 A2 A3 c1 c2 c3) (hz : Sized g) (hw : 0 ≤ wh ∧ wh ≤ 255) :
    Calls Try.prog 10 #[.agg #[.slice A1 g.terms.length c1,.slice A2 g.names.length c2,.slice A3 g.rules.length c3],.int .u8 wh] w fun e w' => e = .returned (.bool true) ∧ Below w.heap.size w w':=by
  obtain ⟨v0,hv0⟩ : ∃ v0 : World,v0 = w.alloc (.cells #[.slice A1 g.terms.length c1,.slice A2 g.names.length c2,.slice A3 g.rules.length c3] 25 (0,0)):=⟨_,rfl⟩
  have HB0 : Aside0 (Below w.heap.size w v0):=⟨by rw [hv0];exact (Below.refl w.heap.size w).alloc (Nat.le_refl _) _⟩
  have HP0 : Aside0 (v0.heap[w.heap.size]? = some (.cells #[.slice A1 g.terms.length c1,.slice A2 g.names.length c2,.slice A3 g.rules.length c3] 25 (0,0))):=⟨by rw [hv0];exact blk_new w _⟩
  have HG0:=Aside0.mk (hg.below_ HB0.out)
  have HZ:=Aside0.mk hz
  clear hg hz
  go_enter Try.func10,Try.ntmps10
  go_upto_region 1 with (fail)
  simp only [← hv0]
  clear hv0
  refine pl_start ?_
  refine pl_held (B:=v0.heap.size) (v:=v0) (Below.refl _ _) (fun hHeld => ?_)
  refine pp_ ?_ ?_ ?_ (y:=by have d0:=(blk_cell (blk_below HP0.out hHeld) 0).trans rfl;have d1:=(blk_cell (blk_below HP0.out hHeld) 1).trans rfl;have d2:=(blk_cell (blk_below HP0.out hHeld) 2).trans rfl;go_simp;rfl)
  refine goesCL_ (N:=(some 15)) Try.func15 (by kernel_rfl) rfl (by rfl) rfl rfl (large_c g A1 A2 A3 c1 c2 c3 _ (HG0.out.below_ hHeld)) (by simp [Act.eval]) ?_
  rintro e x1_1 ⟨⟨lb,rfl,hs⟩,hb1_1⟩
  refine ⟨_,rfl,?_⟩
  simp only [Act.put,List.setIfInBounds_toArray,List.set_cons_zero,List.set_cons_succ]
  refine pl_held (B:=v0.heap.size) (v:=v0) (below_then hHeld hHeld.size hb1_1) (fun hHeld => ?_)
  have HX1:=Aside0.mk hHeld
  clear hs
  cases lb
  · cases hgd : goodF g
    · refine pp_ ?_ ?_ ?_
      refine pp_ ?_ ?_ ?_ (y:=by have d0:=(blk_cell (blk_below HP0.out hHeld) 0).trans rfl;have d1:=(blk_cell (blk_below HP0.out hHeld) 1).trans rfl;have d2:=(blk_cell (blk_below HP0.out hHeld) 2).trans rfl;go_simp;rfl)
      refine goesCL_ (N:=(some 18)) Try.func24 (by kernel_rfl) rfl (by rfl) rfl rfl (good1_v g A1 A2 A3 c1 c2 c3 _ (HG0.out.below_ hHeld) HZ.out hgd) (by simp [Act.eval]) ?_
      rintro e x1_4 ⟨rfl,hb1_4⟩
      refine ⟨_,rfl,?_⟩
      simp only [Act.put,List.setIfInBounds_toArray,List.set_cons_zero,List.set_cons_succ]
      refine pl_held (B:=v0.heap.size) (v:=v0) (below_then hHeld hHeld.size hb1_4) (fun hHeld => ?_)
      refine pp_ ?_ ?_ ?_
      refine pp_ ?_ ?_ ?_
      refine pl_nil ?_
      go_upto_region 2 with (fail)
      refine pl_start ?_
      refine pl_held (B:=v0.heap.size) (v:=v0) (below_then HX1.out HX1.out.size hb1_4) (fun hHeld => ?_)
      refine goesCL_ (N:=(some 21)) Try.func27 (by kernel_rfl) rfl (by rfl) rfl rfl (wakes08_c _) (by simp [Act.eval]) ?_
      rintro e x2_0 ⟨rfl,hb2_0⟩
      refine ⟨_,rfl,?_⟩
      simp only [Act.put,List.setIfInBounds_toArray,List.set_cons_zero,List.set_cons_succ]
      refine pl_held (B:=v0.heap.size) (v:=v0) (below_then hHeld hHeld.size hb2_0) (fun hHeld => ?_)
      refine pp_ ?_ ?_ ?_
      refine pl_nil ?_
      go_wp2
      go_ret
      exact ⟨ret_bool rfl,below_then HB0.out HB0.out.size hHeld⟩
    · refine pp_ ?_ ?_ ?_
      refine pp_ ?_ ?_ ?_ (y:=by have d0:=(blk_cell (blk_below HP0.out hHeld) 0).trans rfl;have d1:=(blk_cell (blk_below HP0.out hHeld) 1).trans rfl;have d2:=(blk_cell (blk_below HP0.out hHeld) 2).trans rfl;go_simp;rfl)
      refine goesCL_ (N:=(some 18)) Try.func24 (by kernel_rfl) rfl (by rfl) rfl rfl (good1_v g A1 A2 A3 c1 c2 c3 _ (HG0.out.below_ hHeld) HZ.out hgd) (by simp [Act.eval]) ?_
      rintro e x1_4 ⟨rfl,hb1_4⟩
      refine ⟨_,rfl,?_⟩
      simp only [Act.put,List.setIfInBounds_toArray,List.set_cons_zero,List.set_cons_succ]
      refine pl_held (B:=v0.heap.size) (v:=v0) (below_then hHeld hHeld.size hb1_4) (fun hHeld => ?_)
      refine pp_ ?_ ?_ ?_
      refine pp_ ?_ ?_ ?_
      refine pl_nil ?_
      obtain ⟨q1,q2,q3,q4⟩:=goodF_small hgd
      have HX4:=Aside0.mk (below_then HX1.out HX1.out.size hb1_4)
      obtain ⟨n,hn⟩ : ∃ n,nsym g = n:=⟨_,rfl⟩
      have hn80 : n ≤ 80:=by rw [← hn];unfold nsym;omega
      have hn1 : 1 ≤ n:=by rw [← hn];unfold nsym;omega
      have htn : g.terms.length ≤ n:=by rw [← hn];unfold nsym;omega
      have e1 : IntKind.i64.wrap ((g.terms.length : Int) + (g.names.length : Int)) = (n : Int):=by rw [IntWalk.i64_in _ (by omega),← hn];unfold nsym;omega
      have HN:=Lib.hid hn
      have HGD:=Lib.hid hgd
      clear hn hgd hHeld hb1_1 hb1_4
      have K1:=Aside0.mk (blk_below HP0.out HX4.out)
      have a1:=(blk_cell K1.out 0).trans rfl
      have a2:=(blk_cell K1.out 1).trans rfl
      obtain ⟨s,hs⟩ : ∃ s : Nat,wh % (n : Int) = s:=⟨(wh % (n : Int)).toNat,by have:=Int.emod_nonneg wh (show (n : Int) ≠ 0 by omega);omega⟩
      have hsn : s < n:=by have:=Int.emod_lt_of_pos wh (show (0 : Int) < n by omega);omega
      have ht : IntKind.i64.wrap wh = wh:=by rw [IntWalk.i64_in _ (by omega)]
      have ht2 : wh.tmod (n : Int) = (s : Int):=by rw [Int.tmod_eq_emod_of_nonneg hw.1,hs]
      have hn0 : ¬ n = 0:=by omega
      clear hs
      go_upto_region 5 with (fail)
      clear e1 a1 a2 ht ht2 hn0
      refine pl_start ?_
      refine pl_held (B:=v0.heap.size) (v:=v0) (HX4.out) (fun hHeld => ?_)
      refine pp_ ?_ ?_ ?_ (y:=by have d0:=(blk_cell (blk_below HP0.out hHeld) 0).trans rfl;have d1:=(blk_cell (blk_below HP0.out hHeld) 1).trans rfl;have d2:=(blk_cell (blk_below HP0.out hHeld) 2).trans rfl;go_simp;rfl)
      refine goesCL_ (N:=(some 34)) Try.func31 (by kernel_rfl) rfl (by rfl) rfl rfl (sets_yes g A1 A2 A3 c1 c2 c3 _ (HG0.out.below_ hHeld) HGD.out HN.out) (by simp [Act.eval]) ?_
      rintro e x5_1 ⟨⟨vs,rfl,hvs⟩,hb5_1⟩
      refine ⟨_,rfl,?_⟩
      simp only [Act.put,List.setIfInBounds_toArray,List.set_cons_zero,List.set_cons_succ]
      obtain ⟨Sa,sc,rfl⟩:=Kd.R_slice hvs
      have HSS:=Aside0.mk (Kd.R_reads' hvs).2.2
      refine pl_held (B:=v0.heap.size) (v:=v0) (below_then hHeld hHeld.size hb5_1) (fun hHeld => ?_)
      refine pp_ ?_ ?_ ?_
      refine pl_nil ?_
      have HV5:=Aside0.mk (below_then HB0.out HB0.out.size hHeld)
      have K5:=Aside0.mk (blk_below HP0.out hHeld)
      have HG5:=Aside0.mk (HG0.out.below_ hHeld)
      have LA : Aside0 ((setsF g).length = n):=⟨by rw [setsF_len,HN.out]⟩
      have hmf:=print_make_of (P:=Try.prog) 60 4 (.bool false) 1 Try.underlying60 (by kernel_rfl) rfl (by decide) n (by omega)
      clear hHeld hvs hb5_1 HX1 HX4 HP0 HG0 K1
      rename World => y0
      go_upto_region 6 with (fail)
      simp only [LA.out]
      obtain ⟨b,hb⟩ : ∃ b,b = y0.heap.size:=⟨_,rfl⟩
      obtain ⟨y1,hy1⟩ : ∃ y1,y1 = y0.alloc (.cells (madeCells #[.bool false] n) 4):=⟨_,rfl⟩
      have HZB : Aside0 (BB y1 b (List.replicate n false)):=⟨by rw [hy1,hb];exact BB.new _ _⟩
      have HY1 : Aside0 (Below y0.heap.size y0 y1):=⟨by rw [hy1];exact below_alloc (Below.refl _ _) _⟩
      have HQ : Aside0 (b = y0.heap.size):=⟨hb⟩
      obtain ⟨z,hz⟩ : ∃ z,y1.cell? ⟨b,s,none⟩ = some (.bool z):=⟨_,HZB.out.cell (by simpa using hsn)⟩
      have fz:=HZB.out.fz s
      have i2 : (s : Int) < (n : Int):=by omega
      go_upto_region 9 with (fail)
      simp only [← hy1,← hb]
      clear hy1 hb hmf
      go_upto_region 10 with (fail)
      have HZS : Aside0 (BB (y1.setCell ⟨b,s,none⟩ (.bool true)) b (setB (List.replicate n false) (s : Int))):=⟨by rw [setB,Int.toNat_natCast];exact HZB.out.set s true⟩
      have HYS : Aside0 (Below y0.heap.size y0 (y1.setCell ⟨b,s,none⟩ (.bool true))):=⟨below_set HY1.out (by rw [HQ.out];exact Nat.le_refl _) _ _⟩
      generalize y1.setCell ⟨b,s,none⟩ (.bool true) = y2 at HZS HYS ⊢
      have HLR : Aside0 (kInt.R 3 (y2.alloc (.cells #[.int .i64 s] 3)) y0.heap.size (fun _ => True) (.slice (some ⟨y2.heap.size,0,none⟩) 1 1) [(s : Int)]):=⟨by
        have:=own_lit y2 y0.heap.size 3 .i64 [(s : Int)] HYS.out.size (by simp)
        exact Kd.R_of_own this (fun k hk => trivial)⟩
      have HF0 : Aside0 (FB y0 (y2.alloc (.cells #[.int .i64 s] 3)) y0.heap.size b n g (s : Int) (.slice (some ⟨y2.heap.size,0,none⟩) 1 1) (setB (List.replicate n false) (s : Int)) [(s : Int)] 0 (-1)):=⟨⟨HZS.out.alloc _,HLR.out,HYS.out.alloc HYS.out.size _,by
        have:=RC.start (g:=headG g) (ok:=anyOk) (a:=(s : Int)) (n:=n) (by omega) (by omega)
        rw [addM,addQ,if_neg (by rw [getB_replicate];decide)] at this
        exact this,by rw [cnt_set (by omega) (by simpa using i2) (getB_replicate _ _),cnt_replicate];rfl,by rw [HQ.out];exact Nat.le_refl _,Nat.zero_le _⟩⟩
      clear HZS HYS HLR HZB HY1 hz fz
      go_wp2
      go_loopw [10,9] (fun iv lv wr => ∃ (i : Nat) (l : List Int) (m : List Bool),iv = .int .i64 i ∧ Aside0 (FB y0 wr y0.heap.size b n g (s : Int) lv m l i (-1))) (fun iv _ _ => n - (intOf iv).toNat)
      case atStart => exact ⟨0,_,_,rfl,HF0⟩
      case round =>
        clear HF0
        obtain ⟨i,l,m,rfl,HF⟩:=hrel
        rename World => wi
        obtain ⟨Al,cl,rfl⟩:=Kd.R_slice HF.out.row
        have hln:=HF.out.len
        by_cases hil : i < l.length
        · have i1 : (0 : Int) ≤ (i : Int):=by omega
          have i2' : (i : Int) < (l.length : Int):=by omega
          have HF1:=Aside0.mk (HF.out.take hil)
          have HXI : Aside0 (l[i]? = some (l[i]'hil)):=⟨List.getElem?_eq_getElem hil⟩
          have HXM : Aside0 (getB m (l[i]'hil) = true):=⟨HF.out.rc.mark _ (by rw [List.drop_eq_getElem_cons hil];exact List.mem_cons_self)⟩
          obtain ⟨x,hx⟩ : ∃ x,x = l[i]'hil:=⟨_,rfl⟩
          rw [← hx] at HF1 HXI HXM
          clear hx HF
          go_wp2
          go_loopw [11,9] (fun rv lv wr => ∃ (j : Nat) (l : List Int) (m : List Bool),j ≤ g.rules.length ∧ rv = .int .i64 j ∧ Aside0 (FB y0 wr y0.heap.size b n g (s : Int) lv m l (i + 1) x) ∧ Aside0 (l[i]? = some x) ∧ Aside0 (getB m x = true) ∧ Aside0 (∀ r ∈ g.rules.take j,r.left = x → ∀ y ∈ heads (nullF g) r.right,getB m y = true)) (fun rv _ _ => g.rules.length - (intOf rv).toNat)
          case atStart => exact ⟨0,l,m,Nat.zero_le _,rfl,HF1,HXI,HXM,⟨fun r hr => by simp at hr⟩⟩
          case round =>
            clear HF1 HXI HXM
            clear hil i2' hln
            obtain ⟨j,l,m,hj,rfl,HF,HXI,HXM,HCL⟩:=hrel
            rename World => wj
            obtain ⟨Al,cl,rfl⟩:=Kd.R_slice HF.out.row
            have KJ:=Aside0.mk (blk_below K5.out HF.out.below)
            have a2:=(blk_cell KJ.out 2).trans rfl
            by_cases hjl : j < g.rules.length
            · obtain ⟨ad,R1,d1,ead,hx0,hy0,hd1,hC1⟩:=at_rule HG5.out.rules j hjl
              cases ead
              have HX0:=Aside0.mk hx0
              have HY0:=Aside0.mk hy0
              have HC0:=Aside0.mk hC1
              have HTK:=Lib.hid (List.take_succ_eq_append_getElem hjl)
              have HRM:=Aside0.mk (List.getElem_mem hjl)
              obtain ⟨r,hr⟩ : ∃ r,r = g.rules[j]'hjl:=⟨_,rfl⟩
              rw [← hr] at HX0 HY0 HC0 HTK HRM
              have hrm:=C_max hC1
              rw [← hr] at hrm
              clear hr hx0 hy0 hd1 hC1
              have j1 : (0 : Int) ≤ (j : Int):=by omega
              have j2 : (j : Int) < (g.rules.length : Int):=by omega
              have hil : i < l.length:=(List.getElem?_eq_some_iff.1 HXI.out).1
              have i2' : (i : Int) < (l.length : Int):=by omega
              obtain ⟨ae,eae,hyl⟩:=at_int (Kd.R_reads' HF.out.row).2.2 i hil
              cases eae
              have hxl : l[i]'hil = x:=(List.getElem?_eq_some_iff.1 HXI.out).2
              rw [hxl] at hyl
              have HYL:=Aside0.mk hyl
              have HHX:=Aside0.mk (pw_cell_below HF.out.below HX0.out)
              clear hxl hyl
              by_cases hle : r.left = x
              · have e2 : (r.left != x) = false:=by simpa using hle
                have HLE:=Lib.hid hle
                have HCL0 : Aside0 (∀ y ∈ r.right.take 0,getB m y = true):=⟨fun y hy => by simp at hy⟩
                go_upto_region 17 with (fail)
                refine start_ (n:=11) (S:=fun w' => Below wj.heap.size wj w') (ds:=[]) (lb 11 0x0) (by kernel_rfl) rfl (by kernel_rfl) (below_drew1 (Below.refl _ _)) (fun hHeld => ?_)
                refine pu_ ?_ ?_ 0 (some 59) (lb 11 0x1) ?_
                refine pu_ ?_ ?_ 2 (some 61) (lb 11 0x5) ?_
                refine pu_ ?_ ?_ 6 (some 65) (lb 11 0x45) ?_
                refine pu_ ?_ ?_ 7 (some 66) (lb 11 0xc5) ?_
                refine pu_ ?_ ?_ 8 (some 67) (lb 11 0x1c5) ?_
                refine ta_ ?_ ?_ 1 (some 60) (lb 11 0x1c7) hHeld ?_ (y:=by rintro w' hS;have d0:=(blk_cell (blk_below KJ.out hS) 0).trans rfl;have d1:=(blk_cell (blk_below KJ.out hS) 1).trans rfl;have d2:=(blk_cell (blk_below KJ.out hS) 2).trans rfl;have d3:=cell_at hS HHX.out;have d4:=cell_at hS HYL.out;go_simp;with_reducible rfl)
                refine pu_ ?_ ?_ 3 (some 62) (lb 11 0x1cf) ?_
                refine pu_ ?_ ?_ 4 (some 63) (lb 11 0x1df) ?_
                refine ta_ ?_ ?_ 5 (some 64) (lb 11 0x1ff) hHeld ?_ (y:=by rintro w' hS;have d0:=(blk_cell (blk_below KJ.out hS) 0).trans rfl;have d1:=(blk_cell (blk_below KJ.out hS) 1).trans rfl;have d2:=(blk_cell (blk_below KJ.out hS) 2).trans rfl;have d3:=cell_at hS HHX.out;have d4:=cell_at hS HYL.out;go_simp;with_reducible rfl)
                refine ta_ ?_ ?_ 9 (some 68) (lb 11 0x3ff) hHeld ?_ (y:=by rintro w' hS;have d0:=(blk_cell (blk_below KJ.out hS) 0).trans rfl;have d1:=(blk_cell (blk_below KJ.out hS) 1).trans rfl;have d2:=(blk_cell (blk_below KJ.out hS) 2).trans rfl;have d3:=cell_at hS HHX.out;have d4:=cell_at hS HYL.out;go_simp;with_reducible rfl)
                refine pu_ ?_ ?_ 10 (some 69) (lb 11 0x7ff) ?_
                refine done_ (by kernel_rfl) ?_
                have HF2:=Aside0.mk (HF.out.below_ hHeld HF.out.below.size)
                clear hHeld KJ HHX HYL e2 HF hle
                go_wp2
                go_loopw [12,9] (fun kv lv wr => ∃ (k : Nat) (l : List Int) (m : List Bool),k ≤ r.right.length ∧ kv = .int .i64 k ∧ Aside0 (FB y0 wr y0.heap.size b n g (s : Int) lv m l (i + 1) x) ∧ Aside0 (l[i]? = some x) ∧ Aside0 (getB m x = true) ∧ Aside0 (∀ r ∈ g.rules.take j,r.left = x → ∀ y ∈ heads (nullF g) r.right,getB m y = true) ∧ Aside0 (allF (nullF g) (r.right.take k) = true) ∧ Aside0 (∀ y ∈ r.right.take k,getB m y = true)) (fun kv _ _ => r.right.length - (intOf kv).toNat)
                case atStart => exact ⟨0,l,m,Nat.zero_le _,rfl,HF2,HXI,HXM,HCL,⟨by simp [allF]⟩,HCL0⟩
                case round =>
                  clear HF2 HXI HXM HCL HCL0
                  clear hil i2'
                  obtain ⟨k,l,m,hk,rfl,HF,HXI,HXM,HCL,HAL,HCK⟩:=hrel
                  rename World => wk
                  obtain ⟨Al,cl,rfl⟩:=Kd.R_slice HF.out.row
                  have KK:=Aside0.mk (blk_below K5.out HF.out.below)
                  have a2:=(blk_cell KK.out 2).trans rfl
                  have hy:=pw_cell_below HF.out.below HY0.out
                  by_cases hkl : k < r.right.length
                  · obtain ⟨ar,ear,hz0⟩:=at_int HC0.out k hkl
                    cases ear
                    have hzk:=pw_cell_below HF.out.below hz0
                    have hin:=right_in HGD.out HRM.out _ (List.getElem_mem hkl)
                    have HHM:=Aside0.mk (heads_mem HAL.out hkl)
                    have HTR:=Lib.hid (List.take_succ_eq_append_getElem hkl)
                    have HCT:=Aside0.mk (fun hn => heads_cut HAL.out hkl hn)
                    have HAT:=Lib.hid (allF_take (m:=nullF g) hkl)
                    obtain ⟨y,hy1⟩ : ∃ y,y = r.right[k]'hkl:=⟨_,rfl⟩
                    rw [← hy1] at hzk hin HHM HTR HCT HAT
                    clear hy1 hz0
                    obtain ⟨ys,rfl⟩:=Int.eq_ofNat_of_zero_le hin.1
                    have hyn : ys < n:=by have:=hin.2;rw [HN.out] at this;omega
                    have j3 : (ys : Int) < (n : Int):=by omega
                    have j4 : (k : Int) < (r.right.length : Int):=by omega
                    have j5 : (0 : Int) ≤ (k : Int):=by omega
                    obtain ⟨vb,hvb⟩ : ∃ c,getB (nullF g) (ys : Int) = c:=⟨_,rfl⟩
                    have HVB:=Lib.hid hvb
                    have HAB : Aside0 (allB g [(ys : Int)] = vb):=⟨by rw [allB,HGD.out,← hvb];simp [allF]⟩
                    have HXL:=Aside0.mk (show getB m r.left = true by rw [HLE.out];exact HXM.out)
                    have HLX:=Aside0.mk (HF.out.le (s:=(ys : Int)) (by omega) (by omega))
                    have HLL:=Aside0.mk HF.out.len
                    clear hin hvb
                    obtain ⟨gb,hgb⟩ : ∃ c,getB m (ys : Int) = c:=⟨_,rfl⟩
                    have z:=HF.out.bb.cell' (i:=ys) (by rw [HF.out.old];exact hyn) hgb
                    have fz:=HF.out.bb.fz ys
                    have HGB:=Lib.hid hgb
                    have HBX:=Aside0.mk HF.out.bb
                    have HRW:=Aside0.mk HF.out.row
                    have HBW:=Aside0.mk HF.out.below
                    have HLB:=Aside0.mk HF.out.lb
                    clear hgb
                    cases gb
                    · have hbt : wk.heap[b]? = some (.cells (m.map Value.bool).toArray 4 (0,0)):=HBX.out
                      have HR1:=Aside0.mk (Kd.R_set HRW.out hbt (show ∀ q,q ∈ [3] → q ≠ 4 by decide) ys (.bool true))
                      have HB1:=Aside0.mk (below_set HBW.out HLB.out ys (.bool true))
                      clear hbt
                      go_upto_region 25 with (at_builtin;refine app_int (w0:=y0) (base:=y0.heap.size) (ok:=fun _ => True) (p:=(ys : Int)) rfl rfl HR1.out HB1.out HB1.out.size (by have:=HLL.out;omega) (fun _ _ => trivial) rfl (by simp [Act.eval]) ?_;intro v2 w2 A2;obtain ⟨A',c',rfl⟩:=A2.shape;have HF2:=Aside0.mk (HF.out.add HRM.out HXL.out HHM.out hyn HGB.out A2);clear A2)
                      have HXI2 : Aside0 ((l ++ [(ys : Int)])[i]? = some x):=⟨by have hh:=HXI.out;have hi:=(List.getElem?_eq_some_iff.1 hh).1;rw [List.getElem?_append_left hi];exact hh⟩
                      have HXM2 : Aside0 (getB (setB m (ys : Int)) x = true):=⟨HLX.out.2 _ HXM.out⟩
                      have HCL2 : Aside0 (∀ r ∈ g.rules.take j,r.left = x → ∀ y ∈ heads (nullF g) r.right,getB (setB m (ys : Int)) y = true):=⟨fun r hr hl y hy => HLX.out.2 _ (HCL.out r hr hl y hy)⟩
                      have HCK2 : Aside0 (∀ y ∈ r.right.take (k + 1),getB (setB m (ys : Int)) y = true):=⟨fun y hy => by
                        rw [HTR.out] at hy
                        rcases List.mem_append.1 hy with hy | hy
                        · exact HLX.out.2 _ (HCK.out y hy)
                        · rw [List.mem_singleton.1 hy,getB_set (by omega) (by rw [HF.out.old];omega)];simp⟩
                      generalize l ++ [(ys : Int)] = l2 at HF2 HXI2
                      generalize setB m (ys : Int) = m2 at HF2 HXM2 HCL2 HCK2
                      rename World => wq
                      have KQ:=Aside0.mk (blk_below K5.out HF2.out.below)
                      have HGQ:=Aside0.mk (HG5.out.below_ HF2.out.below)
                      have HLN:=Aside0.mk (HF2.out.len)
                      clear a2 hy hzk z fz
                      refine pl_start ?_
                      refine pl_held (B:=wq.heap.size) (v:=wq) (Below.refl _ _) (fun hHeld => ?_)
                      refine pp_ ?_ ?_ ?_ (y:=by have d0:=(blk_cell (blk_below KQ.out hHeld) 0).trans rfl;have d1:=(blk_cell (blk_below KQ.out hHeld) 1).trans rfl;have d2:=(blk_cell (blk_below KQ.out hHeld) 2).trans rfl;go_simp;rfl)
                      refine pp_ ?_ ?_ ?_
                      refine pl_alloc (N:=(some 104)) (v:=?v5) (o:=?o5) (by rfl) rfl ?h5 ?_
                      case h5 => (go_simp;first | rfl | (constructor;rfl;rfl))
                      intro x25_2 hb25_2 hx25_2 hs25_2 hq25_2
                      simp only [Act.put,List.setIfInBounds_toArray,List.set_cons_zero,List.set_cons_succ]
                      refine pl_held (B:=wq.heap.size) (v:=wq) (below_then hHeld hHeld.size hb25_2) (fun hHeld => ?_)
                      refine goesCL_ (N:=(some 105)) Try.func36 (by kernel_rfl) rfl (by rfl) rfl rfl (allP_c g A1 A2 (some ad) c1 c2 c3 (some ⟨wq.heap.size,0,none⟩) 1 [(ys : Int)] _ (HGQ.out.below_ hHeld) (ints_C (xs:=[(ys : Int)]) hx25_2 (by simp)) HAB.out) (by simp [Act.eval]) ?_
                      rintro e x25_3 ⟨rfl,hb25_3⟩
                      refine ⟨_,rfl,?_⟩
                      simp only [Act.put,List.setIfInBounds_toArray,List.set_cons_zero,List.set_cons_succ]
                      refine pl_held (B:=wq.heap.size) (v:=wq) (below_then hHeld hHeld.size hb25_3) (fun hHeld => ?_)
                      refine pp_ ?_ ?_ ?_
                      refine pl_nil ?_
                      have HF5:=Aside0.mk (HF2.out.below_ hHeld HF2.out.below.size)
                      clear hHeld hx25_2 hb25_2 hs25_2 hq25_2 hb25_3
                      cases vb
                      · have HCL5 : Aside0 (∀ r ∈ g.rules.take (j + 1),r.left = x → ∀ y ∈ heads (nullF g) r.right,getB m2 y = true):=⟨fun r' hr' hl => by
                          rw [HTK.out] at hr'
                          rcases List.mem_append.1 hr' with hr' | hr'
                          · exact HCL2.out r' hr' hl
                          · rw [List.mem_singleton.1 hr',HCT.out HVB.out];exact HCK2.out⟩
                        go_wp2
                        go_roundw
                        case rel => exact ⟨j + 1,l2,m2,by omega,by go_num,HF5,HXI2,HXM2,HCL5⟩
                        case measure => simp [intOf];omega
                      · have HAL5 : Aside0 (allF (nullF g) (r.right.take (k + 1)) = true):=⟨by rw [HAT.out,HAL.out,HVB.out];rfl⟩
                        go_wp2
                        go_roundw
                        case rel => exact ⟨k + 1,l2,m2,by omega,by go_num,HF5,HXI2,HXM2,HCL2,HAL5,HCK2⟩
                        case measure => simp [intOf];omega
                    · have HCK2 : Aside0 (∀ y ∈ r.right.take (k + 1),getB m y = true):=⟨fun y hy => by
                        rw [HTR.out] at hy
                        rcases List.mem_append.1 hy with hy | hy
                        · exact HCK.out y hy
                        · rw [List.mem_singleton.1 hy];exact HGB.out⟩
                      go_upto_region 25 with (fail)
                      have KQ:=Aside0.mk (blk_below K5.out HF.out.below)
                      have HGQ:=Aside0.mk (HG5.out.below_ HF.out.below)
                      have HLN:=Aside0.mk (HF.out.len)
                      clear a2 hy hzk z fz
                      refine pl_start ?_
                      refine pl_held (B:=wk.heap.size) (v:=wk) (Below.refl _ _) (fun hHeld => ?_)
                      refine pp_ ?_ ?_ ?_ (y:=by have d0:=(blk_cell (blk_below KQ.out hHeld) 0).trans rfl;have d1:=(blk_cell (blk_below KQ.out hHeld) 1).trans rfl;have d2:=(blk_cell (blk_below KQ.out hHeld) 2).trans rfl;go_simp;rfl)
                      refine pp_ ?_ ?_ ?_
                      refine pl_alloc (N:=(some 104)) (v:=?v10) (o:=?o10) (by rfl) rfl ?h10 ?_
                      case h10 => (go_simp;first | rfl | (constructor;rfl;rfl))
                      intro x25_2 hb25_2 hx25_2 hs25_2 hq25_2
                      simp only [Act.put,List.setIfInBounds_toArray,List.set_cons_zero,List.set_cons_succ]
                      refine pl_held (B:=wk.heap.size) (v:=wk) (below_then hHeld hHeld.size hb25_2) (fun hHeld => ?_)
                      refine goesCL_ (N:=(some 105)) Try.func36 (by kernel_rfl) rfl (by rfl) rfl rfl (allP_c g A1 A2 (some ad) c1 c2 c3 (some ⟨wk.heap.size,0,none⟩) 1 [(ys : Int)] _ (HGQ.out.below_ hHeld) (ints_C (xs:=[(ys : Int)]) hx25_2 (by simp)) HAB.out) (by simp [Act.eval]) ?_
                      rintro e x25_3 ⟨rfl,hb25_3⟩
                      refine ⟨_,rfl,?_⟩
                      simp only [Act.put,List.setIfInBounds_toArray,List.set_cons_zero,List.set_cons_succ]
                      refine pl_held (B:=wk.heap.size) (v:=wk) (below_then hHeld hHeld.size hb25_3) (fun hHeld => ?_)
                      refine pp_ ?_ ?_ ?_
                      refine pl_nil ?_
                      have HF5:=Aside0.mk (HF.out.below_ hHeld HF.out.below.size)
                      clear hHeld hx25_2 hb25_2 hs25_2 hq25_2 hb25_3
                      cases vb
                      · have HCL5 : Aside0 (∀ r ∈ g.rules.take (j + 1),r.left = x → ∀ y ∈ heads (nullF g) r.right,getB m y = true):=⟨fun r' hr' hl => by
                          rw [HTK.out] at hr'
                          rcases List.mem_append.1 hr' with hr' | hr'
                          · exact HCL.out r' hr' hl
                          · rw [List.mem_singleton.1 hr',HCT.out HVB.out];exact HCK2.out⟩
                        go_wp2
                        go_roundw
                        case rel => exact ⟨j + 1,l,m,by omega,by go_num,HF5,HXI,HXM,HCL5⟩
                        case measure => simp [intOf];omega
                      · have HAL5 : Aside0 (allF (nullF g) (r.right.take (k + 1)) = true):=⟨by rw [HAT.out,HAL.out,HVB.out];rfl⟩
                        go_wp2
                        go_roundw
                        case rel => exact ⟨k + 1,l,m,by omega,by go_num,HF5,HXI,HXM,HCL,HAL5,HCK2⟩
                        case measure => simp [intOf];omega
                  · have hke : r.right.take k = r.right:=List.take_of_length_le (by omega)
                    have HCL2 : Aside0 (∀ r ∈ g.rules.take (j + 1),r.left = x → ∀ y ∈ heads (nullF g) r.right,getB m y = true):=⟨fun r' hr' hl => by
                      rw [HTK.out] at hr'
                      rcases List.mem_append.1 hr' with hr' | hr'
                      · exact HCL.out r' hr' hl
                      · rw [List.mem_singleton.1 hr']
                        have h2:=HAL.out
                        rw [hke] at h2
                        rw [heads_whole h2,← hke]
                        exact HCK.out⟩
                    clear hke
                    go_wp2
                    go_roundw
                    case rel => exact ⟨j + 1,l,m,by omega,by go_num,HF,HXI,HXM,HCL2⟩
                    case measure => simp [intOf];omega
              · have e2 : (r.left != x) = true:=by simpa using hle
                go_upto_region 17 with (fail)
                refine start_ (n:=11) (S:=fun w' => Below wj.heap.size wj w') (ds:=[]) (lb 11 0x0) (by kernel_rfl) rfl (by kernel_rfl) (below_drew1 (Below.refl _ _)) (fun hHeld => ?_)
                refine pu_ ?_ ?_ 0 (some 59) (lb 11 0x1) ?_
                refine pu_ ?_ ?_ 2 (some 61) (lb 11 0x5) ?_
                refine pu_ ?_ ?_ 6 (some 65) (lb 11 0x45) ?_
                refine pu_ ?_ ?_ 7 (some 66) (lb 11 0xc5) ?_
                refine pu_ ?_ ?_ 8 (some 67) (lb 11 0x1c5) ?_
                refine ta_ ?_ ?_ 1 (some 60) (lb 11 0x1c7) hHeld ?_ (y:=by rintro w' hS;have d0:=(blk_cell (blk_below KJ.out hS) 0).trans rfl;have d1:=(blk_cell (blk_below KJ.out hS) 1).trans rfl;have d2:=(blk_cell (blk_below KJ.out hS) 2).trans rfl;have d3:=cell_at hS HHX.out;have d4:=cell_at hS HYL.out;go_simp;with_reducible rfl)
                refine pu_ ?_ ?_ 3 (some 62) (lb 11 0x1cf) ?_
                refine pu_ ?_ ?_ 4 (some 63) (lb 11 0x1df) ?_
                refine ta_ ?_ ?_ 5 (some 64) (lb 11 0x1ff) hHeld ?_ (y:=by rintro w' hS;have d0:=(blk_cell (blk_below KJ.out hS) 0).trans rfl;have d1:=(blk_cell (blk_below KJ.out hS) 1).trans rfl;have d2:=(blk_cell (blk_below KJ.out hS) 2).trans rfl;have d3:=cell_at hS HHX.out;have d4:=cell_at hS HYL.out;go_simp;with_reducible rfl)
                refine ta_ ?_ ?_ 9 (some 68) (lb 11 0x3ff) hHeld ?_ (y:=by rintro w' hS;have d0:=(blk_cell (blk_below KJ.out hS) 0).trans rfl;have d1:=(blk_cell (blk_below KJ.out hS) 1).trans rfl;have d2:=(blk_cell (blk_below KJ.out hS) 2).trans rfl;have d3:=cell_at hS HHX.out;have d4:=cell_at hS HYL.out;go_simp;with_reducible rfl)
                refine pu_ ?_ ?_ 10 (some 69) (lb 11 0x7ff) ?_
                refine done_ (by kernel_rfl) ?_
                have HF2:=Aside0.mk (HF.out.below_ hHeld HF.out.below.size)
                have HCL2 : Aside0 (∀ r ∈ g.rules.take (j + 1),r.left = x → ∀ y ∈ heads (nullF g) r.right,getB m y = true):=⟨fun r' hr' hl => by
                  rw [HTK.out] at hr'
                  rcases List.mem_append.1 hr' with hr' | hr'
                  · exact HCL.out r' hr' hl
                  · rw [List.mem_singleton.1 hr'] at hl;exact absurd hl hle⟩
                go_wp2
                go_roundw
                case rel => exact ⟨j + 1,l,m,by omega,by go_num,HF2,HXI,HXM,HCL2⟩
                case measure => simp [intOf];omega
            · have HFS:=Aside0.mk (HF.out.shut (fun r hr => HCL.out r (by rw [List.take_of_length_le (by omega)];exact hr)))
              have hin : i + 1 ≤ n:=Nat.le_trans HF.out.il HF.out.len
              go_wp2
              go_roundw
              case rel => exact ⟨i + 1,l,m,by go_num,HFS⟩
              case measure => simp [intOf];omega
        · have HRC : Aside0 (RC (headG g) anyOk (s : Int) n m [] (-1)):=⟨by have:=HF.out.rc;rwa [List.drop_eq_nil_of_le (by omega)] at this⟩
          have HBI:=Aside0.mk (begins_is HGD.out (by rw [HN.out];exact hsn) HN.out HRC.out)
          have HSI:=Aside0.mk (Kd.C_below HSS.out HF.out.below)
          have KI:=Aside0.mk (blk_below K5.out HF.out.below)
          have hsb : s < (setsF g).length:=by rw [LA.out];exact hsn
          obtain ⟨sd,Ab,cb,esd,hxb,hcb,hCb⟩:=at_row HSI.out s hsb
          cases esd
          rw [setsF_at hsb] at hxb hCb
          have HXB:=Aside0.mk hxb
          have HCB:=Aside0.mk hCb
          have HML:=Aside0.mk HF.out.old
          have HTC : Aside0 (Kd.bool.C wi (some ⟨b,0,none⟩) g.terms.length (rowT (firstF g) (s : Int))):=⟨by
            have h1:=Kd.C_take (m:=g.terms.length) (HF.out.bb.C (by rw [HML.out];omega)) (by rw [HML.out];exact htn)
            rw [List.length_take,HML.out,Nat.min_eq_left htn,HBI.out] at h1
            exact h1⟩
          have HBW:=Aside0.mk HF.out.below
          have t1 : (0 : Int) ≤ (g.terms.length : Int):=by omega
          have t2 : (g.terms.length : Int) ≤ (n : Int):=by omega
          clear hcb hCb hxb hsb HF
          go_upto_region 26 with (fail)
          refine start_ (n:=14) (S:=fun w' => Below wi.heap.size wi w') (ds:=[]) (lb 14 0x0) (by kernel_rfl) rfl (by kernel_rfl) (below_drew1 (Below.refl _ _)) (fun hHeld => ?_)
          refine pu_ ?_ ?_ 0 (some 107) (lb 14 0x1) ?_
          refine pu_ ?_ ?_ 1 (some 108) (lb 14 0x3) ?_
          refine pu_ ?_ ?_ 5 (some 112) (lb 14 0x23) ?_
          refine pu_ ?_ ?_ 6 (some 113) (lb 14 0x63) ?_
          refine pu_ ?_ ?_ 7 (some 114) (lb 14 0xe3) ?_
          refine ta_ ?_ ?_ 2 (some 109) (lb 14 0xe7) hHeld ?_ (y:=by rintro w' hS;have d0:=(blk_cell (blk_below KI.out hS) 0).trans rfl;have d1:=(blk_cell (blk_below KI.out hS) 1).trans rfl;have d2:=(blk_cell (blk_below KI.out hS) 2).trans rfl;have d3:=cell_at hS HXB.out;go_simp;with_reducible rfl)
          refine pu_ ?_ ?_ 3 (some 110) (lb 14 0xef) ?_
          refine pu_ ?_ ?_ 4 (some 111) (lb 14 0xff) ?_
          refine ta_ ?_ ?_ 8 (some 115) (lb 14 0x1ff) hHeld ?_ (y:=by rintro w' hS;have d0:=(blk_cell (blk_below KI.out hS) 0).trans rfl;have d1:=(blk_cell (blk_below KI.out hS) 1).trans rfl;have d2:=(blk_cell (blk_below KI.out hS) 2).trans rfl;have d3:=cell_at hS HXB.out;go_simp;with_reducible rfl)
          refine on_ 9 (some 116) (lb 14 0x3ff) (fun K hK => ?_)
          (refine goesC_ Try.func35 (by kernel_rfl) rfl (by rfl) rfl rfl (same_c (some ⟨b,0,none⟩) Ab g.terms.length n cb _ (rowT (firstF g) (s : Int)) (membF (rowT (firstF g) (s : Int))) _ (Kd.C_below HTC.out hHeld) (Kd.C_below HCB.out hHeld) (v:=true) (decide_eq_true rfl)) (by simp [Act.eval]) ?_;rintro e w9 ⟨rfl,hb9⟩;refine ⟨_,rfl,?_⟩;have HQ9:=Aside0.mk (below_then hHeld hHeld.size hb9);clear hb9;refine hK.out _ _ HQ9.out (fun hHeld => ?_))
          clear hK K
          refine nm_ ?_ (some 116) ?_
          refine pu_ ?_ ?_ 10 (some 117) (lb 14 0x7ff) ?_
          refine on_ 11 (some 118) (lb 14 0xfff) (fun K hK => ?_)
          (refine goesC_ Try.func27 (by kernel_rfl) rfl (by rfl) rfl rfl (wakes08_c _) (by simp [Act.eval]) ?_;rintro e w9 ⟨rfl,hb9⟩;refine ⟨_,rfl,?_⟩;have HQ9:=Aside0.mk (below_then hHeld hHeld.size hb9);clear hb9;refine hK.out _ _ HQ9.out (fun hHeld => ?_))
          clear hK K
          refine nm_ ?_ (some 118) ?_
          refine pu_ ?_ ?_ 12 (some 119) (lb 14 0x1fff) ?_
          refine pu_ ?_ ?_ 13 (some 4) (lb 14 0x3fff) ?_
          refine done_ (by kernel_rfl) ?_
          go_wp2
          go_ret
          exact ⟨ret_bool rfl,below_then HV5.out HV5.out.size (below_then HBW.out HBW.out.size hHeld)⟩
  · refine pp_ ?_ ?_ ?_
    refine pf_ ?_ ?_
    refine pf_ ?_ ?_
    refine pf_ ?_ ?_
    refine pp_ ?_ ?_ ?_
    refine pl_nil ?_
    go_upto_region 2 with (fail)
    refine pl_start ?_
    refine pl_held (B:=v0.heap.size) (v:=v0) (HX1.out) (fun hHeld => ?_)
    refine goesCL_ (N:=(some 21)) Try.func27 (by kernel_rfl) rfl (by rfl) rfl rfl (wakes08_c _) (by simp [Act.eval]) ?_
    rintro e x2_0 ⟨rfl,hb2_0⟩
    refine ⟨_,rfl,?_⟩
    simp only [Act.put,List.setIfInBounds_toArray,List.set_cons_zero,List.set_cons_succ]
    refine pl_held (B:=v0.heap.size) (v:=v0) (below_then hHeld hHeld.size hb2_0) (fun hHeld => ?_)
    refine pp_ ?_ ?_ ?_
    refine pl_nil ?_
    go_wp2
    go_ret
    exact ⟨ret_bool rfl,below_then HB0.out HB0.out.size hHeld⟩
end Go.Proofs.Ytdpdbgaoaibafaa
