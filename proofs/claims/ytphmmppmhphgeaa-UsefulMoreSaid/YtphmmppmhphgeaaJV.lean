/- Texts P12,V1,joined: contracts of functions of the program,and plain laws;each says what it proves. -/
import Derived.Test.YtphmmppmhphgeaaJN
import Derived.Test.YtphmmppmhphgeaaJE
/- Rounds by what the round ahead has: as many as there are nonterminals. -/
set_option linter.unusedVariables false
set_option linter.unusedSimpArgs false
namespace Go.Proofs.Ytphmmppmhphgeaa

def jacG (m : List Bool) : Horn → List Bool → List Bool
  | [],a => a
  | x :: R,a => jacG m R (if allF m x.1 = true then setB a x.2 else a)
def jac (R : Horn) (m : List Bool) : List Bool:=jacG m R m
theorem jacG_append (m : List Bool) (R S : Horn) (a : List Bool) : jacG m (R ++ S) a = jacG m S (jacG m R a):=by
  induction R generalizing a with
  | nil => rfl
  | cons x R ih => exact ih _
theorem jacG_take {m : List Bool} {R : Horn} {a : List Bool} {j : Nat} (h : j < R.length) : jacG m (R.take (j + 1)) a = (if allF m (R[j]'h).1 = true then setB (jacG m (R.take j) a) (R[j]'h).2 else jacG m (R.take j) a):=by
  rw [List.take_succ_eq_append_getElem h,jacG_append]
  rfl
theorem jacG_len (m : List Bool) : ∀ (R : Horn) (a : List Bool),(jacG m R a).length = a.length
  | [],a => rfl
  | x :: R,a => by
    rw [jacG,jacG_len m R]
    split
    · exact setB_len _ _
    · rfl
theorem jacG_le {n : Nat} (m : List Bool) : ∀ {R : Horn} {a : List Bool},InR n R → a.length = n → LeB a (jacG m R a)
  | [],a,_,_ => LeB.refl a
  | x :: R,a,hR,hl => by
    rw [jacG]
    have hx:=hR x List.mem_cons_self
    split
    · exact (LeB.set a hx.1 (by omega)).trans (jacG_le m (fun y hy => hR y (List.mem_cons_of_mem _ hy)) (by rw [setB_len];exact hl))
    · exact jacG_le m (fun y hy => hR y (List.mem_cons_of_mem _ hy)) hl
theorem jacG_has {n : Nat} (m : List Bool) : ∀ {R : Horn} {a : List Bool},InR n R → a.length = n → ∀ x ∈ R,allF m x.1 = true → getB (jacG m R a) x.2 = true
  | [],a,_,_ => fun x hx => by cases hx
  | x :: R,a,hR,hl => by
    intro y hy hya
    rw [jacG]
    have hx:=hR x List.mem_cons_self
    have hR' : InR n R:=fun y hy => hR y (List.mem_cons_of_mem _ hy)
    rcases List.mem_cons.1 hy with rfl | hy
    · rw [if_pos hya]
      exact (jacG_le m hR' (by rw [setB_len];exact hl)).2 _ (by rw [getB_set hx.1 (by omega)];simp)
    · split
      · exact jacG_has m hR' (by rw [setB_len];exact hl) y hy hya
      · exact jacG_has m hR' hl y hy hya
theorem jacG_sound {n : Nat} {R0 : Horn} {I : Int → Prop} {m : List Bool} (hm : Sound R0 I m) : ∀ {R : Horn} {a : List Bool},(∀ x ∈ R,x ∈ R0) → InR n R → a.length = n → Sound R0 I a → Sound R0 I (jacG m R a)
  | [],a,_,_,_,h => h
  | x :: R,a,hs,hR,hl,h => by
    rw [jacG]
    have hx:=hR x List.mem_cons_self
    split
    · rename_i ha
      refine jacG_sound hm (fun y hy => hs y (List.mem_cons_of_mem _ hy)) (fun y hy => hR y (List.mem_cons_of_mem _ hy)) (by rw [setB_len];exact hl) ?_
      intro j hj
      rw [getB_set hx.1 (by omega),Bool.or_eq_true] at hj
      rcases hj with hj | hj
      · rw [of_decide_eq_true hj]
        rw [allF,List.all_eq_true] at ha
        exact .step (hs x List.mem_cons_self) (fun z hz => hm z (ha z hz))
      · exact h j hj
    · exact jacG_sound hm (fun y hy => hs y (List.mem_cons_of_mem _ hy)) (fun y hy => hR y (List.mem_cons_of_mem _ hy)) hl h
/-- A row that has none of its first T. -/
theorem cnt_top : ∀ {T : Nat} {m : List Bool},(∀ i : Nat,i < T → getB m (i : Int) = false) → cnt m ≤ m.length - T
  | 0,m,_ => by have:=cnt_le m;omega
  | T + 1,[],_ => by simp [cnt]
  | T + 1,a :: m,h => by
    have h0:=h 0 (by omega)
    rw [getB_nat] at h0
    have ha : a = false:=h0
    have h1:=cnt_top (T:=T) (m:=m) (fun i hi => by have:=h (i + 1) (by omega);rw [getB_nat,List.getD_cons_succ] at this;rw [getB_nat];exact this)
    subst ha
    have : cnt (false :: m) = cnt m:=by simp [cnt]
    rw [this,List.length_cons]
    omega
theorem der_not_term {g : Gram} (h : goodF g = true) {s : Int} (d : Der (hornN g) noneI s) : (g.terms.length : Int) ≤ s:=by
  cases d with
  | init h => exact h.elim
  | step hm _ =>
    obtain ⟨r,hr,he⟩:=List.mem_map.1 hm
    injection he with _ he
    rw [← he]
    exact (goodF_mem h r hr).1
theorem jac_null {g : Gram} (h : goodF g = true) : iter (jac (hornN g)) g.names.length (List.replicate (nsym g) false) = nullF g:=by
  have hlen : ∀ k,(iter (jac (hornN g)) k (List.replicate (nsym g) false)).length = nsym g:=by
    intro k
    induction k with
    | zero => simp [iter]
    | succ k ih => rw [iter_succ,jac,jacG_len];exact ih
  have hso : ∀ k,Sound (hornN g) noneI (iter (jac (hornN g)) k (List.replicate (nsym g) false)):=by
    intro k
    induction k with
    | zero => exact fun s hs => by rw [iter,getB_replicate] at hs;cases hs
    | succ k ih => rw [iter_succ];exact jacG_sound ih (fun _ h => h) (hornN_in h) (hlen k) ih
  have hfix:=iter_fix (f:=jac (hornN g)) (K:=g.names.length) (m:=List.replicate (nsym g) false) (fun k => jacG_le _ (hornN_in h) (hlen k)) (fun k => by
    have:=cnt_top (T:=g.terms.length) (m:=iter (jac (hornN g)) k (List.replicate (nsym g) false)) (fun i hi => by
      cases hb : getB (iter (jac (hornN g)) k (List.replicate (nsym g) false)) (i : Int) with
      | false => rfl
      | true => have:=der_not_term h (hso k _ hb);omega)
    rw [hlen k] at this
    rw [cnt_replicate]
    have hns : nsym g = g.terms.length + g.names.length:=rfl
    omega)
  refine (IsDer.mk' (hlen _) (hso _) ⟨fun s hs => hs.elim,fun x hx ha => ?_⟩).unique (nullF_is h)
  rw [← hfix]
  exact jacG_has _ (hornN_in h) (hlen _) x hx ha
end Go.Proofs.Ytphmmppmhphgeaa

/- The law NullableTells,walked: it answers true. -/
set_option linter.unusedVariables false
set_option linter.unusedSimpArgs false
namespace Go.Proofs.Ytphmmppmhphgeaa
open Go.RowKit Go.Proofs.YtphmmppmhphgeaaW.PrintWords Go.Proofs.YtphmmppmhphgeaaW.PrintLast

/-- Either answer,good grammar or not. -/
def OfAny (w : World) (l : List Bool) (e : Ending) (w' : World) : Prop:=∃ A c,e = .returned (.slice A l.length c) ∧ Kd.bool.C w' A l.length l
theorem ofN_any (g : Gram) (A1 A2 A3 : Option Addr) (c1 c2 c3 : Nat) (w : World) (hg : RepG w g A1 A2 A3 c1 c2 c3) : Calls Try.prog 30 #[.agg #[.slice A1 g.terms.length c1,.slice A2 g.names.length c2,.slice A3 g.rules.length c3]] w fun e w' => OfAny w (nullO g) e w' ∧ Below w.heap.size w w':=by
  cases h : goodF g
  · have hn : nullO g = []:=by unfold nullO;rw [h];rfl
    rw [hn]
    exact (ofN_no g A1 A2 A3 c1 c2 c3 w hg h).mono fun e w' ⟨he,hb⟩ => ⟨⟨none,0,he,C_none _ _⟩,hb⟩
  · have hn : nullO g = nullF g:=by unfold nullO;rw [h];rfl
    rw [hn]
    have hl:=nullF_len h
    have q:=goodF_small h
    exact (ofN_yes g A1 A2 A3 c1 c2 c3 w hg h).mono fun e w' ⟨⟨b,he,hbb,_⟩,hb⟩ => ⟨⟨some ⟨b,0,none⟩,_,he,hbb.C (by rw [hl];unfold nsym;omega)⟩,hb⟩
theorem ofR_any (g : Gram) (A1 A2 A3 : Option Addr) (c1 c2 c3 : Nat) (w : World) (hg : RepG w g A1 A2 A3 c1 c2 c3) (hz : Sized g) : Calls Try.prog 31 #[.agg #[.slice A1 g.terms.length c1,.slice A2 g.names.length c2,.slice A3 g.rules.length c3]] w fun e w' => OfAny w (nullO g) e w' ∧ Below w.heap.size w w':=by
  cases h : goodF g
  · have hn : nullO g = []:=by unfold nullO;rw [h];rfl
    rw [hn]
    exact (ofR_no g A1 A2 A3 c1 c2 c3 w hg hz h).mono fun e w' ⟨he,hb⟩ => ⟨⟨none,0,he,C_none _ _⟩,hb⟩
  · have hn : nullO g = nullF g:=by unfold nullO;rw [h];rfl
    rw [hn]
    have hl:=nullF_len h
    have q:=goodF_small h
    exact (ofR_yes g A1 A2 A3 c1 c2 c3 w hg hz h).mono fun e w' ⟨⟨b,he,hbb,_⟩,hb⟩ => ⟨⟨some ⟨b,0,none⟩,_,he,hbb.C (by rw [hl];unfold nsym;omega)⟩,hb⟩
theorem keepGrammar_v (g : Gram) (A1 A2 A3 B1 B2 B3 : Option Addr) (c1 c2 c3 d1 d2 d3 : Nat) (w : World) (hg : RepG w g A1 A2 A3 c1 c2 c3) (hh : RepG w g B1 B2 B3 d1 d2 d3) :
    Calls Try.prog 22 #[.agg #[.slice A1 g.terms.length c1,.slice A2 g.names.length c2,.slice A3 g.rules.length c3],.agg #[.slice B1 g.terms.length d1,.slice B2 g.names.length d2,.slice B3 g.rules.length d3]] w fun e w' => e = .returned (.bool true) ∧ Below w.heap.size w w':=by
  have:=keepGrammar_c g g A1 A2 A3 B1 B2 B3 c1 c2 c3 d1 d2 d3 w hg hh
  rwa [show sameF g g = true by simp [sameF]] at this
theorem keepInts_v (A B : Option Addr) (c d n m : Nat) (xs ys : List Int) (w : World) (hr : kInt.C w A n xs) (hs : kInt.C w B m ys) {v : Bool} (hv : decide (xs = ys) = v) :
    Calls Try.prog 36 #[.slice A n c,.slice B m d] w fun e w' => e = .returned (.bool v) ∧ Below w.heap.size w w':=by
  subst hv;exact keepInts_c A B c d n m xs ys w hr hs
theorem GSmall.own {g : Gram} (h : GSmall g) : g.terms.length ≤ 100000 ∧ g.names.length ≤ 100000 ∧ g.rules.length ≤ 100000 ∧ ∀ r ∈ g.rules,r.right.length ≤ 100000 :=
  ⟨by have:=h.terms;omega,by have:=h.names;omega,by have:=h.rules;omega,fun r hr => by have:=h.rights r hr;omega⟩

set_option maxRecDepth 100000 in
set_option maxHeartbeats 8000000 in
theorem nullTells_c (g : Gram) (A1 A2 A3 : Option Addr) (c1 c2 c3 : Nat) (i : Int) (L : Option Addr) (cl : Nat) (l : List Int) (w : World) (hg : RepG w g A1 A2 A3 c1 c2 c3) (hz : Sized g) (hi : -9223372036854775808 ≤ i ∧ i ≤ 9223372036854775807) (hl : kInt.C w L l.length l) :
    Calls Try.prog 8 #[.agg #[.slice A1 g.terms.length c1,.slice A2 g.names.length c2,.slice A3 g.rules.length c3],.int .i64 i,.slice L l.length cl] w fun e w' => e = .returned (.bool true) ∧ Below w.heap.size w w':=by
  obtain ⟨v0,hv0⟩ : ∃ v0 : World,v0 = w.alloc (.cells #[.slice A1 g.terms.length c1,.slice A2 g.names.length c2,.slice A3 g.rules.length c3] 25 (0,0)):=⟨_,rfl⟩
  have HB0 : Aside0 (Below w.heap.size w v0):=⟨by rw [hv0];exact (Below.refl w.heap.size w).alloc (Nat.le_refl _) _⟩
  have HP0 : Aside0 (v0.heap[w.heap.size]? = some (.cells #[.slice A1 g.terms.length c1,.slice A2 g.names.length c2,.slice A3 g.rules.length c3] 25 (0,0))):=⟨by rw [hv0];exact blk_new w _⟩
  have HG0:=Aside0.mk (hg.below_ HB0.out)
  have HL0:=Aside0.mk (Kd.C_below hl HB0.out)
  have HZ:=Aside0.mk hz
  have hlm:=C_max hl
  clear hg hz hl hi
  go_enter Try.func8,Try.ntmps8
  go_upto_region 1 with (fail)
  simp only [← hv0]
  clear hv0
  refine pl_start ?_
  refine pl_held (B:=v0.heap.size) (v:=v0) (Below.refl _ _) (fun hHeld => ?_)
  refine pl_pure (N:=(some 9)) (v:=?v20) (by rfl) rfl ?h20 ?_
  case h20 => (have d0:=(blk_cell (blk_below HP0.out hHeld) 0).trans rfl;have d1:=(blk_cell (blk_below HP0.out hHeld) 1).trans rfl;have d2:=(blk_cell (blk_below HP0.out hHeld) 2).trans rfl;go_simp;rfl)
  simp only [Act.put,List.setIfInBounds_toArray,List.set_cons_zero,List.set_cons_succ]
  refine goesCL_ (N:=(some 10)) Try.func15 (by kernel_rfl) rfl (by rfl) rfl rfl (large_c g A1 A2 A3 c1 c2 c3 _ (HG0.out.below_ hHeld)) (by simp [Act.eval]) ?_
  rintro e x1_1 ⟨⟨lb,rfl,hs⟩,hb1_1⟩
  refine ⟨_,rfl,?_⟩
  simp only [Act.put,List.setIfInBounds_toArray,List.set_cons_zero,List.set_cons_succ]
  have HS:=Aside0.mk hs
  clear hs
  refine pl_held (B:=v0.heap.size) (v:=v0) (below_then hHeld hHeld.size hb1_1) (fun hHeld => ?_)
  have HX1:=Aside0.mk hHeld
  cases lb
  · have HS1:=Aside0.mk (HS.out rfl)
    by_cases hl2 : 200 < l.length
    · have d1 : decide ((200 : Int) < (l.length : Int)) = true:=by simp;omega
      refine pl_pure (N:=(some 11)) (v:=?v1) (by rfl) rfl ?h1 ?_
      case h1 => (go_simp;rfl)
      simp only [Act.put,List.setIfInBounds_toArray,List.set_cons_zero,List.set_cons_succ]
      refine pl_pure (N:=(some 12)) (v:=?v2) (by rfl) rfl ?h2 ?_
      case h2 => (go_simp;rfl)
      simp only [Act.put,List.setIfInBounds_toArray,List.set_cons_zero,List.set_cons_succ]
      refine pl_pure (N:=(some 13)) (v:=?v3) (by rfl) rfl ?h3 ?_
      case h3 => (go_simp;rfl)
      simp only [Act.put,List.setIfInBounds_toArray,List.set_cons_zero,List.set_cons_succ]
      refine pl_pure (N:=(some 14)) (v:=?v4) (by rfl) rfl ?h4 ?_
      case h4 => (go_simp;rfl)
      simp only [Act.put,List.setIfInBounds_toArray,List.set_cons_zero,List.set_cons_succ]
      refine pl_pure (N:=(some 15)) (v:=?v5) (by rfl) rfl ?h5 ?_
      case h5 => (go_simp;rfl)
      simp only [Act.put,List.setIfInBounds_toArray,List.set_cons_zero,List.set_cons_succ]
      refine pl_nil ?_
      go_upto_region 2 with (fail)
      refine pl_start ?_
      refine pl_held (B:=v0.heap.size) (v:=v0) (HX1.out) (fun hHeld => ?_)
      refine goesCL_ (N:=(some 16)) Try.func28 (by kernel_rfl) rfl (by rfl) rfl rfl (wakes06_c _) (by simp [Act.eval]) ?_
      rintro e x2_0 ⟨rfl,hb2_0⟩
      refine ⟨_,rfl,?_⟩
      simp only [Act.put,List.setIfInBounds_toArray,List.set_cons_zero,List.set_cons_succ]
      refine pl_held (B:=v0.heap.size) (v:=v0) (below_then hHeld hHeld.size hb2_0) (fun hHeld => ?_)
      refine pl_pure (N:=(some 6)) (v:=?v7) (by rfl) rfl ?h7 ?_
      case h7 => (go_simp;rfl)
      simp only [Act.put,List.setIfInBounds_toArray,List.set_cons_zero,List.set_cons_succ]
      refine pl_nil ?_
      go_wp2
      go_ret
      exact ⟨ret_bool rfl,below_then HB0.out HB0.out.size hHeld⟩
    · have d1 : decide ((200 : Int) < (l.length : Int)) = false:=by simp;omega
      refine pl_pure (N:=(some 11)) (v:=?v8) (by rfl) rfl ?h8 ?_
      case h8 => (go_simp;rfl)
      simp only [Act.put,List.setIfInBounds_toArray,List.set_cons_zero,List.set_cons_succ]
      refine pl_pure (N:=(some 12)) (v:=?v9) (by rfl) rfl ?h9 ?_
      case h9 => (go_simp;rfl)
      simp only [Act.put,List.setIfInBounds_toArray,List.set_cons_zero,List.set_cons_succ]
      refine pl_pure (N:=(some 13)) (v:=?v10) (by rfl) rfl ?h10 ?_
      case h10 => (go_simp;rfl)
      simp only [Act.put,List.setIfInBounds_toArray,List.set_cons_zero,List.set_cons_succ]
      refine pl_pure (N:=(some 14)) (v:=?v11) (by rfl) rfl ?h11 ?_
      case h11 => (go_simp;rfl)
      simp only [Act.put,List.setIfInBounds_toArray,List.set_cons_zero,List.set_cons_succ]
      refine pl_pure (N:=(some 15)) (v:=?v12) (by rfl) rfl ?h12 ?_
      case h12 => (go_simp;rfl)
      simp only [Act.put,List.setIfInBounds_toArray,List.set_cons_zero,List.set_cons_succ]
      refine pl_nil ?_
      go_upto_region 3 with (fail)
      refine pl_start ?_
      refine pl_held (B:=v0.heap.size) (v:=v0) (HX1.out) (fun hHeld => ?_)
      refine pl_pure (N:=(some 17)) (v:=?v22) (by rfl) rfl ?h22 ?_
      case h22 => (have d0:=(blk_cell (blk_below HP0.out hHeld) 0).trans rfl;have d1:=(blk_cell (blk_below HP0.out hHeld) 1).trans rfl;have d2:=(blk_cell (blk_below HP0.out hHeld) 2).trans rfl;go_simp;rfl)
      simp only [Act.put,List.setIfInBounds_toArray,List.set_cons_zero,List.set_cons_succ]
      refine goesCL_ (N:=(some 18)) Try.func19 (by kernel_rfl) rfl (by rfl) rfl rfl (own_c g A1 A2 A3 c1 c2 c3 _ (HG0.out.below_ hHeld) HS1.out.own) (by simp [Act.eval]) ?_
      rintro e x3_1 ⟨⟨B1,B2,B3,e1,e2,e3,rfl,ho⟩,hb3_1⟩
      refine ⟨_,rfl,?_⟩
      simp only [Act.put,List.setIfInBounds_toArray,List.set_cons_zero,List.set_cons_succ]
      refine pl_held (B:=v0.heap.size) (v:=v0) (below_then hHeld hHeld.size hb3_1) (fun hHeld => ?_)
      refine pl_alloc (N:=(some 19)) (v:=?v24) (o:=?o24) (by rfl) rfl ?h24 ?_
      case h24 => (go_simp;first | rfl | (constructor;rfl;rfl))
      intro x3_2 hb3_2 hx3_2 hs3_2 hq3_2
      simp only [Act.put,List.setIfInBounds_toArray,List.set_cons_zero,List.set_cons_succ]
      refine pl_held (B:=v0.heap.size) (v:=v0) (below_then hHeld hHeld.size hb3_2) (fun hHeld => ?_)
      refine pl_pure (N:=(some 20)) (v:=?v25) (by rfl) rfl ?h25 ?_
      case h25 => (go_simp;rfl)
      simp only [Act.put,List.setIfInBounds_toArray,List.set_cons_zero,List.set_cons_succ]
      refine pl_copy_ints (N:=some 21) (w0:=x3_1) (ys:=l) (by rfl) rfl rfl hb3_2 hx3_2 hs3_2 (by omega) (by rfl) (by rfl) (Kd.C_below HL0.out (below_then HX1.out HX1.out.size hb3_1)) hq3_2.out ?_
      intro LA lc x3_4 hlc hC hb3_4
      simp only [Act.put,List.setIfInBounds_toArray,List.set_cons_zero,List.set_cons_succ]
      refine pl_held (B:=v0.heap.size) (v:=v0) (below_then HX1.out HX1.out.size (below_then hb3_1 hb3_1.size hb3_4)) (fun hHeld => ?_)
      refine pl_value (N:=(some 7)) (v:=?v27) (w1:=?w27) (by rfl) rfl ?h27 ?_
      case h27 => (go_simp;first | rfl | (constructor;rfl;rfl))
      simp only [Act.put,List.setIfInBounds_toArray,List.set_cons_zero,List.set_cons_succ]
      refine pl_skip (w1:=?w28) (by rfl) rfl ?h28 ?_
      case h28 => (go_simp;rfl)
      refine pl_world ?_
      intro x3_6 hb3_6 hx3_6 hs3_6 hq3_6
      refine pl_held (B:=v0.heap.size) (v:=v0) (below_then hHeld hHeld.size hb3_6) (fun hHeld => ?_)
      refine pl_pure (N:=(some 8)) (v:=?v29) (by rfl) rfl ?h29 ?_
      case h29 => (go_simp;rfl)
      simp only [Act.put,List.setIfInBounds_toArray,List.set_cons_zero,List.set_cons_succ]
      refine pl_nil ?_
      have HV : Aside0 (Below w.heap.size w x3_6):=⟨below_then HB0.out HB0.out.size hHeld⟩
      have hv31:=below_then HX1.out HX1.out.size hb3_1
      have K1:=Aside0.mk (blk_below HP0.out hHeld)
      have K2:=Aside0.mk hx3_6
      have RG:=Aside0.mk (HG0.out.below_ hHeld)
      have RI:=Aside0.mk (ho.rep.below_ (below_then hb3_4 hb3_4.size hb3_6))
      have CL:=Aside0.mk (Kd.C_below HL0.out hHeld)
      have CA:=Aside0.mk (Kd.C_below hC hb3_6)
      obtain ⟨ba,hba⟩ : ∃ ba,allB g l = ba:=⟨_,rfl⟩
      obtain ⟨br,hbr⟩ : ∃ br,ruleB g i = br:=⟨_,rfl⟩
      have HBA:=Lib.hid hba
      have HBR:=Lib.hid hbr
      clear hba hbr hHeld hv31 ho hC hb3_1 hb3_2 hx3_2 hs3_2 hq3_2 hb3_4 hb3_6 hx3_6 hs3_6 hq3_6
      go_upto_region 4 with (fail)
      refine start_ (n:=37) (S:=fun w' => Below x3_6.heap.size x3_6 w') (ds:=[]) (lb 37 0x0) (by kernel_rfl) rfl (by kernel_rfl) (below_drew1 (Below.refl _ _)) (fun hHeld => ?_)
      refine take_ (i:=0) (N:=(some 22)) (v:=?_) (a':=?_) (lb 37 0x1) rfl rfl (by kernel_rfl) (fun _ _ _ h => h) (Or.inl ⟨by rfl,?_⟩) hHeld ?_ ?_
      rotate_left
      · (rintro w' hS;have d0:=(blk_cell (blk_below K1.out hS) 0).trans rfl;have d1:=(blk_cell (blk_below K1.out hS) 1).trans rfl;have d2:=(blk_cell (blk_below K1.out hS) 2).trans rfl;have d3:=(blk_cell (blk_below K2.out hS) 0).trans rfl;have d4:=(blk_cell (blk_below K2.out hS) 1).trans rfl;have d5:=(blk_cell (blk_below K2.out hS) 2).trans rfl;go_simp;with_reducible rfl)
      rotate_left
      · (simp only [Act.put,List.setIfInBounds_toArray,List.set_cons_zero,List.set_cons_succ];rfl)
      refine take_ (i:=2) (N:=(some 24)) (v:=?_) (a':=?_) (lb 37 0x5) rfl rfl (by kernel_rfl) (fun _ _ _ h => h) (Or.inl ⟨by rfl,?_⟩) hHeld ?_ ?_
      rotate_left
      · (rintro w' hS;have d0:=(blk_cell (blk_below K1.out hS) 0).trans rfl;have d1:=(blk_cell (blk_below K1.out hS) 1).trans rfl;have d2:=(blk_cell (blk_below K1.out hS) 2).trans rfl;have d3:=(blk_cell (blk_below K2.out hS) 0).trans rfl;have d4:=(blk_cell (blk_below K2.out hS) 1).trans rfl;have d5:=(blk_cell (blk_below K2.out hS) 2).trans rfl;go_simp;with_reducible rfl)
      rotate_left
      · (simp only [Act.put,List.setIfInBounds_toArray,List.set_cons_zero,List.set_cons_succ];rfl)
      refine one_ (i:=1) (N:=(some 23)) (lb 37 0x7) rfl rfl (by kernel_rfl) (by decide) (fun K hK => ?_)
      (refine goesC_ Try.func30 (by kernel_rfl) rfl (by rfl) rfl rfl (ofN_any g B1 B2 B3 e1 e2 e3 _ (RI.out.below_ hHeld)) (by simp [Act.eval]) ?_;rintro e w9 ⟨⟨NA,nc,rfl,hn⟩,hb9⟩;refine ⟨_,rfl,?_⟩;have HQ9:=Aside0.mk (below_then hHeld hHeld.size hb9);have HN1:=Aside0.mk hn;clear hn;clear hb9;refine hK.out _ _ HQ9.out (fun hHeld => ?_))
      skip
      clear hK K
      refine norm_ (a':=?_) ?_ ?_
      rotate_left
      · (show Act.put _ (some 23) _ = _;simp only [Act.put,List.setIfInBounds_toArray,List.set_cons_zero,List.set_cons_succ];rfl)
      refine one_ (i:=3) (N:=(some 25)) (lb 37 0xf) rfl rfl (by kernel_rfl) (by decide) (fun K hK => ?_)
      (refine goesC_ Try.func31 (by kernel_rfl) rfl (by rfl) rfl rfl (ofR_any g A1 A2 A3 c1 c2 c3 _ (RG.out.below_ hHeld) HZ.out) (by simp [Act.eval]) ?_;rintro e w9 ⟨⟨RA,rc,rfl,hr⟩,hb9⟩;refine ⟨_,rfl,?_⟩;have HQ9:=Aside0.mk (below_then hHeld hHeld.size hb9);have HN2:=Aside0.mk (Kd.C_below HN1.out hb9);have HR2:=Aside0.mk hr;clear hr;clear hb9;refine hK.out _ _ HQ9.out (fun hHeld => ?_))
      skip
      clear hK K
      refine norm_ (a':=?_) ?_ ?_
      rotate_left
      · (show Act.put _ (some 25) _ = _;simp only [Act.put,List.setIfInBounds_toArray,List.set_cons_zero,List.set_cons_succ];rfl)
      refine one_ (i:=4) (N:=(some 26)) (lb 37 0x1f) rfl rfl (by kernel_rfl) (by decide) (fun K hK => ?_)
      (refine goesC_ Try.func29 (by kernel_rfl) rfl (by rfl) rfl rfl (keepBools_v NA RA nc rc _ _ (nullO g) (nullO g) _ HN2.out HR2.out (decide_eq_true rfl)) (by simp [Act.eval]) ?_;rintro e w9 ⟨rfl,hb9⟩;refine ⟨_,rfl,?_⟩;have HQ9:=Aside0.mk (below_then hHeld hHeld.size hb9);clear hb9;refine hK.out _ _ HQ9.out (fun hHeld => ?_))
      skip
      clear hK K
      refine norm_ (a':=?_) ?_ ?_
      rotate_left
      · (show Act.put _ (some 26) _ = _;simp only [Act.put,List.setIfInBounds_toArray,List.set_cons_zero,List.set_cons_succ];rfl)
      refine pure_ (i:=5) (N:=(some 27)) (v:=?_) (a':=?_) (lb 37 0x3f) rfl rfl (by kernel_rfl) (fun _ _ _ h => h) (Or.inl ⟨by rfl,?_⟩) ?_ ?_
      rotate_left
      · (intro w';go_simp;with_reducible rfl)
      rotate_left
      · (simp only [Act.put,List.setIfInBounds_toArray,List.set_cons_zero,List.set_cons_succ];rfl)
      refine pure_ (i:=7) (N:=(some 29)) (v:=?_) (a':=?_) (lb 37 0xbf) rfl rfl (by kernel_rfl) (fun _ _ _ h => h) (Or.inl ⟨by rfl,?_⟩) ?_ ?_
      rotate_left
      · (intro w';go_simp;with_reducible rfl)
      rotate_left
      · (simp only [Act.put,List.setIfInBounds_toArray,List.set_cons_zero,List.set_cons_succ];rfl)
      refine pure_ (i:=10) (N:=(some 32)) (v:=?_) (a':=?_) (lb 37 0x4bf) rfl rfl (by kernel_rfl) (fun _ _ _ h => h) (Or.inl ⟨by rfl,?_⟩) ?_ ?_
      rotate_left
      · (intro w';go_simp;with_reducible rfl)
      rotate_left
      · (simp only [Act.put,List.setIfInBounds_toArray,List.set_cons_zero,List.set_cons_succ];rfl)
      refine take_ (i:=6) (N:=(some 28)) (v:=?_) (a':=?_) (lb 37 0x4ff) rfl rfl (by kernel_rfl) (fun _ _ _ h => h) (Or.inl ⟨by rfl,?_⟩) hHeld ?_ ?_
      rotate_left
      · (rintro w' hS;have d0:=(blk_cell (blk_below K1.out hS) 0).trans rfl;have d1:=(blk_cell (blk_below K1.out hS) 1).trans rfl;have d2:=(blk_cell (blk_below K1.out hS) 2).trans rfl;have d3:=(blk_cell (blk_below K2.out hS) 0).trans rfl;have d4:=(blk_cell (blk_below K2.out hS) 1).trans rfl;have d5:=(blk_cell (blk_below K2.out hS) 2).trans rfl;go_simp;with_reducible rfl)
      rotate_left
      · (simp only [Act.put,List.setIfInBounds_toArray,List.set_cons_zero,List.set_cons_succ];rfl)
      refine take_ (i:=9) (N:=(some 31)) (v:=?_) (a':=?_) (lb 37 0x6ff) rfl rfl (by kernel_rfl) (fun _ _ _ h => h) (Or.inl ⟨by rfl,?_⟩) hHeld ?_ ?_
      rotate_left
      · (rintro w' hS;have d0:=(blk_cell (blk_below K1.out hS) 0).trans rfl;have d1:=(blk_cell (blk_below K1.out hS) 1).trans rfl;have d2:=(blk_cell (blk_below K1.out hS) 2).trans rfl;have d3:=(blk_cell (blk_below K2.out hS) 0).trans rfl;have d4:=(blk_cell (blk_below K2.out hS) 1).trans rfl;have d5:=(blk_cell (blk_below K2.out hS) 2).trans rfl;go_simp;with_reducible rfl)
      rotate_left
      · (simp only [Act.put,List.setIfInBounds_toArray,List.set_cons_zero,List.set_cons_succ];rfl)
      refine one_ (i:=8) (N:=(some 30)) (lb 37 0x7ff) rfl rfl (by kernel_rfl) (by decide) (fun K hK => ?_)
      (refine goesC_ Try.func32 (by kernel_rfl) rfl (by rfl) rfl rfl (ruleP_c g B1 B2 B3 e1 e2 e3 i _ (RI.out.below_ hHeld) HBR.out) (by simp [Act.eval]) ?_;rintro e w9 ⟨rfl,hb9⟩;refine ⟨_,rfl,?_⟩;have HQ9:=Aside0.mk (below_then hHeld hHeld.size hb9);clear hb9;refine hK.out _ _ HQ9.out (fun hHeld => ?_))
      skip
      clear hK K
      refine norm_ (a':=?_) ?_ ?_
      rotate_left
      · (show Act.put _ (some 30) _ = _;simp only [Act.put,List.setIfInBounds_toArray,List.set_cons_zero,List.set_cons_succ];rfl)
      refine one_ (i:=11) (N:=(some 33)) (lb 37 0xfff) rfl rfl (by kernel_rfl) (by decide) (fun K hK => ?_)
      (refine goesC_ Try.func33 (by kernel_rfl) rfl (by rfl) rfl rfl (ruleR_c g A1 A2 A3 c1 c2 c3 i _ (RG.out.below_ hHeld) HZ.out HBR.out) (by simp [Act.eval]) ?_;rintro e w9 ⟨rfl,hb9⟩;refine ⟨_,rfl,?_⟩;have HQ9:=Aside0.mk (below_then hHeld hHeld.size hb9);clear hb9;refine hK.out _ _ HQ9.out (fun hHeld => ?_))
      skip
      clear hK K
      refine norm_ (a':=?_) ?_ ?_
      rotate_left
      · (show Act.put _ (some 33) _ = _;simp only [Act.put,List.setIfInBounds_toArray,List.set_cons_zero,List.set_cons_succ];rfl)
      refine pure_ (i:=12) (N:=(some 34)) (v:=?_) (a':=?_) (lb 37 0x1fff) rfl rfl (by kernel_rfl) (fun _ _ _ h => h) (Or.inl ⟨by rfl,?_⟩) ?_ ?_
      rotate_left
      · (intro w';go_simp;with_reducible rfl)
      rotate_left
      · (simp only [Act.put,List.setIfInBounds_toArray,List.set_cons_zero,List.set_cons_succ];rfl)
      refine pure_ (i:=13) (N:=(some 35)) (v:=?_) (a':=?_) (lb 37 0x3fff) rfl rfl (by kernel_rfl) (fun _ _ _ h => h) (Or.inl ⟨by rfl,?_⟩) ?_ ?_
      rotate_left
      · (intro w';go_simp;with_reducible rfl)
      rotate_left
      · (simp only [Act.put,List.setIfInBounds_toArray,List.set_cons_zero,List.set_cons_succ];rfl)
      refine pure_ (i:=14) (N:=(some 36)) (v:=?_) (a':=?_) (lb 37 0x7fff) rfl rfl (by kernel_rfl) (fun _ _ _ h => h) (Or.inl ⟨by rfl,?_⟩) ?_ ?_
      rotate_left
      · (intro w';go_simp;with_reducible rfl)
      rotate_left
      · (simp only [Act.put,List.setIfInBounds_toArray,List.set_cons_zero,List.set_cons_succ];rfl)
      refine pure_ (i:=16) (N:=(some 38)) (v:=?_) (a':=?_) (lb 37 0x17fff) rfl rfl (by kernel_rfl) (fun _ _ _ h => h) (Or.inl ⟨by rfl,?_⟩) ?_ ?_
      rotate_left
      · (intro w';go_simp;with_reducible rfl)
      rotate_left
      · (simp only [Act.put,List.setIfInBounds_toArray,List.set_cons_zero,List.set_cons_succ];rfl)
      refine pure_ (i:=19) (N:=(some 41)) (v:=?_) (a':=?_) (lb 37 0x97fff) rfl rfl (by kernel_rfl) (fun _ _ _ h => h) (Or.inl ⟨by rfl,?_⟩) ?_ ?_
      rotate_left
      · (intro w';go_simp;with_reducible rfl)
      rotate_left
      · (simp only [Act.put,List.setIfInBounds_toArray,List.set_cons_zero,List.set_cons_succ];rfl)
      refine take_ (i:=15) (N:=(some 37)) (v:=?_) (a':=?_) (lb 37 0x9ffff) rfl rfl (by kernel_rfl) (fun _ _ _ h => h) (Or.inl ⟨by rfl,?_⟩) hHeld ?_ ?_
      rotate_left
      · (rintro w' hS;have d0:=(blk_cell (blk_below K1.out hS) 0).trans rfl;have d1:=(blk_cell (blk_below K1.out hS) 1).trans rfl;have d2:=(blk_cell (blk_below K1.out hS) 2).trans rfl;have d3:=(blk_cell (blk_below K2.out hS) 0).trans rfl;have d4:=(blk_cell (blk_below K2.out hS) 1).trans rfl;have d5:=(blk_cell (blk_below K2.out hS) 2).trans rfl;go_simp;with_reducible rfl)
      rotate_left
      · (simp only [Act.put,List.setIfInBounds_toArray,List.set_cons_zero,List.set_cons_succ];rfl)
      refine take_ (i:=18) (N:=(some 40)) (v:=?_) (a':=?_) (lb 37 0xdffff) rfl rfl (by kernel_rfl) (fun _ _ _ h => h) (Or.inl ⟨by rfl,?_⟩) hHeld ?_ ?_
      rotate_left
      · (rintro w' hS;have d0:=(blk_cell (blk_below K1.out hS) 0).trans rfl;have d1:=(blk_cell (blk_below K1.out hS) 1).trans rfl;have d2:=(blk_cell (blk_below K1.out hS) 2).trans rfl;have d3:=(blk_cell (blk_below K2.out hS) 0).trans rfl;have d4:=(blk_cell (blk_below K2.out hS) 1).trans rfl;have d5:=(blk_cell (blk_below K2.out hS) 2).trans rfl;go_simp;with_reducible rfl)
      rotate_left
      · (simp only [Act.put,List.setIfInBounds_toArray,List.set_cons_zero,List.set_cons_succ];rfl)
      refine one_ (i:=17) (N:=(some 39)) (lb 37 0xfffff) rfl rfl (by kernel_rfl) (by decide) (fun K hK => ?_)
      (refine goesC_ Try.func34 (by kernel_rfl) rfl (by rfl) rfl rfl (allP_c g B1 B2 B3 e1 e2 e3 LA lc l _ (RI.out.below_ hHeld) (Kd.C_below CA.out hHeld) HBA.out) (by simp [Act.eval]) ?_;rintro e w9 ⟨rfl,hb9⟩;refine ⟨_,rfl,?_⟩;have HQ9:=Aside0.mk (below_then hHeld hHeld.size hb9);clear hb9;refine hK.out _ _ HQ9.out (fun hHeld => ?_))
      skip
      clear hK K
      refine norm_ (a':=?_) ?_ ?_
      rotate_left
      · (show Act.put _ (some 39) _ = _;simp only [Act.put,List.setIfInBounds_toArray,List.set_cons_zero,List.set_cons_succ];rfl)
      refine one_ (i:=20) (N:=(some 42)) (lb 37 0x1fffff) rfl rfl (by kernel_rfl) (by decide) (fun K hK => ?_)
      (refine goesC_ Try.func35 (by kernel_rfl) rfl (by rfl) rfl rfl (allR_c g A1 A2 A3 c1 c2 c3 L cl l _ (RG.out.below_ hHeld) HZ.out (Kd.C_below CL.out hHeld) HBA.out) (by simp [Act.eval]) ?_;rintro e w9 ⟨rfl,hb9⟩;refine ⟨_,rfl,?_⟩;have HQ9:=Aside0.mk (below_then hHeld hHeld.size hb9);clear hb9;refine hK.out _ _ HQ9.out (fun hHeld => ?_))
      skip
      clear hK K
      refine norm_ (a':=?_) ?_ ?_
      rotate_left
      · (show Act.put _ (some 42) _ = _;simp only [Act.put,List.setIfInBounds_toArray,List.set_cons_zero,List.set_cons_succ];rfl)
      refine pure_ (i:=21) (N:=(some 43)) (v:=?_) (a':=?_) (lb 37 0x3fffff) rfl rfl (by kernel_rfl) (fun _ _ _ h => h) (Or.inl ⟨by rfl,?_⟩) ?_ ?_
      rotate_left
      · (intro w';go_simp;with_reducible rfl)
      rotate_left
      · (simp only [Act.put,List.setIfInBounds_toArray,List.set_cons_zero,List.set_cons_succ];rfl)
      refine pure_ (i:=22) (N:=(some 44)) (v:=?_) (a':=?_) (lb 37 0x7fffff) rfl rfl (by kernel_rfl) (fun _ _ _ h => h) (Or.inl ⟨by rfl,?_⟩) ?_ ?_
      rotate_left
      · (intro w';go_simp;with_reducible rfl)
      rotate_left
      · (simp only [Act.put,List.setIfInBounds_toArray,List.set_cons_zero,List.set_cons_succ];rfl)
      refine pure_ (i:=23) (N:=(some 45)) (v:=?_) (a':=?_) (lb 37 0xffffff) rfl rfl (by kernel_rfl) (fun _ _ _ h => h) (Or.inl ⟨by rfl,?_⟩) ?_ ?_
      rotate_left
      · (intro w';go_simp;with_reducible rfl)
      rotate_left
      · (simp only [Act.put,List.setIfInBounds_toArray,List.set_cons_zero,List.set_cons_succ];rfl)
      refine take_ (i:=24) (N:=(some 46)) (v:=?_) (a':=?_) (lb 37 0x1ffffff) rfl rfl (by kernel_rfl) (fun _ _ _ h => h) (Or.inl ⟨by rfl,?_⟩) hHeld ?_ ?_
      rotate_left
      · (rintro w' hS;have d0:=(blk_cell (blk_below K1.out hS) 0).trans rfl;have d1:=(blk_cell (blk_below K1.out hS) 1).trans rfl;have d2:=(blk_cell (blk_below K1.out hS) 2).trans rfl;have d3:=(blk_cell (blk_below K2.out hS) 0).trans rfl;have d4:=(blk_cell (blk_below K2.out hS) 1).trans rfl;have d5:=(blk_cell (blk_below K2.out hS) 2).trans rfl;go_simp;with_reducible rfl)
      rotate_left
      · (simp only [Act.put,List.setIfInBounds_toArray,List.set_cons_zero,List.set_cons_succ];rfl)
      refine take_ (i:=25) (N:=(some 47)) (v:=?_) (a':=?_) (lb 37 0x3ffffff) rfl rfl (by kernel_rfl) (fun _ _ _ h => h) (Or.inl ⟨by rfl,?_⟩) hHeld ?_ ?_
      rotate_left
      · (rintro w' hS;have d0:=(blk_cell (blk_below K1.out hS) 0).trans rfl;have d1:=(blk_cell (blk_below K1.out hS) 1).trans rfl;have d2:=(blk_cell (blk_below K1.out hS) 2).trans rfl;have d3:=(blk_cell (blk_below K2.out hS) 0).trans rfl;have d4:=(blk_cell (blk_below K2.out hS) 1).trans rfl;have d5:=(blk_cell (blk_below K2.out hS) 2).trans rfl;go_simp;with_reducible rfl)
      rotate_left
      · (simp only [Act.put,List.setIfInBounds_toArray,List.set_cons_zero,List.set_cons_succ];rfl)
      refine one_ (i:=26) (N:=(some 48)) (lb 37 0x7ffffff) rfl rfl (by kernel_rfl) (by decide) (fun K hK => ?_)
      (refine goesC_ Try.func22 (by kernel_rfl) rfl (by rfl) rfl rfl (keepGrammar_v g B1 B2 B3 A1 A2 A3 e1 e2 e3 c1 c2 c3 _ (RI.out.below_ hHeld) (RG.out.below_ hHeld)) (by simp [Act.eval]) ?_;rintro e w9 ⟨rfl,hb9⟩;refine ⟨_,rfl,?_⟩;have HQ9:=Aside0.mk (below_then hHeld hHeld.size hb9);clear hb9;refine hK.out _ _ HQ9.out (fun hHeld => ?_))
      skip
      clear hK K
      refine norm_ (a':=?_) ?_ ?_
      rotate_left
      · (show Act.put _ (some 48) _ = _;simp only [Act.put,List.setIfInBounds_toArray,List.set_cons_zero,List.set_cons_succ];rfl)
      refine pure_ (i:=27) (N:=(some 49)) (v:=?_) (a':=?_) (lb 37 0xfffffff) rfl rfl (by kernel_rfl) (fun _ _ _ h => h) (Or.inl ⟨by rfl,?_⟩) ?_ ?_
      rotate_left
      · (intro w';go_simp;with_reducible rfl)
      rotate_left
      · (simp only [Act.put,List.setIfInBounds_toArray,List.set_cons_zero,List.set_cons_succ];rfl)
      refine pure_ (i:=28) (N:=(some 50)) (v:=?_) (a':=?_) (lb 37 0x1fffffff) rfl rfl (by kernel_rfl) (fun _ _ _ h => h) (Or.inl ⟨by rfl,?_⟩) ?_ ?_
      rotate_left
      · (intro w';go_simp;with_reducible rfl)
      rotate_left
      · (simp only [Act.put,List.setIfInBounds_toArray,List.set_cons_zero,List.set_cons_succ];rfl)
      refine pure_ (i:=29) (N:=(some 51)) (v:=?_) (a':=?_) (lb 37 0x3fffffff) rfl rfl (by kernel_rfl) (fun _ _ _ h => h) (Or.inl ⟨by rfl,?_⟩) ?_ ?_
      rotate_left
      · (intro w';go_simp;with_reducible rfl)
      rotate_left
      · (simp only [Act.put,List.setIfInBounds_toArray,List.set_cons_zero,List.set_cons_succ];rfl)
      refine pure_ (i:=30) (N:=(some 52)) (v:=?_) (a':=?_) (lb 37 0x7fffffff) rfl rfl (by kernel_rfl) (fun _ _ _ h => h) (Or.inl ⟨by rfl,?_⟩) ?_ ?_
      rotate_left
      · (intro w';go_simp;with_reducible rfl)
      rotate_left
      · (simp only [Act.put,List.setIfInBounds_toArray,List.set_cons_zero,List.set_cons_succ];rfl)
      refine one_ (i:=31) (N:=(some 53)) (lb 37 0xffffffff) rfl rfl (by kernel_rfl) (by decide) (fun K hK => ?_)
      (refine goesC_ Try.func36 (by kernel_rfl) rfl (by rfl) rfl rfl (keepInts_v LA L lc cl l.length l.length l l _ (Kd.C_below CA.out hHeld) (Kd.C_below CL.out hHeld) (decide_eq_true rfl)) (by simp [Act.eval]) ?_;rintro e w9 ⟨rfl,hb9⟩;refine ⟨_,rfl,?_⟩;have HQ9:=Aside0.mk (below_then hHeld hHeld.size hb9);clear hb9;refine hK.out _ _ HQ9.out (fun hHeld => ?_))
      skip
      clear hK K
      refine norm_ (a':=?_) ?_ ?_
      rotate_left
      · (show Act.put _ (some 53) _ = _;simp only [Act.put,List.setIfInBounds_toArray,List.set_cons_zero,List.set_cons_succ];rfl)
      refine pure_ (i:=32) (N:=(some 54)) (v:=?_) (a':=?_) (lb 37 0x1ffffffff) rfl rfl (by kernel_rfl) (fun _ _ _ h => h) (Or.inl ⟨by rfl,?_⟩) ?_ ?_
      rotate_left
      · (intro w';go_simp;with_reducible rfl)
      rotate_left
      · (simp only [Act.put,List.setIfInBounds_toArray,List.set_cons_zero,List.set_cons_succ];rfl)
      refine pure_ (i:=33) (N:=(some 55)) (v:=?_) (a':=?_) (lb 37 0x3ffffffff) rfl rfl (by kernel_rfl) (fun _ _ _ h => h) (Or.inl ⟨by rfl,?_⟩) ?_ ?_
      rotate_left
      · (intro w';go_simp;with_reducible rfl)
      rotate_left
      · (simp only [Act.put,List.setIfInBounds_toArray,List.set_cons_zero,List.set_cons_succ];rfl)
      refine one_ (i:=34) (N:=(some 56)) (lb 37 0x7ffffffff) rfl rfl (by kernel_rfl) (by decide) (fun K hK => ?_)
      (refine goesC_ Try.func28 (by kernel_rfl) rfl (by rfl) rfl rfl (wakes06_c _) (by simp [Act.eval]) ?_;rintro e w9 ⟨rfl,hb9⟩;refine ⟨_,rfl,?_⟩;have HQ9:=Aside0.mk (below_then hHeld hHeld.size hb9);clear hb9;refine hK.out _ _ HQ9.out (fun hHeld => ?_))
      skip
      clear hK K
      refine norm_ (a':=?_) ?_ ?_
      rotate_left
      · (show Act.put _ (some 56) _ = _;simp only [Act.put,List.setIfInBounds_toArray,List.set_cons_zero,List.set_cons_succ];rfl)
      refine pure_ (i:=35) (N:=(some 57)) (v:=?_) (a':=?_) (lb 37 0xfffffffff) rfl rfl (by kernel_rfl) (fun _ _ _ h => h) (Or.inl ⟨by rfl,?_⟩) ?_ ?_
      rotate_left
      · (intro w';go_simp;with_reducible rfl)
      rotate_left
      · (simp only [Act.put,List.setIfInBounds_toArray,List.set_cons_zero,List.set_cons_succ];rfl)
      refine pure_ (i:=36) (N:=(some 6)) (v:=?_) (a':=?_) (lb 37 0x1fffffffff) rfl rfl (by kernel_rfl) (fun _ _ _ h => h) (Or.inl ⟨by rfl,?_⟩) ?_ ?_
      rotate_left
      · (intro w';go_simp;with_reducible rfl)
      rotate_left
      · (simp only [Act.put,List.setIfInBounds_toArray,List.set_cons_zero,List.set_cons_succ];rfl)
      refine done_ (by kernel_rfl) ?_
      go_wp2
      go_ret
      exact ⟨ret_bool rfl,below_then HV.out HV.out.size hHeld⟩
  · refine pl_pure (N:=(some 11)) (v:=?v13) (by rfl) rfl ?h13 ?_
    case h13 => (go_simp;rfl)
    simp only [Act.put,List.setIfInBounds_toArray,List.set_cons_zero,List.set_cons_succ]
    refine pl_off (N:=(some 12)) (by rfl) rfl ?_
    simp only [Act.put,List.setIfInBounds_toArray,List.set_cons_zero,List.set_cons_succ]
    refine pl_off (N:=(some 13)) (by rfl) rfl ?_
    simp only [Act.put,List.setIfInBounds_toArray,List.set_cons_zero,List.set_cons_succ]
    refine pl_off (N:=(some 14)) (by rfl) rfl ?_
    simp only [Act.put,List.setIfInBounds_toArray,List.set_cons_zero,List.set_cons_succ]
    refine pl_pure (N:=(some 15)) (v:=?v17) (by rfl) rfl ?h17 ?_
    case h17 => (go_simp;rfl)
    simp only [Act.put,List.setIfInBounds_toArray,List.set_cons_zero,List.set_cons_succ]
    refine pl_nil ?_
    go_upto_region 2 with (fail)
    refine pl_start ?_
    refine pl_held (B:=v0.heap.size) (v:=v0) (HX1.out) (fun hHeld => ?_)
    refine goesCL_ (N:=(some 16)) Try.func28 (by kernel_rfl) rfl (by rfl) rfl rfl (wakes06_c _) (by simp [Act.eval]) ?_
    rintro e x2_0 ⟨rfl,hb2_0⟩
    refine ⟨_,rfl,?_⟩
    simp only [Act.put,List.setIfInBounds_toArray,List.set_cons_zero,List.set_cons_succ]
    refine pl_held (B:=v0.heap.size) (v:=v0) (below_then hHeld hHeld.size hb2_0) (fun hHeld => ?_)
    refine pl_pure (N:=(some 6)) (v:=?v19) (by rfl) rfl ?h19 ?_
    case h19 => (go_simp;rfl)
    simp only [Act.put,List.setIfInBounds_toArray,List.set_cons_zero,List.set_cons_succ]
    refine pl_nil ?_
    go_wp2
    go_ret
    exact ⟨ret_bool rfl,below_then HB0.out HB0.out.size hHeld⟩
end Go.Proofs.Ytphmmppmhphgeaa
