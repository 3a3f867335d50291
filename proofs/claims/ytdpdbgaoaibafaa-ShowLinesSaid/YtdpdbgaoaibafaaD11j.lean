/- The law ShowLines,walked: it answers true. -/
import Derived.Test.YtdpdbgaoaibafaaJQ
import Derived.Test.YtdpdbgaoaibafaaJN
import Derived.Test.YtdpdbgaoaibafaaP24j
set_option linter.unusedVariables false
set_option linter.unusedSimpArgs false
namespace Go.Proofs.Ytdpdbgaoaibafaa
open Go.RowKit Go.Proofs.YtdpdbgaoaibafaaW.PrintWords Go.Proofs.YtdpdbgaoaibafaaW.PrintLast

theorem of_badL {s : ByteArray} {a p : Int} (h : ofF s = .error (a,p)) (w : World) : Calls Try.prog 23 #[.string s] w fun e w' => e = .returned (.tuple #[.agg #[.slice none 0 0,.slice none 0 0,.slice none 0 0],.agg #[.int .i64 a,.int .i64 p]]) ∧ Below w.heap.size w w':=by
  refine (of_c s w).mono ?_
  rw [h]
  rintro e w1 ⟨he,hb1⟩
  exact ⟨he,hb1⟩
theorem addr_zero (a : Addr) : a.add 0 = a:=by
  cases a
  simp [Addr.add]
theorem offS_all (g : Gram) : offS g g.rules.length = (textF g).size:=by unfold offS;rw [List.take_length];rfl
theorem offS_mono {g : Gram} {k j : Nat} (h : k ≤ j) (hj : j ≤ g.rules.length) : offS g k ≤ offS g j:=by
  induction j with
  | zero => rw [show k = 0 by omega];exact Nat.le_refl _
  | succ j ih =>
    by_cases he : k = j + 1
    · rw [he];exact Nat.le_refl _
    · have:=ih (by omega) (by omega)
      rw [offS_succ (show j < g.rules.length by omega)]
      omega
/-- Where the walk over the text is: at byte i,within line k. -/
structure LI (g : Gram) (i k : Nat) : Prop where
  lo : offS g k ≤ i
  hi : ∀ h : k < g.rules.length,i ≤ offS g k + (lnF g (g.rules[k]'h)).size
  fin : k = g.rules.length → i = (textF g).size
theorem good_ne {g : Gram} (h : goodF g = true) : 0 < g.rules.length:=by
  unfold goodF ruledF at h
  simp only [Bool.and_eq_true,decide_eq_true_eq] at h
  omega
theorem offS_zero (g : Gram) : offS g 0 = 0:=by unfold offS;rfl
theorem LI.zero {g : Gram} (h : goodF g = true) : LI g 0 0:=⟨by rw [offS_zero];exact Nat.le_refl _,fun _ => Nat.zero_le _,fun e => by have:=good_ne h;omega⟩
theorem LI.inside {g : Gram} {i k : Nat} (h : LI g i k) (hk : k ≤ g.rules.length) (hi : i < (textF g).size) : k < g.rules.length:=by
  rcases Nat.lt_or_ge k g.rules.length with h1 | h1
  · exact h1
  · have:=h.fin (by omega);omega
theorem LI.next {g : Gram} {i k : Nat} (h : LI g i k) (hk : k < g.rules.length) (hi : i < offS g k + (lnF g (g.rules[k]'hk)).size) : LI g (i + 1) k:=⟨by have:=h.lo;omega,fun _ => hi,fun e => by omega⟩
theorem LI.line {g : Gram} {i k : Nat} (h : LI g i k) (hk : k < g.rules.length) (hi : i = offS g k + (lnF g (g.rules[k]'hk)).size) : LI g (i + 1) (k + 1) ∧ offS g (k + 1) = i + 1:=by
  have e:=offS_succ hk
  refine ⟨⟨by omega,fun _ => by omega,fun e2 => ?_⟩,by omega⟩
  rw [← offS_all,← e2];omega
theorem LI.done {g : Gram} {i k : Nat} (h : LI g i k) (hk : k ≤ g.rules.length) (hi : (textF g).size ≤ i) : k = g.rules.length:=by
  rcases Nat.lt_or_ge k g.rules.length with h1 | h1
  · have h2:=h.hi h1
    have h3:=offS_succ h1
    have h4:=offS_mono (g:=g) (show k + 1 ≤ g.rules.length from h1) (Nat.le_refl _)
    rw [offS_all] at h4
    omega
  · omega
theorem lnF_tail (g : Gram) (r : Rule) : 2 ≤ (lineF g r).size ∧ (lnF g r).size = (lineF g r).size + 2 ∧ (lnF g r).extract ((lnF g r).size - 2) (lnF g r).size = ⟨#[32,59]⟩:=by
  have h1 : 2 ≤ (lineF g r).size:=by
    unfold lineF
    have : ∀ (l : List Int) (acc : ByteArray),acc.size ≤ (rowS g acc l).size:=by
      intro l
      induction l with
      | nil => exact fun _ => Nat.le_refl _
      | cons x l ih => intro acc;refine Nat.le_trans ?_ (ih (acc ++ (⟨#[32]⟩ ++ symS g x)));rw [size_app];omega
    refine Nat.le_trans ?_ (this _ _)
    rw [size_app,show (⟨#[32,61]⟩ : ByteArray).size = 2 from rfl];omega
  have h2 : (lnF g r).size = (lineF g r).size + 2:=by unfold lnF;rw [size_app,show (⟨#[32,59]⟩ : ByteArray).size = 2 from rfl]
  refine ⟨h1,h2,ba_ext ?_⟩
  rw [h2,bsl_extract,List.take_of_length_le (by rw [size_data];omega),Nat.add_sub_cancel]
  unfold lnF
  rw [bsl_app,← size_data,List.drop_left]
theorem all_succ {α : Type} {p : α → Bool} {l : List α} {m : Nat} (h : m < l.length) : (l.take (m + 1)).all p = ((l.take m).all p && p (l[m]'h)):=by
  rw [List.take_succ_eq_append_getElem h,List.all_append]
  simp
set_option maxRecDepth 100000 in
set_option maxHeartbeats 16000000 in
theorem showLines_c (g : Gram) (A1 A2 A3 : Option Addr) (c1 c2 c3 : Nat) (w : World) (hg : RepG w g A1 A2 A3 c1 c2 c3) (hz : Sized g) :
    Calls Try.prog 6 #[.agg #[.slice A1 g.terms.length c1,.slice A2 g.names.length c2,.slice A3 g.rules.length c3]] w fun e w' => e = .returned (.bool true) ∧ Below w.heap.size w w':=by
  obtain ⟨v0,hv0⟩ : ∃ v0 : World,v0 = w.alloc (.cells #[.slice A1 g.terms.length c1,.slice A2 g.names.length c2,.slice A3 g.rules.length c3] 25 (0,0)):=⟨_,rfl⟩
  have HB0 : Aside0 (Below w.heap.size w v0):=⟨by rw [hv0];exact below_alloc (Below.refl _ _) _⟩
  have HP0 : Aside0 (v0.heap[w.heap.size]? = some (.cells #[.slice A1 g.terms.length c1,.slice A2 g.names.length c2,.slice A3 g.rules.length c3] 25 (0,0))):=⟨by rw [hv0];exact blk_new w _⟩
  have HG0:=Aside0.mk (hg.below_ HB0.out)
  clear hg hz
  obtain ⟨⟨t,x⟩,ho⟩ : ∃ o,textO g = o:=⟨_,rfl⟩
  have HO:=Lib.hid ho
  have ho2:=ho
  rw [textO] at ho2
  clear ho
  go_enter Try.func6,Try.ntmps6
  go_upto_region 1 with (fail)
  simp only [← hv0]
  clear hv0
  refine pl_start ?_
  refine pl_held (B:=v0.heap.size) (v:=v0) (Below.refl _ _) (fun hHeld => ?_)
  refine pp_ ?_ ?_ ?_ (y:=by have d0:=(blk_cell (blk_below HP0.out hHeld) 0).trans rfl;have d1:=(blk_cell (blk_below HP0.out hHeld) 1).trans rfl;have d2:=(blk_cell (blk_below HP0.out hHeld) 2).trans rfl;go_simp;rfl)
  refine goesCL_ (N:=(some 15)) Try.func15 (by kernel_rfl) rfl (by rfl) rfl rfl (large_c g A1 A2 A3 c1 c2 c3 _ (HG0.out.below_ hHeld)) (by simp [Act.eval]) ?_
  rintro e x1_1 ⟨⟨lb,rfl,hs⟩,hb1_1⟩
  refine ⟨_,rfl,?_⟩
  simp only [Act.put,List.setIfInBounds_toArray,List.set_cons_zero,List.set_cons_succ]
  clear hs
  refine pl_held (B:=v0.heap.size) (v:=v0) (below_then hHeld hHeld.size hb1_1) (fun hHeld => ?_)
  refine pl_nil ?_
  have HX1:=Aside0.mk hHeld
  cases lb
  · go_upto_region 3 with (fail)
    refine pl_start ?_
    refine pl_held (B:=v0.heap.size) (v:=v0) (HX1.out) (fun hHeld => ?_)
    refine pp_ ?_ ?_ ?_ (y:=by have d0:=(blk_cell (blk_below HP0.out hHeld) 0).trans rfl;have d1:=(blk_cell (blk_below HP0.out hHeld) 1).trans rfl;have d2:=(blk_cell (blk_below HP0.out hHeld) 2).trans rfl;go_simp;rfl)
    refine goesCL_ (N:=(some 19)) Try.func18 (by kernel_rfl) rfl (by rfl) rfl rfl (text_c g A1 A2 A3 c1 c2 c3 _ (HG0.out.below_ hHeld) HO.out) (by simp [Act.eval]) ?_
    rintro e x3_1 ⟨rfl,hb3_1⟩
    refine ⟨_,rfl,?_⟩
    simp only [Act.put,List.setIfInBounds_toArray,List.set_cons_zero,List.set_cons_succ]
    refine pl_held (B:=v0.heap.size) (v:=v0) (below_then hHeld hHeld.size hb3_1) (fun hHeld => ?_)
    refine pp_ ?_ ?_ ?_
    refine pp_ ?_ ?_ ?_
    refine pp_ ?_ ?_ ?_
    refine pp_ ?_ ?_ ?_
    refine pp_ ?_ ?_ ?_
    refine pl_nil ?_
    have HX3:=Aside0.mk hHeld
    clear hHeld hb3_1 hb1_1
    by_cases hx : goodF g = true ∧ ¬ 2000 < (textF g).size
    · rw [if_pos hx.1,if_neg hx.2] at ho2
      injection ho2 with e1 e2
      subst e2
      have HGD:=Aside0.mk hx.1
      have ht2 : t.size ≤ 2000:=by rw [← e1];omega
      have HT:=Lib.hid e1
      have HOA : Aside0 (offS g g.rules.length = t.size):=⟨by rw [offS_all,e1]⟩
      obtain ⟨q1,q2,q3,q4⟩:=goodF_small hx.1
      have HL0:=Aside0.mk (LI.zero hx.1)
      clear e1 hx
      go_wp2
      go_loopw [7,5,6] (fun a b c wr => ∃ i k : Nat,i ≤ t.size ∧ k ≤ g.rules.length ∧ a = .int .i64 i ∧ b = .int .i64 k ∧ c = .int .i64 (offS g k) ∧ Aside0 (LI g i k) ∧ Aside0 (Below v0.heap.size v0 wr)) (fun a _ _ _ => t.size - (intOf a).toNat)
      case atStart => exact ⟨0,0,Nat.zero_le _,Nat.zero_le _,rfl,rfl,by rw [offS_zero];rfl,HL0,HX3⟩
      case round =>
        clear HL0 HX3
        obtain ⟨i,k,hi,hk,rfl,rfl,rfl,HL,HB⟩:=hrel
        rename World => wi
        by_cases hlt : i < t.size
        · have hkl:=HL.out.inside hk (by rw [HT.out];exact hlt)
          have hla:=line_at HGD.out hkl (i:=i) (by rw [HT.out];exact hlt) HL.out.lo
          simp only [HT.out] at hla
          by_cases hin : i < offS g k + (lnF g (g.rules[k]'hkl)).size
          · have hb:=hla.1 hin
            have HN:=Aside0.mk (HL.out.next hkl hin)
            clear hla hin
            go_wp2
            go_roundw
            case rel => exact ⟨i + 1,k,by omega,by omega,by go_num,rfl,rfl,HN,HB⟩
            case measure => simp [intOf];omega
          · have hie : i = offS g k + (lnF g (g.rules[k]'hkl)).size:=by have:=HL.out.hi hkl;omega
            obtain ⟨hb,hex⟩:=hla.2 hie
            obtain ⟨hnx,hnf⟩:=HL.out.line hkl hie
            have HNX:=Aside0.mk hnx
            have HNF:=Lib.hid hnf
            have hlo:=HL.out.lo
            obtain ⟨hl,h8,hxr⟩:=good_left HGD.out (List.getElem_mem hkl)
            have hol:=of_line HGD.out (List.getElem_mem hkl)
            have htl:=lnF_tail g (g.rules[k]'hkl)
            have hls:=lnF_size HGD.out (List.getElem_mem hkl)
            obtain ⟨ad,Ar,cr,eA,p0,p1,hrc,hri⟩:=at_rule HG0.out.rules k hkl
            obtain ⟨r,hr⟩ : ∃ r,r = g.rules[k]'hkl:=⟨_,rfl⟩
            rw [← hr] at hol htl hls hl h8 hxr p0 p1 hrc hri hex hie
            obtain ⟨ln,hln⟩ : ∃ ln,lnF g r = ln:=⟨_,rfl⟩
            rw [hln] at hol htl hls hex hie
            have hn4 : 4 ≤ ln.size:=by omega
            have hte:=htl.2.2
            obtain ⟨F,hF⟩ : ∃ F,offS g k = F:=⟨_,rfl⟩
            rw [hF] at hex hlo ⊢
            have HOL:=Aside0.mk hol
            have HXR:=Aside0.mk hxr
            obtain ⟨rl,rr⟩:=r
            dsimp only at hl h8 p0 p1 hrc hri
            subst eA
            have P0:=Aside0.mk p0
            have P1:=Aside0.mk p1
            have HRI:=Aside0.mk hri
            clear hla hin hnx hnf hie hr hln htl hol hxr p0 p1 hri hF
            have e2 : ((ln.size : Int) - 2).toNat = ln.size - 2:=by omega
            have w2 : IntKind.i64.wrap ((ln.size : Int) - 2) = ((ln.size - 2 : Nat) : Int):=by rw [IntWalk.i64_in _ (by omega)];omega
            go_upto_region 11 with (fail)
            refine pl_start ?_
            refine pp_ ?_ ?_ ?_
            refine pp_ ?_ ?_ ?_
            refine pp_ ?_ ?_ ?_
            refine pp_ (.string ln) ?_ ?_ (y:=by go_simp)
            refine pp_ ?_ ?_ ?_
            refine pl_nil ?_
            have n3 : decide ((ln.size : Int) < 3) = false:=decide_eq_false (by omega)
            go_upto_region 12 with (fail)
            refine pl_start ?_
            refine pp_ ?_ ?_ ?_
            refine pp_ ?_ ?_ ?_
            refine pp_ ?_ ?_ ?_
            refine pp_ ?_ ?_ ?_
            refine pp_ ?_ ?_ ?_
            refine pp_ ?_ ?_ ?_
            refine pp_ ?_ ?_ ?_
            refine pp_ ?_ ?_ ?_
            refine pp_ (.string ⟨#[32,59]⟩) ?_ ?_ (y:=by go_simp)
            refine pp_ ?_ ?_ ?_
            refine pp_ ?_ ?_ ?_
            refine pl_nil ?_
            have dk : decide ((k : Int) < (g.rules.length : Int)) = true:=decide_eq_true (by omega)
            have j0 : (0 : Int) ≤ (k : Int):=by omega
            have j1 : (k : Int) < (g.rules.length : Int):=by omega
            go_upto_region 14 with (fail)
            refine pl_start ?_
            refine pl_held (B:=v0.heap.size) (v:=v0) (HB.out) (fun hHeld => ?_)
            refine pp_ ?_ ?_ ?_
            refine pp_ ?_ ?_ ?_
            refine pp_ ?_ ?_ ?_ (y:=by have d0:=(blk_cell (blk_below HP0.out hHeld) 0).trans rfl;have d1:=(blk_cell (blk_below HP0.out hHeld) 1).trans rfl;have d2:=(blk_cell (blk_below HP0.out hHeld) 2).trans rfl;have d0:=cell_at hHeld P0.out;have d1:=cell_at hHeld P1.out;go_simp;rfl)
            refine pp_ ?_ ?_ ?_
            refine pp_ ?_ ?_ ?_
            refine pl_nil ?_
            have HX14:=Aside0.mk hHeld
            clear hHeld
            go_wp2
            go_loopw [10,9] (fun a b wr => ∃ m : Nat,m ≤ rr.length ∧ a = .int .i64 m ∧ b = .bool ((rr.take m).all (ownB g ⟨rl,rr⟩)) ∧ Aside0 (Below v0.heap.size v0 wr)) (fun a _ _ => rr.length - (intOf a).toNat)
            case atStart => exact ⟨0,Nat.zero_le _,rfl,rfl,HX14⟩
            case round =>
              clear HX14
              obtain ⟨m,hm,rfl,rfl,HBm⟩:=hrel
              rename World => wm
              by_cases hmt : m < rr.length
              · have hsn:=all_succ (p:=ownB g ⟨rl,rr⟩) hmt
                obtain ⟨ax,eAx,hc⟩:=at_int HRI.out m hmt
                subst eAx
                have hx0:=HXR.out _ (List.getElem_mem hmt)
                obtain ⟨y,hy⟩ : ∃ y,y = rr[m]'hmt:=⟨_,rfl⟩
                rw [← hy] at hsn hc hx0
                obtain ⟨bo,hbo⟩ : ∃ bo,(rr.take m).all (ownB g ⟨rl,rr⟩) = bo:=⟨_,rfl⟩
                rw [hbo] at hsn ⊢
                have HSN:=Lib.hid hsn
                have HC:=Aside0.mk hc
                have i0 : (0 : Int) ≤ (m : Int):=by omega
                have i1 : (m : Int) < (rr.length : Int):=by omega
                have dn : decide ((m : Int) < (rr.length : Int)) = true:=decide_eq_true i1
                clear hsn hc hy hbo
                go_upto_region 17 with (fail)
                refine pl_start ?_
                refine pl_held (B:=v0.heap.size) (v:=v0) (HBm.out) (fun hHeld => ?_)
                refine pp_ ?_ ?_ ?_
                refine pp_ ?_ ?_ ?_
                refine pp_ ?_ ?_ ?_ (y:=by have d0:=(blk_cell (blk_below HP0.out hHeld) 0).trans rfl;have d1:=(blk_cell (blk_below HP0.out hHeld) 1).trans rfl;have d2:=(blk_cell (blk_below HP0.out hHeld) 2).trans rfl;have d0:=cell_at hHeld P0.out;have d1:=cell_at hHeld P1.out;go_simp;rfl)
                refine pp_ ?_ ?_ ?_
                refine pp_ ?_ ?_ ?_
                refine pp_ ?_ ?_ ?_
                refine pp_ ?_ ?_ ?_ (y:=by have d0:=(blk_cell (blk_below HP0.out hHeld) 0).trans rfl;have d1:=(blk_cell (blk_below HP0.out hHeld) 1).trans rfl;have d2:=(blk_cell (blk_below HP0.out hHeld) 2).trans rfl;have d0:=cell_at hHeld P0.out;have d1:=cell_at hHeld P1.out;go_simp;rfl)
                refine pp_ ?_ ?_ ?_
                refine pp_ ?_ ?_ ?_
                refine pl_nil ?_
                clear hHeld
                go_upto_region 19 with (fail)
                refine pl_start ?_
                refine pl_held (B:=v0.heap.size) (v:=v0) (HBm.out) (fun hHeld => ?_)
                refine pp_ ?_ ?_ ?_
                refine pp_ ?_ ?_ ?_ (y:=by have d0:=(blk_cell (blk_below HP0.out hHeld) 0).trans rfl;have d1:=(blk_cell (blk_below HP0.out hHeld) 1).trans rfl;have d2:=(blk_cell (blk_below HP0.out hHeld) 2).trans rfl;have d0:=cell_at hHeld P0.out;have d1:=cell_at hHeld P1.out;have d2:=cell_at hHeld HC.out;go_simp;rfl)
                refine pp_ ?_ ?_ ?_
                refine pp_ ?_ ?_ ?_
                refine pp_ ?_ ?_ ?_
                refine pp_ ?_ ?_ ?_ (y:=by have d0:=(blk_cell (blk_below HP0.out hHeld) 0).trans rfl;have d1:=(blk_cell (blk_below HP0.out hHeld) 1).trans rfl;have d2:=(blk_cell (blk_below HP0.out hHeld) 2).trans rfl;have d0:=cell_at hHeld P0.out;have d1:=cell_at hHeld P1.out;have d2:=cell_at hHeld HC.out;go_simp;rfl)
                refine pp_ ?_ ?_ ?_
                refine pp_ ?_ ?_ ?_
                refine pp_ ?_ ?_ ?_ (y:=by have d0:=(blk_cell (blk_below HP0.out hHeld) 0).trans rfl;have d1:=(blk_cell (blk_below HP0.out hHeld) 1).trans rfl;have d2:=(blk_cell (blk_below HP0.out hHeld) 2).trans rfl;have d0:=cell_at hHeld P0.out;have d1:=cell_at hHeld P1.out;have d2:=cell_at hHeld HC.out;go_simp;rfl)
                refine pp_ ?_ ?_ ?_
                refine pl_nil ?_
                clear hHeld
                go_upto_region 20 with (fail)
                cases bo
                · refine pl_start ?_
                  refine pl_held (B:=v0.heap.size) (v:=v0) (HBm.out) (fun hHeld => ?_)
                  refine pp_ ?_ ?_ ?_
                  refine pp_ ?_ ?_ ?_
                  refine pf_ ?_ ?_
                  refine pf_ ?_ ?_
                  refine pf_ ?_ ?_
                  refine pf_ ?_ ?_
                  refine pf_ ?_ ?_
                  refine pf_ ?_ ?_
                  refine pf_ ?_ ?_
                  refine pf_ ?_ ?_
                  refine pf_ ?_ ?_
                  refine pf_ ?_ ?_
                  refine pf_ ?_ ?_
                  refine pf_ ?_ ?_
                  refine pf_ ?_ ?_
                  refine pf_ ?_ ?_
                  refine pf_ ?_ ?_
                  refine pp_ ?_ ?_ ?_
                  refine pp_ ?_ ?_ ?_
                  refine pl_nil ?_
                  go_wp2
                  go_roundw
                  case rel => exact ⟨m + 1,by omega,by go_num,by rw [HSN.out,Bool.false_and],HBm⟩
                  case measure => simp [intOf];omega
                · by_cases h1 : y < (g.terms.length : Int)
                  · have dy : decide (y < (g.terms.length : Int)) = true:=decide_eq_true h1
                    have HOY : Aside0 (ownB g ⟨rl,rr⟩ y = true):=⟨by unfold ownB;rw [dy,Bool.true_or]⟩
                    refine pl_start ?_
                    refine pl_held (B:=v0.heap.size) (v:=v0) (HBm.out) (fun hHeld => ?_)
                    refine pp_ ?_ ?_ ?_
                    refine pp_ ?_ ?_ ?_
                    refine pp_ ?_ ?_ ?_
                    refine pp_ ?_ ?_ ?_
                    refine pp_ ?_ ?_ ?_ (y:=by have d0:=(blk_cell (blk_below HP0.out hHeld) 0).trans rfl;have d1:=(blk_cell (blk_below HP0.out hHeld) 1).trans rfl;have d2:=(blk_cell (blk_below HP0.out hHeld) 2).trans rfl;have d0:=cell_at hHeld P0.out;have d1:=cell_at hHeld P1.out;go_simp;rfl)
                    refine pp_ ?_ ?_ ?_
                    refine pp_ ?_ ?_ ?_
                    refine pp_ ?_ ?_ ?_
                    refine pf_ ?_ ?_
                    refine pf_ ?_ ?_
                    refine pf_ ?_ ?_
                    refine pf_ ?_ ?_
                    refine pf_ ?_ ?_
                    refine pf_ ?_ ?_
                    refine pf_ ?_ ?_
                    refine pf_ ?_ ?_
                    refine pp_ ?_ ?_ ?_
                    refine pp_ ?_ ?_ ?_
                    refine pp_ ?_ ?_ ?_
                    refine pl_nil ?_
                    go_wp2
                    go_roundw
                    case rel => exact ⟨m + 1,by omega,by go_num,by rw [HSN.out,HOY.out];rfl,HBm⟩
                    case measure => simp [intOf];omega
                  · have dy : decide (y < (g.terms.length : Int)) = false:=decide_eq_false h1
                    obtain ⟨be,hbe⟩ : ∃ be,(y == rl) = be:=⟨_,rfl⟩
                    have HOY : Aside0 (ownB g ⟨rl,rr⟩ y = be):=⟨by unfold ownB;rw [dy,Bool.false_or,← hbe];rw [Bool.eq_iff_iff,decide_eq_true_eq,beq_iff_eq]⟩
                    refine pl_start ?_
                    refine pl_held (B:=v0.heap.size) (v:=v0) (HBm.out) (fun hHeld => ?_)
                    refine pp_ ?_ ?_ ?_
                    refine pp_ ?_ ?_ ?_
                    refine pp_ ?_ ?_ ?_
                    refine pp_ ?_ ?_ ?_
                    refine pp_ ?_ ?_ ?_ (y:=by have d0:=(blk_cell (blk_below HP0.out hHeld) 0).trans rfl;have d1:=(blk_cell (blk_below HP0.out hHeld) 1).trans rfl;have d2:=(blk_cell (blk_below HP0.out hHeld) 2).trans rfl;have d0:=cell_at hHeld P0.out;have d1:=cell_at hHeld P1.out;go_simp;rfl)
                    refine pp_ ?_ ?_ ?_
                    refine pp_ ?_ ?_ ?_
                    refine pp_ ?_ ?_ ?_
                    refine pp_ ?_ ?_ ?_
                    refine pp_ ?_ ?_ ?_
                    refine pp_ ?_ ?_ ?_ (y:=by have d0:=(blk_cell (blk_below HP0.out hHeld) 0).trans rfl;have d1:=(blk_cell (blk_below HP0.out hHeld) 1).trans rfl;have d2:=(blk_cell (blk_below HP0.out hHeld) 2).trans rfl;have d0:=cell_at hHeld P0.out;have d1:=cell_at hHeld P1.out;go_simp;rfl)
                    refine pp_ ?_ ?_ ?_
                    refine pp_ ?_ ?_ ?_
                    refine pp_ ?_ ?_ ?_
                    refine pp_ ?_ ?_ ?_ (y:=by have d0:=(blk_cell (blk_below HP0.out hHeld) 0).trans rfl;have d1:=(blk_cell (blk_below HP0.out hHeld) 1).trans rfl;have d2:=(blk_cell (blk_below HP0.out hHeld) 2).trans rfl;have d0:=cell_at hHeld P0.out;have d1:=cell_at hHeld P1.out;go_simp;rfl)
                    refine pp_ (.bool be) ?_ ?_ (y:=by go_simp)
                    refine pp_ ?_ ?_ ?_
                    refine pp_ ?_ ?_ ?_
                    refine pp_ ?_ ?_ ?_
                    refine pl_nil ?_
                    go_wp2
                    go_roundw
                    case rel => exact ⟨m + 1,by omega,by go_num,by rw [HSN.out,HOY.out];rfl,HBm⟩
                    case measure => simp [intOf];omega
              · have dn : decide ((m : Int) < (rr.length : Int)) = false:=decide_eq_false (by omega)
                have hE : rr.take m = rr:=List.take_of_length_le (by omega)
                rw [hE]
                clear hE
                obtain ⟨bo,hbo⟩ : ∃ bo,rr.all (ownB g ⟨rl,rr⟩) = bo:=⟨_,rfl⟩
                have hol:=HOL.out
                rw [hbo] at hol ⊢
                clear hbo HOL
                go_upto_region 17 with (fail)
                refine pl_start ?_
                refine pl_held (B:=v0.heap.size) (v:=v0) (HBm.out) (fun hHeld => ?_)
                refine pp_ ?_ ?_ ?_
                refine pp_ ?_ ?_ ?_
                refine pp_ ?_ ?_ ?_ (y:=by have d0:=(blk_cell (blk_below HP0.out hHeld) 0).trans rfl;have d1:=(blk_cell (blk_below HP0.out hHeld) 1).trans rfl;have d2:=(blk_cell (blk_below HP0.out hHeld) 2).trans rfl;have d0:=cell_at hHeld P0.out;have d1:=cell_at hHeld P1.out;go_simp;rfl)
                refine pp_ ?_ ?_ ?_
                refine pp_ ?_ ?_ ?_
                refine pp_ ?_ ?_ ?_
                refine pp_ ?_ ?_ ?_ (y:=by have d0:=(blk_cell (blk_below HP0.out hHeld) 0).trans rfl;have d1:=(blk_cell (blk_below HP0.out hHeld) 1).trans rfl;have d2:=(blk_cell (blk_below HP0.out hHeld) 2).trans rfl;have d0:=cell_at hHeld P0.out;have d1:=cell_at hHeld P1.out;go_simp;rfl)
                refine pp_ ?_ ?_ ?_
                refine pp_ ?_ ?_ ?_
                refine pl_nil ?_
                clear hHeld
                cases bo
                · obtain ⟨p,ho3⟩:=hol.2 rfl
                  have HO3:=Lib.hid ho3
                  clear hol ho3
                  go_upto_region 22 with (go_at_call 23;go_loud (refine (of_badL HO3.out _).mono ?_;rintro e w1 ⟨rfl,hb1⟩;have HBw1:=Aside0.mk hb1;clear hb1))
                  obtain ⟨v1,hv⟩ : ∃ v,v = (w1.alloc (.cells #[.slice none 0 0,.slice none 0 0,.slice none 0 0] 25 (0,0))).alloc (.cells #[.int .i64 13,.int .i64 p] 42 (0,0)):=⟨_,rfl⟩
                  have KF : Aside0 (v1.heap[w1.heap.size + 1]? = some (.cells #[.int .i64 13,.int .i64 p] 42 (0,0))):=⟨by rw [hv];exact blk_snd w1 _ _⟩
                  have HBv:=Aside0.mk (below_then HBm.out HBm.out.size ((HBw1.out.alloc HBw1.out.size (.cells #[.slice none 0 0,.slice none 0 0,.slice none 0 0] 25 (0,0))).alloc (by simp;have:=HBw1.out.size;omega) (.cells #[.int .i64 13,.int .i64 p] 42 (0,0))))
                  rw [← hv] at HBv
                  simp only [← hv]
                  clear hv
                  refine start_ (n:=30) (S:=fun w' => Below v1.heap.size v1 w') (ds:=[]) (lb 30 0x0) (by kernel_rfl) rfl (by kernel_rfl) (below_drew1 (Below.refl _ _)) (fun hHeld => ?_)
                  refine pu_ ?_ ?_ 0 (some 102) (lb 30 0x1) ?_
                  refine pu_ ?_ ?_ 3 (some 105) (lb 30 0x9) ?_
                  refine ta_ ?_ ?_ 1 (some 103) (lb 30 0xb) hHeld ?_ (y:=by rintro w' hS;have d0:=(blk_cell (blk_below KF.out hS) 0).trans rfl;have d1:=(blk_cell (blk_below KF.out hS) 1).trans rfl;go_simp;with_reducible rfl)
                  refine pu_ ?_ ?_ 2 (some 104) (lb 30 0xf) ?_
                  refine pu_ ?_ ?_ 4 (some 106) (lb 30 0x1f) ?_
                  refine pu_ ?_ ?_ 5 (some 107) (lb 30 0x3f) ?_
                  refine pu_ ?_ ?_ 6 (some 108) (lb 30 0x7f) ?_
                  refine pu_ ?_ ?_ 7 (some 109) (lb 30 0xff) ?_
                  refine po_ ?_ 8 (some 110) (lb 30 0x1ff) ?_
                  refine po_ ?_ 9 (some 111) (lb 30 0x3ff) ?_
                  refine po_ ?_ 10 (some 112) (lb 30 0x7ff) ?_
                  refine po_ ?_ 11 (some 113) (lb 30 0xfff) ?_
                  refine po_ ?_ 12 (some 114) (lb 30 0x1fff) ?_
                  refine po_ ?_ 13 (some 115) (lb 30 0x3fff) ?_
                  refine po_ ?_ 19 (some 121) (lb 30 0x83fff) ?_
                  refine po_ ?_ 21 (some 123) (lb 30 0x283fff) ?_
                  refine po_ ?_ 14 (some 116) (lb 30 0x287fff) ?_
                  refine po_ ?_ 15 (some 117) (lb 30 0x28ffff) ?_
                  refine po_ ?_ 16 (some 118) (lb 30 0x29ffff) ?_
                  refine po_ ?_ 17 (some 119) (lb 30 0x2bffff) ?_
                  refine po_ ?_ 18 (some 120) (lb 30 0x2fffff) ?_
                  refine po_ ?_ 20 (some 122) (lb 30 0x3fffff) ?_
                  refine po_ ?_ 22 (some 124) (lb 30 0x7fffff) ?_
                  refine po_ ?_ 23 (some 125) (lb 30 0xffffff) ?_
                  refine po_ ?_ 24 (some 126) (lb 30 0x1ffffff) ?_
                  refine po_ ?_ 25 (some 127) (lb 30 0x3ffffff) ?_
                  refine po_ ?_ 26 (some 128) (lb 30 0x7ffffff) ?_
                  refine po_ ?_ 27 (some 129) (lb 30 0xfffffff) ?_
                  refine pu_ ?_ ?_ 28 (some 130) (lb 30 0x1fffffff) ?_
                  refine pu_ ?_ ?_ 29 (some 131) (lb 30 0x3fffffff) ?_
                  refine done_ (by kernel_rfl) ?_
                  have HXz:=Aside0.mk (below_then HBv.out HBv.out.size hHeld)
                  clear hHeld
                  go_wp2
                  go_roundw
                  case rel => exact ⟨i + 1,k + 1,by omega,by omega,by go_num,by go_num,by rw [HNF.out];go_num,HNX,HXz⟩
                  case measure => simp [intOf];omega
                · obtain ⟨h,r',ho3,hor,hrl⟩:=hol.1 rfl
                  obtain ⟨hts,hns,hrs⟩:=h
                  dsimp only at hor
                  subst hor
                  have HO3:=Lib.hid ho3
                  clear hol ho3
                  go_upto_region 22 with (go_at_call 23;go_loud (refine (of_ok HO3.out _).mono ?_;rintro e w1 ⟨⟨B1,B2,B3,e1,e2,e3,rfl,hg1⟩,hb1⟩;have HBw1:=Aside0.mk hb1;have HGw1:=Aside0.mk hg1;clear hg1 hb1))
                  obtain ⟨v1,hv⟩ : ∃ v,v = (w1.alloc (.cells #[.slice B1 hts.length e1,.slice B2 hns.length e2,.slice B3 1 e3] 25 (0,0))).alloc (.cells #[.int .i64 0,.int .i64 0] 42 (0,0)):=⟨_,rfl⟩
                  have KG : Aside0 (v1.heap[w1.heap.size]? = some (.cells #[.slice B1 hts.length e1,.slice B2 hns.length e2,.slice B3 1 e3] 25 (0,0))):=⟨by rw [hv];exact blk_alloc (blk_new w1 _) _⟩
                  have KF : Aside0 (v1.heap[w1.heap.size + 1]? = some (.cells #[.int .i64 0,.int .i64 0] 42 (0,0))):=⟨by rw [hv];exact blk_snd w1 _ _⟩
                  have HGv : Aside0 (RepG v1 ⟨hts,hns,[r']⟩ B1 B2 B3 e1 e2 e3):=⟨by rw [hv];exact HGw1.out.below_ (below_alloc (below_alloc (Below.refl _ _) _) _)⟩
                  have HBv:=Aside0.mk (below_then HBm.out HBm.out.size ((HBw1.out.alloc HBw1.out.size (.cells #[.slice B1 hts.length e1,.slice B2 hns.length e2,.slice B3 1 e3] 25 (0,0))).alloc (by simp;have:=HBw1.out.size;omega) (.cells #[.int .i64 0,.int .i64 0] 42 (0,0))))
                  rw [← hv] at HBv
                  simp only [← hv]
                  clear hv
                  obtain ⟨bd,Br,cr2,eB,_,b1,_,_⟩:=at_rule HGv.out.rules 0 (by simp)
                  subst eB
                  rw [show bd.add (0 * 2) = bd from addr_zero bd] at b1
                  have HB1:=Aside0.mk b1
                  have HPv:=Aside0.mk (blk_below HP0.out HBv.out)
                  have P1v:=Aside0.mk (cell_at HBv.out P1.out)
                  have HRL:=Lib.hid hrl
                  have hd : ((r'.right.length : Int) != (rr.length : Int)) = false:=by rw [hrl];simp
                  clear b1 hrl
                  refine start_ (n:=30) (S:=fun w' => Below v1.heap.size v1 w') (ds:=[]) (lb 30 0x0) (by kernel_rfl) rfl (by kernel_rfl) (below_drew1 (Below.refl _ _)) (fun hHeld => ?_)
                  refine pu_ ?_ ?_ 0 (some 102) (lb 30 0x1) ?_
                  refine pu_ ?_ ?_ 3 (some 105) (lb 30 0x9) ?_
                  refine ta_ ?_ ?_ 1 (some 103) (lb 30 0xb) hHeld ?_ (y:=by rintro w' hS;have d0:=(blk_cell (blk_below KF.out hS) 0).trans rfl;have d1:=(blk_cell (blk_below KF.out hS) 1).trans rfl;have d2:=(blk_cell (blk_below KG.out hS) 0).trans rfl;have d3:=(blk_cell (blk_below KG.out hS) 1).trans rfl;have d4:=(blk_cell (blk_below KG.out hS) 2).trans rfl;have d5:=cell_at hS HB1.out;have d6:=(blk_cell (blk_below HPv.out hS) 0).trans rfl;have d7:=(blk_cell (blk_below HPv.out hS) 1).trans rfl;have d8:=(blk_cell (blk_below HPv.out hS) 2).trans rfl;have d9:=cell_at hS P1v.out;go_simp;with_reducible rfl)
                  refine pu_ ?_ ?_ 2 (some 104) (lb 30 0xf) ?_
                  refine pu_ ?_ ?_ 4 (some 106) (lb 30 0x1f) ?_
                  refine pu_ ?_ ?_ 5 (some 107) (lb 30 0x3f) ?_
                  refine pu_ ?_ ?_ 6 (some 108) (lb 30 0x7f) ?_
                  refine pu_ ?_ ?_ 7 (some 109) (lb 30 0xff) ?_
                  refine pu_ ?_ ?_ 8 (some 110) (lb 30 0x1ff) ?_
                  refine ta_ ?_ ?_ 9 (some 111) (lb 30 0x3ff) hHeld ?_ (y:=by rintro w' hS;have d0:=(blk_cell (blk_below KF.out hS) 0).trans rfl;have d1:=(blk_cell (blk_below KF.out hS) 1).trans rfl;have d2:=(blk_cell (blk_below KG.out hS) 0).trans rfl;have d3:=(blk_cell (blk_below KG.out hS) 1).trans rfl;have d4:=(blk_cell (blk_below KG.out hS) 2).trans rfl;have d5:=cell_at hS HB1.out;have d6:=(blk_cell (blk_below HPv.out hS) 0).trans rfl;have d7:=(blk_cell (blk_below HPv.out hS) 1).trans rfl;have d8:=(blk_cell (blk_below HPv.out hS) 2).trans rfl;have d9:=cell_at hS P1v.out;go_simp;with_reducible rfl)
                  refine pu_ ?_ ?_ 10 (some 112) (lb 30 0x7ff) ?_
                  refine pu_ ?_ ?_ 11 (some 113) (lb 30 0xfff) ?_
                  refine pu_ ?_ ?_ 12 (some 114) (lb 30 0x1fff) ?_
                  refine pu_ ?_ ?_ 13 (some 115) (lb 30 0x3fff) ?_
                  refine pu_ ?_ ?_ 19 (some 121) (lb 30 0x83fff) ?_
                  refine pu_ ?_ ?_ 21 (some 123) (lb 30 0x283fff) ?_
                  refine ta_ ?_ ?_ 14 (some 116) (lb 30 0x287fff) hHeld ?_ (y:=by rintro w' hS;have d0:=(blk_cell (blk_below KF.out hS) 0).trans rfl;have d1:=(blk_cell (blk_below KF.out hS) 1).trans rfl;have d2:=(blk_cell (blk_below KG.out hS) 0).trans rfl;have d3:=(blk_cell (blk_below KG.out hS) 1).trans rfl;have d4:=(blk_cell (blk_below KG.out hS) 2).trans rfl;have d5:=cell_at hS HB1.out;have d6:=(blk_cell (blk_below HPv.out hS) 0).trans rfl;have d7:=(blk_cell (blk_below HPv.out hS) 1).trans rfl;have d8:=(blk_cell (blk_below HPv.out hS) 2).trans rfl;have d9:=cell_at hS P1v.out;go_simp;with_reducible rfl)
                  refine pu_ ?_ ?_ 15 (some 117) (lb 30 0x28ffff) ?_
                  refine pu_ ?_ ?_ 16 (some 118) (lb 30 0x29ffff) ?_
                  refine ta_ ?_ ?_ 17 (some 119) (lb 30 0x2bffff) hHeld ?_ (y:=by rintro w' hS;have d0:=(blk_cell (blk_below KF.out hS) 0).trans rfl;have d1:=(blk_cell (blk_below KF.out hS) 1).trans rfl;have d2:=(blk_cell (blk_below KG.out hS) 0).trans rfl;have d3:=(blk_cell (blk_below KG.out hS) 1).trans rfl;have d4:=(blk_cell (blk_below KG.out hS) 2).trans rfl;have d5:=cell_at hS HB1.out;have d6:=(blk_cell (blk_below HPv.out hS) 0).trans rfl;have d7:=(blk_cell (blk_below HPv.out hS) 1).trans rfl;have d8:=(blk_cell (blk_below HPv.out hS) 2).trans rfl;have d9:=cell_at hS P1v.out;go_simp;with_reducible rfl)
                  refine pu_ ?_ ?_ 18 (some 120) (lb 30 0x2fffff) ?_
                  refine ta_ ?_ ?_ 20 (some 122) (lb 30 0x3fffff) hHeld ?_ (y:=by rintro w' hS;have d0:=(blk_cell (blk_below KF.out hS) 0).trans rfl;have d1:=(blk_cell (blk_below KF.out hS) 1).trans rfl;have d2:=(blk_cell (blk_below KG.out hS) 0).trans rfl;have d3:=(blk_cell (blk_below KG.out hS) 1).trans rfl;have d4:=(blk_cell (blk_below KG.out hS) 2).trans rfl;have d5:=cell_at hS HB1.out;have d6:=(blk_cell (blk_below HPv.out hS) 0).trans rfl;have d7:=(blk_cell (blk_below HPv.out hS) 1).trans rfl;have d8:=(blk_cell (blk_below HPv.out hS) 2).trans rfl;have d9:=cell_at hS P1v.out;go_simp;with_reducible rfl)
                  refine pu_ ?_ ?_ 22 (some 124) (lb 30 0x7fffff) ?_
                  refine pu_ ?_ ?_ 23 (some 125) (lb 30 0xffffff) ?_
                  refine ta_ ?_ ?_ 24 (some 126) (lb 30 0x1ffffff) hHeld ?_ (y:=by rintro w' hS;have d0:=(blk_cell (blk_below KF.out hS) 0).trans rfl;have d1:=(blk_cell (blk_below KF.out hS) 1).trans rfl;have d2:=(blk_cell (blk_below KG.out hS) 0).trans rfl;have d3:=(blk_cell (blk_below KG.out hS) 1).trans rfl;have d4:=(blk_cell (blk_below KG.out hS) 2).trans rfl;have d5:=cell_at hS HB1.out;have d6:=(blk_cell (blk_below HPv.out hS) 0).trans rfl;have d7:=(blk_cell (blk_below HPv.out hS) 1).trans rfl;have d8:=(blk_cell (blk_below HPv.out hS) 2).trans rfl;have d9:=cell_at hS P1v.out;go_simp;with_reducible rfl)
                  refine pu_ ?_ ?_ 25 (some 127) (lb 30 0x3ffffff) ?_
                  refine pu_ ?_ ?_ 26 (some 128) (lb 30 0x7ffffff) ?_
                  refine pu_ ?_ ?_ 27 (some 129) (lb 30 0xfffffff) ?_
                  refine pu_ ?_ ?_ 28 (some 130) (lb 30 0x1fffffff) ?_
                  refine pu_ ?_ ?_ 29 (some 131) (lb 30 0x3fffffff) ?_
                  refine done_ (by kernel_rfl) ?_
                  have HXz:=Aside0.mk (below_then HBv.out HBv.out.size hHeld)
                  clear hHeld
                  go_wp2
                  go_roundw
                  case rel => exact ⟨i + 1,k + 1,by omega,by omega,by go_num,by go_num,by rw [HNF.out];go_num,HNX,HXz⟩
                  case measure => simp [intOf];omega
        · have hE:=HL.out.done hk (by rw [HT.out];omega)
          subst hE
          have hoa:=HOA.out
          rw [hoa]
          clear hoa
          go_upto_region 26 with (fail)
          refine pl_start ?_
          refine pl_held (B:=v0.heap.size) (v:=v0) (HB.out) (fun hHeld => ?_)
          refine pp_ ?_ ?_ ?_
          refine pp_ ?_ ?_ ?_
          refine pp_ ?_ ?_ ?_ (y:=by have d0:=(blk_cell (blk_below HP0.out hHeld) 0).trans rfl;have d1:=(blk_cell (blk_below HP0.out hHeld) 1).trans rfl;have d2:=(blk_cell (blk_below HP0.out hHeld) 2).trans rfl;go_simp;rfl)
          refine pp_ ?_ ?_ ?_
          refine pp_ (.bool true) ?_ ?_ (y:=by go_simp)
          refine pp_ ?_ ?_ ?_
          refine pp_ ?_ ?_ ?_
          refine pp_ ?_ ?_ ?_
          refine pp_ ?_ ?_ ?_
          refine pp_ (.bool true) ?_ ?_ (y:=by go_simp)
          refine pp_ ?_ ?_ ?_
          refine pp_ ?_ ?_ ?_
          refine goesCL_ (N:=(some 148)) Try.func16 (by kernel_rfl) rfl (by rfl) rfl rfl (wakes04_c _) (by simp [Act.eval]) ?_
          rintro e x26_12 ⟨rfl,hb26_12⟩
          refine ⟨_,rfl,?_⟩
          simp only [Act.put,List.setIfInBounds_toArray,List.set_cons_zero,List.set_cons_succ]
          refine pl_held (B:=v0.heap.size) (v:=v0) (below_then hHeld hHeld.size hb26_12) (fun hHeld => ?_)
          refine pp_ ?_ ?_ ?_
          refine pp_ ?_ ?_ ?_
          refine pl_nil ?_
          go_wp2
          go_ret
          exact ⟨ret_bool rfl,below_then HB0.out HB0.out.size hHeld⟩
    · have hx0 : x ≠ 0 ∧ t = ⟨#[]⟩:=by
        cases hgd : goodF g
        · rw [hgd,if_neg (by decide)] at ho2
          injection ho2 with e1 e2
          exact ⟨by rw [← e2];decide,e1.symm⟩
        · rw [hgd,if_pos rfl,if_pos (by rcases Nat.lt_or_ge 2000 (textF g).size with h | h;exact h;exact absurd ⟨hgd,by omega⟩ hx)] at ho2
          injection ho2 with e1 e2
          exact ⟨by rw [← e2];decide,e1.symm⟩
      obtain ⟨hx1,rfl⟩:=hx0
      clear hx ho2
      go_upto_region 5 with (fail)
      refine pl_start ?_
      refine pl_held (B:=v0.heap.size) (v:=v0) (HX3.out) (fun hHeld => ?_)
      refine pp_ ?_ ?_ ?_
      refine pp_ (.bool true) ?_ ?_ (y:=by go_simp)
      refine pp_ ?_ ?_ ?_
      refine goesCL_ (N:=(some 27)) Try.func16 (by kernel_rfl) rfl (by rfl) rfl rfl (wakes04_c _) (by simp [Act.eval]) ?_
      rintro e x5_3 ⟨rfl,hb5_3⟩
      refine ⟨_,rfl,?_⟩
      simp only [Act.put,List.setIfInBounds_toArray,List.set_cons_zero,List.set_cons_succ]
      refine pl_held (B:=v0.heap.size) (v:=v0) (below_then hHeld hHeld.size hb5_3) (fun hHeld => ?_)
      refine pp_ ?_ ?_ ?_
      refine pp_ ?_ ?_ ?_
      refine pl_nil ?_
      go_wp2
      go_ret
      exact ⟨ret_bool rfl,below_then HB0.out HB0.out.size hHeld⟩
  · go_upto_region 2 with (fail)
    refine pl_start ?_
    refine pl_held (B:=v0.heap.size) (v:=v0) (HX1.out) (fun hHeld => ?_)
    refine goesCL_ (N:=(some 16)) Try.func16 (by kernel_rfl) rfl (by rfl) rfl rfl (wakes04_c _) (by simp [Act.eval]) ?_
    rintro e x2_0 ⟨rfl,hb2_0⟩
    refine ⟨_,rfl,?_⟩
    simp only [Act.put,List.setIfInBounds_toArray,List.set_cons_zero,List.set_cons_succ]
    refine pl_held (B:=v0.heap.size) (v:=v0) (below_then hHeld hHeld.size hb2_0) (fun hHeld => ?_)
    refine pp_ ?_ ?_ ?_
    refine pl_nil ?_
    go_wp2
    go_ret
    exact ⟨ret_bool rfl,below_then HB0.out HB0.out.size hHeld⟩
end Go.Proofs.Ytdpdbgaoaibafaa
