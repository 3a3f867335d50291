/- Contracts of functions of the program, and plain laws (texts N9, N10, N11, N12, N13, N14, N15, N16, P38, P40), joined: each theorem says what it proves. -/
import Derived.Test.YtmkgcjhimajgiaaFS
import Derived.Test.YtmkgcjhimajgiaaFH
import Derived.Test.YtmkgcjhimajgiaaFP
import Derived.Test.YtmkgcjhimajgiaaFN
import Derived.Test.YtmkgcjhimajgiaaFI
set_option linter.unusedVariables false
set_option linter.unusedSimpArgs false
namespace Go.Proofs.Ytmkgcjhimajgiaa
open Go.RowKit Go.Proofs.YtmkgcjhimajgiaaW.PrintWords Go.Proofs.YtmkgcjhimajgiaaW.PrintLast Go.Conc

theorem app_pks {ops : Array Oper} {rest : List Oper} {o : Oper} {a : Act} {Q : Exit → Act → World → Prop} {w0 W : World} {base : Nat} {v : Value} {ok : Nat → Prop} {s x : Operand} {xs ys : List PackN} {A : Option Addr} {c : Nat} (hgd : o.guard = none) (ho : o.op = .call { callee:=.builtin .append,args:=#[s,x],argTypes:=#[64,64] })
    (HO : kPk.R 82 W base ok v xs) (HB : Below base w0 W) (hbase : base ≤ W.heap.size) (hl : xs.length + ys.length ≤ 1000000000) (hfresh : ∀ k,W.heap.size ≤ k → ok k) (hs : a.eval s = v) (hx : a.eval x = .slice A ys.length c) (HC : kPk.C W A ys.length ys)
    (h : ∀ v1 w1,kPk.R 82 w1 base ok v1 (xs ++ ys) → Below base w0 w1 → W.grownBy w1 v.ownBlock → (v1.ownBlock = v.ownBlock ∨ ∃ b,v1.ownBlock = some b ∧ W.heap.size ≤ b) → wpList Try.prog ops Q rest (a.put o.dst v1) w1) :
    wpList Try.prog ops Q (o :: rest) a W :=
  Kd.R_append_rows kPk base hgd s x 64 82 _ 32 ho Try.underlying64 infoPack rfl (by show 0 < 4;decide) (by decide) v xs ys A ys.length c ok (fun _ => False) hs hx HO HC (fun x cs h => by obtain rfl:=K_pk h;exact M_pk _ _ _ x) (fun _ h => h.elim) hfresh HB hbase (by omega) h
set_option maxRecDepth 100000 in
set_option maxHeartbeats 16000000 in
theorem packs1_c (w0 : World) (f : FB) (g : Gram) (wd : List Int) (k : CB) (vN vT : Value) (s : FSt) (r d : Nat) (i j : Int) (A : Option Addr) (n c : Nat) (W : World) (hw : FW w0 f g wd k) (h : FM w0 W f g vN vT s) (hr : r < g.rules.length) (hd : 2 ≤ d) (hdl : d ≤ (rightR g r).length) (hi : 0 ≤ i ∧ i ≤ 40) (hj : 0 ≤ j ∧ j ≤ 40) (hl : s.X.length ≤ 50000) (htd : s.td.length ≤ 50000) :
    Calls Try.prog 87 #[.pointer (some ⟨f.b,0,none⟩),.agg #[.int .i64 (-1),.int .i64 (r : Nat),.int .i64 (d : Nat),.int .i64 i,.int .i64 j,.slice A n c]] W fun e W' => SplitEnd w0 W f g vN vT (splitF g wd s.L r d i j).1 (splitSt f.most g r d i j s (pivF g wd r d i j)) e W':=by
  obtain ⟨x0,hx0⟩ : ∃ x0,x0 = W.heap.size:=⟨_,rfl⟩
  obtain ⟨v0,hv0⟩ : ∃ v0 : World,v0 = W.alloc (.cells #[.int .i64 (-1),.int .i64 (r : Nat),.int .i64 (d : Nat),.int .i64 i,.int .i64 j,.slice A n c] 66 (0,0)):=⟨_,rfl⟩
  have HB0 : Aside0 (Below W.heap.size W v0):=⟨by rw [hv0];exact (Below.refl W.heap.size W).alloc (Nat.le_refl _) _⟩
  have HX : Aside0 (v0.heap[x0]? = some (.cells #[.int .i64 (-1),.int .i64 (r : Nat),.int .i64 (d : Nat),.int .i64 i,.int .i64 j,.slice A n c] 66 (0,0))):=⟨by rw [hv0,hx0];exact blk_new W _⟩
  have HS:=Aside0.mk (splitF_c w0 f g wd k vN vT s r d i j v0 hw (h.below_ HB0.out) hr hd hdl hi hj hl htd)
  generalize (splitF g wd s.L r d i j).1 = P at HS ⊢
  generalize splitSt f.most g r d i j s (pivF g wd r d i j) = s' at HS ⊢
  have c0:=(blk_cell HX.out 0).trans rfl
  have c1:=(blk_cell HX.out 1).trans rfl
  have c2:=(blk_cell HX.out 2).trans rfl
  have c3:=(blk_cell HX.out 3).trans rfl
  have c4:=(blk_cell HX.out 4).trans rfl
  clear hw h hr hd hdl hi hj hl htd
  go_enter Try.func87,Try.ntmps87
  go_upto_region 1 with (fail)
  simp only [← hv0]
  simp only [← hx0]
  clear hv0 hx0
  go_wp2_with (go_at_call 105;go_loud (refine HS.out.mono ?_;rintro e w5 ⟨vP,vN',vT',b0,rfl,hb0,hP,hF,hG⟩;have HP5:=Aside0.mk hP;have HB5:=Aside0.mk hb0;have HF5:=Aside0.mk hF;have HG5:=Aside0.mk hG;clear hP hb0 hF hG))
  go_ret
  exact ⟨_,_,_,_,rfl,Nat.le_trans HB0.out.size HB5.out,HP5.out,HF5.out,(GoF.below HB0.out _ _).trans HG5.out⟩
end Go.Proofs.Ytmkgcjhimajgiaa


set_option linter.unusedVariables false
set_option linter.unusedSimpArgs false
namespace Go.Proofs.Ytmkgcjhimajgiaa
open Go.RowKit Go.Proofs.YtmkgcjhimajgiaaW.PrintWords Go.Proofs.YtmkgcjhimajgiaaW.PrintLast Go.Conc

noncomputable def packsSt (most : Int) (g : Gram) (wd : List Int) (x : Lab) (s : FSt) (l : List Nat) : FSt:=l.foldl (fun s r => if leftR g r = x.sym then wholeSt most g wd r x.i x.j s else s) s
theorem packsSt_snoc (most : Int) (g : Gram) (wd : List Int) (x : Lab) (s : FSt) (l : List Nat) (r : Nat) : packsSt most g wd x s (l ++ [r]) = if leftR g r = x.sym then wholeSt most g wd r x.i x.j (packsSt most g wd x s l) else packsSt most g wd x s l:=by
  unfold packsSt
  rw [List.foldl_append]
  rfl
theorem packsSt_L (most : Int) (g : Gram) (wd : List Int) (x : Lab) (l : List Nat) : ∀ (s : FSt) (P : List PackN),(l.foldl (packStep g wd x) (P,s.L)).2 = (packsSt most g wd x s l).L:=by
  induction l with
  | nil => intro s P;rfl
  | cons r l ih =>
    intro s P
    rw [List.foldl_cons]
    by_cases h : leftR g r = x.sym
    · have e1 : packStep g wd x (P,s.L) r = (P ++ (wholeF g wd s.L r x.i x.j).1,(wholeSt most g wd r x.i x.j s).L):=by unfold packStep;rw [if_pos h,← wholeSt_L]
      have e2 : packsSt most g wd x s (r :: l) = packsSt most g wd x (wholeSt most g wd r x.i x.j s) l:=by unfold packsSt;rw [List.foldl_cons,if_pos h]
      rw [e1,e2,ih]
    · have e1 : packStep g wd x (P,s.L) r = (P,s.L):=by unfold packStep;rw [if_neg h]
      have e2 : packsSt most g wd x s (r :: l) = packsSt most g wd x s l:=by unfold packsSt;rw [List.foldl_cons,if_neg h]
      rw [e1,e2,ih]
theorem wholeSt_len (most : Int) (g : Gram) {wd : List Int} (hw : wd.length ≤ 40) (r : Nat) (i j : Int) (s : FSt) : (wholeSt most g wd r i j s).X.length ≤ s.X.length + 82 ∧ (wholeSt most g wd r i j s).td.length ≤ s.td.length + 82:=by
  unfold wholeSt
  split
  · omega
  · split
    · split
      · have:=nodeS_len most s (symLab ((rightR g r).getD 0 0) i j);omega
      · omega
    · have h1:=splitSt_len most g r (rightR g r).length i j s (pivF g wd r (rightR g r).length i j)
      have h2:=piv_len41 hw (g:=g) (r:=r) (d:=(rightR g r).length) (i:=i) (j:=j)
      omega
theorem packsSt_len (most : Int) (g : Gram) {wd : List Int} (hw : wd.length ≤ 40) (x : Lab) (l : List Nat) : ∀ s : FSt,(packsSt most g wd x s l).X.length ≤ s.X.length + 82 * l.length ∧ (packsSt most g wd x s l).td.length ≤ s.td.length + 82 * l.length:=by
  induction l with
  | nil => intro s;simp [packsSt]
  | cons r l ih =>
    intro s
    by_cases h : leftR g r = x.sym
    · have e2 : packsSt most g wd x s (r :: l) = packsSt most g wd x (wholeSt most g wd r x.i x.j s) l:=by unfold packsSt;rw [List.foldl_cons,if_pos h]
      have h1:=wholeSt_len most g hw r x.i x.j s
      have h2:=ih (wholeSt most g wd r x.i x.j s)
      rw [e2,List.length_cons]
      omega
    · have e2 : packsSt most g wd x s (r :: l) = packsSt most g wd x s l:=by unfold packsSt;rw [List.foldl_cons,if_neg h]
      have h2:=ih s
      rw [e2,List.length_cons]
      omega
end Go.Proofs.Ytmkgcjhimajgiaa


set_option linter.unusedVariables false
set_option linter.unusedSimpArgs false
namespace Go.Proofs.Ytmkgcjhimajgiaa
open Go.RowKit Go.Proofs.YtmkgcjhimajgiaaW.PrintWords Go.Proofs.YtmkgcjhimajgiaaW.PrintLast Go.Conc

theorem wholeF_len (g : Gram) {wd : List Int} (hw : wd.length ≤ 40) (L : List Lab) (r : Nat) (i j : Int) : (wholeF g wd L r i j).1.length ≤ 41:=by
  unfold wholeF
  split
  · split <;> simp
  · split
    · split <;> simp
    · unfold splitF
      rw [split_len]
      have:=piv_len41 hw (g:=g) (r:=r) (d:=(rightR g r).length) (i:=i) (j:=j)
      simpa using this
theorem packs_len (g : Gram) {wd : List Int} (hw : wd.length ≤ 40) (x : Lab) (l : List Nat) : ∀ st : List PackN × List Lab,(l.foldl (packStep g wd x) st).1.length ≤ st.1.length + 41 * l.length:=by
  induction l with
  | nil => intro st;simp
  | cons r l ih =>
    intro st
    rw [List.foldl_cons]
    have h1:=ih (packStep g wd x st r)
    have h2 : (packStep g wd x st r).1.length ≤ st.1.length + 41:=by
      unfold packStep
      split
      · have:=wholeF_len g hw st.2 r x.i x.j
        simp only [List.length_append]
        omega
      · omega
    rw [List.length_cons]
    omega
set_option maxRecDepth 100000 in
set_option maxHeartbeats 16000000 in
theorem packs2_c (w0 : World) (f : FB) (g : Gram) (wd : List Int) (k : CB) (vN vT : Value) (s : FSt) (x : Lab) (A : Option Addr) (n c : Nat) (W : World) (hw : FW w0 f g wd k) (h : FM w0 W f g vN vT s) (hs : x.sym ≠ -1) (hi : 0 ≤ x.i ∧ x.i ≤ 40) (hj : 0 ≤ x.j ∧ x.j ≤ 40) (hl : s.X.length ≤ 20000) (htd : s.td.length ≤ 20000) :
    Calls Try.prog 87 #[.pointer (some ⟨f.b,0,none⟩),.agg #[.int .i64 x.sym,.int .i64 x.rule,.int .i64 x.dot,.int .i64 x.i,.int .i64 x.j,.slice A n c]] W fun e W' => SplitEnd w0 W f g vN vT (packsF g wd s.L x).1 (packsSt f.most g wd x s (List.range g.rules.length)) e W':=by
  obtain ⟨q1,q2,q3,q4⟩:=goodF_small hw.gd
  have hPF : (packsF g wd s.L x).1 = ((List.range g.rules.length).foldl (packStep g wd x) ([],s.L)).1:=by unfold packsF;rw [if_neg hs]
  rw [hPF]
  obtain ⟨x0,hx0⟩ : ∃ x0,x0 = W.heap.size:=⟨_,rfl⟩
  obtain ⟨v0,hv0⟩ : ∃ v0 : World,v0 = W.alloc (.cells #[.int .i64 x.sym,.int .i64 x.rule,.int .i64 x.dot,.int .i64 x.i,.int .i64 x.j,.slice A n c] 66 (0,0)):=⟨_,rfl⟩
  have HB0 : Aside0 (Below W.heap.size W v0):=⟨by rw [hv0];exact (Below.refl W.heap.size W).alloc (Nat.le_refl _) _⟩
  have HX : Aside0 (v0.heap[x0]? = some (.cells #[.int .i64 x.sym,.int .i64 x.rule,.int .i64 x.dot,.int .i64 x.i,.int .i64 x.j,.slice A n c] 66 (0,0))):=⟨by rw [hv0,hx0];exact blk_new W _⟩
  have HF:=Aside0.mk (h.below_ HB0.out)
  have HO:=Aside0.mk HF.out.o
  have HXF : Aside0 (x0 ≠ f.b ∧ x0 ≠ f.mb ∧ some x0 ≠ vN.ownBlock ∧ some x0 ≠ vT.ownBlock):=⟨by
    refine ⟨?_,?_,?_,?_⟩
    · rw [hx0];exact Ne.symm (Nat.ne_of_lt (blk_lt h.o))
    · rw [hx0];exact Ne.symm (Nat.ne_of_lt h.km.lt)
    · intro he;obtain ⟨_,hc⟩:=own_cells h.nd he.symm;have:=blk_lt hc;omega
    · intro he;have:=h.td.lt he.symm;omega⟩
  have HFW:=Aside0.mk hw
  have HIJ:=Lib.hid (And.intro hi hj)
  have HS0:=Lib.hid hs
  have HLS : Aside0 (s.X.length ≤ 20000 ∧ s.td.length ≤ 20000):=⟨hl,htd⟩
  have HW1 : Aside0 (W.heap.size ≤ v0.heap.size):=⟨HB0.out.size⟩
  have HW0 : Aside0 (w0.heap.size ≤ v0.heap.size):=⟨HF.out.below.size⟩
  have HQ:=Lib.hid (And.intro q1 (And.intro q2 (And.intro q3 q4)))
  have c0:=(blk_cell HX.out 0).trans rfl
  have o2:=(blk_cell HO.out 2).trans rfl
  obtain ⟨A3,hA3⟩ : ∃ A3,A3 = f.A3:=⟨_,rfl⟩
  have HR3 : Aside0 (kRule.C w0 A3 g.rules.length g.rules):=⟨by rw [hA3];exact hw.rep.rules⟩
  rw [← hA3] at o2
  have d0 : (x.sym == (-1)) = false:=by simpa using hs
  obtain ⟨nr,hnr⟩ : ∃ nr,nr = g.rules.length:=⟨_,rfl⟩
  have HNR:=Lib.hid hnr
  clear hA3 hw h hi hj hl htd hPF q1 q2 q3 hs
  go_enter Try.func87,Try.ntmps87
  go_upto_region 1 with (fail)
  simp only [← hv0]
  simp only [← hx0]
  clear hv0 hx0
  go_wp2
  clear c0 o2 d0 hnr
  go_loopw [27,5] (fun iv lv wr => ∃ (m : Nat) (vN' vT' : Value),m ≤ g.rules.length ∧ iv = .int .i64 m ∧ Aside0 (FM w0 wr f g vN' vT' (packsSt f.most g wd x s (List.range m))) ∧ Aside0 (GoF f v0 wr vN vT vN' vT') ∧ Aside0 (kPk.R 82 wr v0.heap.size (fun _ => True) lv ((List.range m).foldl (packStep g wd x) ([],s.L)).1)) (fun iv _ _ => g.rules.length - (intOf iv).toNat)
  case atStart => exact ⟨0,vN,vT,Nat.zero_le _,rfl,HF,⟨GoF.refl _ _ _ _⟩,⟨Kd.R_nil _ _ _ _ _⟩⟩
  case round =>
    clear HF HO
    obtain ⟨m,vN',vT',hm,rfl,HF,HG,HR⟩:=hrel
    rename World => wm
    obtain ⟨Pm,hPm⟩ : ∃ Pm,Pm = ((List.range m).foldl (packStep g wd x) ([],s.L)).1:=⟨_,rfl⟩
    rw [← hPm] at HR
    obtain ⟨Al,cl,rfl⟩:=Kd.R_slice HR.out
    by_cases hlt : m < g.rules.length
    · have k2 : (m : Int) < (g.rules.length : Int):=by omega
      have k0 : (0 : Int) ≤ (m : Int):=by omega
      obtain ⟨ad,Br,dr,ead,hx1,hy1,hdr,hC1⟩:=at_rule (Kd.C_below HR3.out HF.out.below) m hlt
      cases ead
      obtain ⟨sm,hsm⟩ : ∃ sm,sm = packsSt f.most g wd x s (List.range m):=⟨_,rfl⟩
      have hb:=packsSt_len f.most g HFW.out.w40 x (List.range m) s
      rw [← hsm,List.length_range] at hb
      have hpb:=packs_len g HFW.out.w40 x (List.range m) ([],s.L)
      rw [← hPm,List.length_range] at hpb
      simp only [List.length_nil,Nat.zero_add] at hpb
      have hsl : ((List.range m).foldl (packStep g wd x) ([],s.L)).2 = sm.L:=by rw [hsm];exact packsSt_L ..
      have hF2 : (List.range m).foldl (packStep g wd x) ([],s.L) = (Pm,sm.L):=by rw [← hsl,hPm]
      have hlft : leftR g m = (g.rules[m]'hlt).left:=leftR_eq hlt
      have hx5 : (v0.heap[x0]?) = wm.heap[x0]?:=(HG.out.keep x0 (blk_lt HX.out) HXF.out.1 HXF.out.2.1 HXF.out.2.2.1 HXF.out.2.2.2).symm
      have HX5:=Aside0.mk (hx5.symm.trans HX.out)
      rw [← hsm] at HF
      obtain ⟨xr,hxr⟩ : ∃ xr,xr = g.rules[m]'hlt:=⟨_,rfl⟩
      rw [← hxr] at hx1 hy1 hdr hC1 hlft
      obtain ⟨W5,hW5⟩ : ∃ W5,W5 = wm.alloc (.cells #[.int .i64 xr.left,.slice Br xr.right.length dr] 46 (0,0)):=⟨_,rfl⟩
      have HB5 : Aside0 (Below wm.heap.size wm W5):=⟨by rw [hW5];exact below_alloc (Below.refl _ _) _⟩
      have HK5 : Aside0 (W5.heap[wm.heap.size]? = some (.cells #[.int .i64 xr.left,.slice Br xr.right.length dr] 46 (0,0))):=⟨by rw [hW5];exact blk_new wm _⟩
      have HF5:=Aside0.mk (HF.out.below_ HB5.out)
      have HR5:=Aside0.mk (Kd.R_below HR.out HB5.out)
      have HG5:=Aside0.mk (HG.out.trans (GoF.below (f:=f) HB5.out vN' vT'))
      have HX6:=Aside0.mk (blk_below HX5.out HB5.out)
      have c0:=(blk_cell HX6.out 0).trans rfl
      have c3:=(blk_cell HX6.out 3).trans rfl
      have c4:=(blk_cell HX6.out 4).trans rfl
      have k5:=(blk_cell HK5.out 0).trans rfl
      have HN1 : Aside0 ((List.range (m + 1)).foldl (packStep g wd x) ([],s.L) = packStep g wd x (Pm,sm.L) m):=⟨by rw [foldl_range_succ,hF2]⟩
      have HN2 : Aside0 (packsSt f.most g wd x s (List.range (m + 1)) = if leftR g m = x.sym then wholeSt f.most g wd m x.i x.j sm else sm):=⟨by rw [List.range_succ,packsSt_snoc,← hsm]⟩
      have HPB : Aside0 (Pm.length ≤ 41 * m):=⟨by omega⟩
      have HML:=Lib.hid hlt
      clear HF HR HG HX5 hx5 hF2 hsl hPm hsm hxr hC1 hdr
      by_cases hls : xr.left = x.sym
      · have HNa : Aside0 (((List.range (m + 1)).foldl (packStep g wd x) ([],s.L)).1 = Pm ++ (wholeF g wd sm.L m x.i x.j).1 ∧ packsSt f.most g wd x s (List.range (m + 1)) = wholeSt f.most g wd m x.i x.j sm):=⟨by
          rw [HN1.out,HN2.out,if_pos (hlft.trans hls)]
          unfold packStep
          rw [if_pos (hlft.trans hls)]
          exact ⟨rfl,rfl⟩⟩
        have HWL : Aside0 ((wholeF g wd sm.L m x.i x.j).1.length ≤ 41):=⟨wholeF_len g HFW.out.w40 _ _ _ _⟩
        have HA:=Aside0.mk (whole_c w0 f g wd k vN' vT' sm m x.i x.j W5 HFW.out HF5.out HML.out HIJ.out.1 HIJ.out.2 (by have:=HQ.out;have:=HLS.out;omega) (by have:=HQ.out;have:=HLS.out;omega))
        generalize (wholeF g wd sm.L m x.i x.j).1 = Pw at HA HNa HWL
        generalize wholeSt f.most g wd m x.i x.j sm = s2 at HA HNa
        clear HN1 HN2 hlft
        rw [hls] at hx1 hW5 k5 HK5
        go_upto_region 7 with (fail)
        simp only [← hW5]
        clear hW5 hx1 hy1
        have d9 : (x.sym == x.sym) = true:=by simp
        go_wp2_with (first
          | (go_at_call 106;go_loud (refine HA.out.mono ?_;rintro e w6 ⟨vP,vN2,vT2,b0,rfl,hb0,hP,hF6,hG6⟩;obtain ⟨AP,cP,rfl⟩:=Kd.R_slice hP;have HC6:=Aside0.mk (Kd.R_reads' hP).2.2;have HF6:=Aside0.mk hF6;have HR6:=Aside0.mk (GoF.row HR5.out HF5.out hG6 (show ∀ q,q ∈ [82] → q ≠ 119 ∧ q ≠ 66 ∧ q ≠ 3 by decide));have HG6:=Aside0.mk (HG5.out.trans hG6);clear hb0 hP hF6 hG6)) | (at_builtin;refine app_pks (w0:=w6) (base:=v0.heap.size) (xs:=Pm) (ys:=Pw) (A:=AP) (c:=cP) (ok:=fun _ => True) rfl rfl HR6.out (Below.refl _ _) HG6.out.size (by have:=HPB.out;have:=HWL.out;have:=HQ.out;have:=HML.out;omega) (fun _ _ => trivial) rfl (by simp [Act.eval]) HC6.out ?_;intro v7 w7 h71 h72 h73 h74;have A7 : Appd kPk 82 w6 w6 v0.heap.size (fun _ => True) (.slice Al Pm.length cl) (Pm ++ Pw) v7 w7:=⟨h71,h72,h73,h74⟩;obtain ⟨A',c',hv7⟩:=Kd.R_slice h71;rw [List.length_append] at hv7;subst hv7;have HF7:=Aside0.mk (HF6.out.packs HR6.out A7 HW0.out);have HG7:=Aside0.mk (HG6.out.beside A7.grown (fun q hq => R_ge HR6.out hq));have HR7:=Aside0.mk A7.row;clear A7 h71 h72 h73 h74))
        go_roundw
        case rel => exact ⟨m + 1,vN2,vT2,by omega,by go_num,by rw [HNa.out.2];exact HF7,HG7,by rw [HNa.out.1];exact HR7⟩
        case measure => simp [intOf];omega
      · have d9 : (xr.left == x.sym) = false:=by simpa using hls
        have HNa : Aside0 (((List.range (m + 1)).foldl (packStep g wd x) ([],s.L)).1 = Pm ∧ packsSt f.most g wd x s (List.range (m + 1)) = sm):=⟨by
          have hne : ¬ leftR g m = x.sym:=by rw [hlft];exact hls
          rw [HN1.out,HN2.out,if_neg hne]
          unfold packStep
          rw [if_neg hne]
          exact ⟨rfl,rfl⟩⟩
        clear HN1 HN2 hlft
        go_upto_region 7 with (fail)
        simp only [← hW5]
        clear hW5 hx1 hy1
        go_wp2
        go_roundw
        case rel => exact ⟨m + 1,vN',vT',by omega,by go_num,by rw [HNa.out.2];exact HF5,HG5,by rw [HNa.out.1];exact HR5⟩
        case measure => simp [intOf];omega
    · obtain rfl : m = g.rules.length:=by omega
      have k2 : ¬ (g.rules.length : Int) < (g.rules.length : Int):=by omega
      have HPM:=Lib.hid hPm
      have HX9:=Aside0.mk ((GoF.below (f:=f) HB0.out vN vT).trans HG.out)
      clear hPm hlt
      go_wp2
      go_ret
      exact ⟨_,_,_,_,rfl,HW1.out,by rw [← HPM.out];exact HR.out,HF.out,HX9.out⟩
end Go.Proofs.Ytmkgcjhimajgiaa


set_option linter.unusedVariables false
set_option linter.unusedSimpArgs false
namespace Go.Proofs.Ytmkgcjhimajgiaa
open Go.RowKit Go.Proofs.YtmkgcjhimajgiaaW.PrintWords Go.Proofs.YtmkgcjhimajgiaaW.PrintLast Go.Conc

/-- The maker,its channel beside it. -/
structure FC (bf : Array Value) (w0 W : World) (f : FB) (g : Gram) (vN vT : Value) (s : FSt) (r : Nat) : Prop extends FM w0 W f g vN vT s where
  ch : ∃ z,W.heap[f.ch]? = some (.chan 1 bf false z r false)
/-- All rows of packs stay. -/
structure KeepP (W W' : World) : Prop where
  size : W.heap.size ≤ W'.heap.size
  keep : ∀ (q : Nat) (cells : Array Value),W.heap[q]? = some (Obj.cells cells 82 (0,0)) → W'.heap[q]? = W.heap[q]?
theorem KeepP.trans {a b c : World} (h : KeepP a b) (i : KeepP b c) : KeepP a c:=⟨Nat.le_trans h.size i.size,fun q cells hq => (i.keep q cells ((h.keep q cells hq).trans hq)).trans (h.keep q cells hq)⟩
theorem KeepP.below {W W' : World} (h : Below W.heap.size W W') : KeepP W W':=⟨h.size,fun q _ hq => h.block q (blk_lt hq)⟩
theorem KeepP.row {W W' : World} (h : KeepP W W') {base : Nat} {v : Value} {xs : List PackN} (hR : kPk.R 82 W base (fun _ => True) v xs) : kPk.R 82 W' base (fun _ => True) v xs :=
  Kd.R_mono (Kd.R_step (Kd.R_bound hR) fun q hq hl => by
    obtain ⟨_,_,_,t,hm,cells,hx⟩:=hq
    have : ∀ t,t ∈ [82] → t = 82:=by decide
    obtain rfl:=this t hm
    exact h.keep q cells hx) fun _ hk => hk.1
section
variable {bf : Array Value} {w0 W W' : World} {f : FB} {g : Gram} {vN vT vN' vT' : Value} {s s' : FSt} {r : Nat}
theorem FC.below_ (h : FC bf w0 W f g vN vT s r) (hb : Below W.heap.size W W') : FC bf w0 W' f g vN vT s r:=by
  obtain ⟨z,hc⟩:=h.ch
  exact ⟨h.toFM.below_ hb,z,heap_below hc hb⟩
theorem GoF.packs (h : FM w0 W f g vN vT s) (hg : GoF f W W' vN vT vN' vT') : KeepP W W':=⟨hg.size,fun q cells hq => by
  obtain ⟨es,clock,hmm⟩:=h.km.block
  refine hg.keep q (blk_lt hq) (blk_ty_ne hq h.o (by decide)) (map_ne hq hmm) ?_ (h.td.ne hq (by decide))
  intro hn
  obtain ⟨c2,h2⟩:=own_cells h.nd hn.symm
  rw [h2] at hq
  injection hq with hq
  injection hq with _ hq
  revert hq
  decide⟩
theorem FC.go (h : FC bf w0 W f g vN vT s r) (hF : FM w0 W' f g vN' vT' s') (hg : GoF f W W' vN vT vN' vT') : FC bf w0 W' f g vN' vT' s' r:=by
  obtain ⟨z,hc⟩:=h.ch
  obtain ⟨es,clock,hmm⟩:=h.km.block
  refine ⟨hF,z,(hg.keep f.ch (Array.getElem?_eq_some_iff.1 hc).1 (Ne.symm (blk_ch_ne h.o hc)) ?_ ?_ ?_).trans hc⟩
  · intro e
    rw [e,hmm] at hc
    cases hc
  · intro e
    obtain ⟨c2,h2⟩:=own_cells h.nd e.symm
    rw [hc] at h2
    cases h2
  · intro e
    obtain ⟨⟨c2,h2⟩,_⟩:=h.td.own e.symm
    rw [hc] at h2
    cases h2
theorem FC.setC (h : FC bf w0 W f g vN vT s r) (bf' : Array Value) (z' r' : Nat) : FC bf' w0 (W.setChan f.ch 1 bf' false z' r' false) f g vN vT s r':=by
  obtain ⟨z,hc⟩:=h.ch
  have hlt:=(Array.getElem?_eq_some_iff.1 hc).1
  have key : ∀ (q : Nat) (cells : Array Value) (t : TypeId),W.heap[q]? = some (Obj.cells cells t (0,0)) → (W.setChan f.ch 1 bf' false z' r' false).heap[q]? = W.heap[q]?:=fun q cells t hq => (chan_far hq (Ne.symm (blk_ch_ne hq hc))).trans hq.symm
  obtain ⟨es,clock,hmm⟩:=h.km.block
  have hmc : f.ch ≠ f.mb:=fun e => by
    rw [e,hmm] at hc
    cases hc
  exact ⟨⟨⟨(key _ _ _ h.o).trans h.o,R_cells h.nd key,h.td.keep (fun q hq => by obtain ⟨⟨cs,hx⟩,_⟩:=h.td.own hq;exact key _ _ _ hx),below_setChan h.below h.lo.2.2 _ _ _ _ _ _,h.lo⟩,h.km.move ((chan_far hmm hmc).trans hmm.symm)⟩,z',heap_setChan _ _ _ _ _ _ _ _ hlt⟩
theorem KeepP.chan (h : ∃ z,W.heap[f.ch]? = some (.chan 1 bf false z r false)) (bf' : Array Value) (z' r' : Nat) : KeepP W (W.setChan f.ch 1 bf' false z' r' false):=by
  obtain ⟨z,hc⟩:=h
  exact ⟨by simp [World.setChan],fun q cells hq => (chan_far hq (Ne.symm (blk_ch_ne hq hc))).trans hq.symm⟩
theorem KeepP.set {q t : Nat} {cs : Array Value} (h : W.heap[q]? = some (Obj.cells cs t (0,0))) (ht : t ≠ 82) (i : Nat) (u : Value) : KeepP W (W.setCell ⟨q,i,none⟩ u) :=
  ⟨by simp [World.setCell],fun p cells hp => Below.heap_setCell W ⟨q,i,none⟩ u p (fun e => by
    have e' : p = q:=e
    rw [e',h] at hp
    injection hp with hp
    injection hp with _ hp
    exact ht hp)⟩
theorem FC.slide (h : FC bf w0 W f g vN vT s r) {l : List Int} (hS : SLD W w0.heap.size vT' l) : FC bf w0 (W.setCell ⟨f.b,8,none⟩ vT') f g vN vT' { s with td:=l } r:=by
  obtain ⟨z,hc⟩:=h.ch
  exact ⟨⟨⟨(blk_set h.o 8 vT').trans (by rfl),R_setOther h.nd h.o (by decide) 8 _,hS.other h.o (by decide) 8 _,below_set h.below h.lo.1 _ _,h.lo⟩,h.km.set h.o vT'⟩,z,set_heap_far hc (Ne.symm (blk_ch_ne h.o hc))⟩
theorem FC.put {gN cN : Nat} (h : FC bf w0 W f g (.slice (some ⟨gN,0,none⟩) s.X.length cN) vT s r) {p : Nat} (hp : p < s.X.length) (A : Option Addr) (n c : Nat) : FC bf w0 (W.setCell ⟨gN,p * 6 + 5,none⟩ (.slice A n c)) f g (.slice (some ⟨gN,0,none⟩) s.X.length cN) vT { s with X:=s.X.set p ⟨s.X[p].lab,A,n,c⟩ } r:=by
  obtain ⟨z,hc⟩:=h.ch
  obtain ⟨cells,hg⟩:=own_cells h.nd (q:=gN) rfl
  have hn:=nd_put h.nd hp A n c
  have hL : ({ s with X:=s.X.set p ⟨s.X[p].lab,A,n,c⟩ } : FSt).L = s.L:=by
    simp only [FSt.L,List.map_set]
    have:=@List.set_getElem_self _ (s.X.map ND.lab) p (by simpa using hp)
    rwa [List.getElem_map] at this
  have hlen : (s.X.set p ⟨s.X[p].lab,A,n,c⟩).length = s.X.length:=List.length_set ..
  refine ⟨⟨⟨set_heap_far h.o (blk_ty_ne h.o hg (by decide)),hn,h.td.other hg (by decide) _ _,below_set h.below (by have:=R_ge h.nd (q:=gN) rfl;exact this) _ _,h.lo⟩,by rw [hL];exact h.km.set hg _⟩,z,set_heap_far hc (Ne.symm (blk_ch_ne hg hc))⟩
end
set_option maxRecDepth 100000 in
set_option maxHeartbeats 4000000 in
theorem offer_no (w0 : World) (f : FB) (g : Gram) (vN vT : Value) (s : FSt) (r : Nat) (W : World) (h : FC #[] w0 W f g vN vT s r) (hs : s.td = [] ∨ s.full = true) :
    Calls Try.prog 86 #[.pointer (some ⟨f.b,0,none⟩)] W fun e W' => e = .returned (.tuple #[]) ∧ W' = W:=by
  obtain ⟨A,c,rfl⟩:=h.td.slice
  have o6:=(blk_cell h.o 8).trans rfl
  have o5:=(blk_cell h.o 7).trans rfl
  obtain ⟨n,hn⟩ : ∃ n,n = s.td.length:=⟨_,rfl⟩
  obtain ⟨fu,hfu⟩ : ∃ fu,fu = s.full:=⟨_,rfl⟩
  rw [← hn] at o6
  rw [← hfu] at o5
  have hs' : n = 0 ∨ fu = true:=by rcases hs with hs | hs;exact .inl (by rw [hn,hs];rfl);exact .inr (hfu.trans hs)
  clear h hn hfu hs
  by_cases h0 : n = 0
  · subst h0
    go_enter Try.func86,Try.ntmps86
    go_wp2
    refine bodyPost_end (results_none rfl _ _ _) rfl ?_
    exact ⟨rfl,rfl⟩
  · rcases hs' with hs' | hs'
    · exact absurd hs' h0
    · subst hs'
      have n0 : (0 : Int) < (n : Int):=by omega
      have n1 : decide ((0 : Int) < (n : Int)) = true:=decide_eq_true n0
      go_enter Try.func86,Try.ntmps86
      go_wp2
      refine bodyPost_end (results_none rfl _ _ _) rfl ?_
      exact ⟨rfl,rfl⟩
set_option maxRecDepth 100000 in
set_option maxHeartbeats 8000000 in
theorem offer_yes (w0 : World) (f : FB) (g : Gram) (vN vT : Value) (s : FSt) (r : Nat) (x : Int) (l : List Int) (W : World) (h : FC #[] w0 W f g vN vT s r) (hs : s.td = x :: l) (hf : s.full = false) :
    Calls Try.prog 86 #[.pointer (some ⟨f.b,0,none⟩)] W fun e W' => e = .returned (.tuple #[]) ∧ ∃ vT',FC #[.int .i64 x] w0 W' f g vN vT' { s with td:=l } r ∧ KeepP W W':=by
  have hT:=h.td
  rw [hs] at hT
  obtain ⟨v',hcut,hS,hown⟩:=hT.tail
  obtain ⟨gT,oT,cT,hvT,hx⟩:=hT.head (i:=0) (by simp)
  subst hvT
  simp only [List.length_cons,Nat.add_zero,List.getElem_cons_zero] at hx hcut
  have H:=Aside0.mk h
  have HX:=Aside0.mk hx
  have HO : Aside0 (W.heap[f.b]? = some (.cells #[.slice f.A1 g.terms.length f.c1,.slice f.A2 g.names.length f.c2,.slice f.A3 g.rules.length f.c3,.pointer (some ⟨f.kb,0,none⟩),.int .i64 f.most,.map (some f.mb),vN,.bool false,.slice (some ⟨gT,oT,none⟩) (l.length + 1) cT,.chan (some f.ch)] 119 (0,0))):=⟨by have:=h.o;rw [hf] at this;exact this⟩
  have o8:=(blk_cell HO.out 8).trans rfl
  have o7:=(blk_cell HO.out 7).trans rfl
  have i2 : (0 : Int) < ((l.length : Int) + 1):=by omega
  have i3 : decide ((0 : Int) < ((l.length : Int) + 1)) = true:=decide_eq_true i2
  have HS:=Aside0.mk hS
  obtain ⟨Av,cv,hv'⟩:=hS.slice
  subst hv'
  clear h hs hf hT hS hown hx
  refine calls_of_wpN Try.func86 rfl ?_
  simp only [Try.ntmps86,List.size_toArray,List.length_cons,List.length_nil,Nat.reduceAdd,Nat.reduceSub,Array.replicate_succ,Array.replicate_zero,List.push_toArray,List.append_toArray,List.nil_append,List.cons_append]
  refine wpN_seq_k (fun K hK => ?_)
  go_wp2
  refine wpN_cond (t:=true) rfl ?_
  simp only [if_true]
  refine wpN_seq_n (fun K3 hK3 => ?_)
  clear o8 o7
  refine startN_ (n:=11) (S:=fun w' => Below W.heap.size W w') (ds:=[]) 10 (lb 11 0x0) (by kernel_rfl) rfl (by kernel_rfl) (below_drew1 (Below.refl _ _)) (fun hHeld => ?_)
  simp only [stillAt,stillO,List.setIfInBounds_toArray,List.set_cons_zero,List.set_cons_succ,Array.getD_eq_getD_getElem?,List.getElem?_toArray,List.getElem?_cons_zero,List.getElem?_cons_succ,Option.getD_some]
  refine pu_ ?_ ?_ 0 (some 15) (lb 11 0x1) ?_
  refine pu_ ?_ ?_ 1 (some 16) (lb 11 0x3) ?_
  refine pu_ ?_ ?_ 2 (some 17) (lb 11 0x7) ?_
  refine pu_ ?_ ?_ 4 (some 19) (lb 11 0x17) ?_
  refine pu_ ?_ ?_ 5 (some 20) (lb 11 0x37) ?_
  refine pu_ ?_ ?_ 6 (some 21) (lb 11 0x77) ?_
  refine ta_ ?_ ?_ 3 (some 18) (lb 11 0x7f) hHeld ?_ (y:=by rintro w' hS;have d8:=(blk_cell (blk_below HO.out hS) 8).trans rfl;have d9:=(blk_cell (blk_below HO.out hS) 9).trans rfl;have c0:=cell_at hS HX.out;go_simp;with_reducible rfl)
  refine ta_ ?_ ?_ 7 (some 22) (lb 11 0xff) hHeld ?_ (y:=by rintro w' hS;have d8:=(blk_cell (blk_below HO.out hS) 8).trans rfl;have d9:=(blk_cell (blk_below HO.out hS) 9).trans rfl;have c0:=cell_at hS HX.out;go_simp;with_reducible rfl)
  refine pu_ ?_ ?_ 8 (some 23) (lb 11 0x1ff) ?_
  refine ta_ ?_ ?_ 9 (some 24) (lb 11 0x3ff) hHeld ?_ (y:=by rintro w' hS;have d8:=(blk_cell (blk_below HO.out hS) 8).trans rfl;have d9:=(blk_cell (blk_below HO.out hS) 9).trans rfl;have c0:=cell_at hS HX.out;go_simp;with_reducible rfl)
  refine pu_ ?_ ?_ 10 none (lb 11 0x7ff) ?_
  refine done_ (by kernel_rfl) ?_
  simp only [EndQ]
  obtain ⟨z,hch0⟩:=H.out.ch
  have hch : W.drew.heap[f.ch]? = some (.chan 1 #[] false z r false):=heap_below hch0 hHeld
  refine inN_send (c:=f.ch) (cap:=1) (buf:=#[]) (s:=z) (r:=r) (tm:=false) (o:=?o1) (v:=?v1) (z':=?z1) (w₁:=?w1) (by simp only [List.getElem?_toArray,List.getElem?_cons_zero,List.getElem?_cons_succ];rfl) (by rfl) ?h1 ?c1 (by decide) ?_
  case h1 => (go_simp;first | rfl | (constructor;rfl;rfl))
  case c1 => exact hch
  simp only [Act.put,List.setIfInBounds_toArray,List.set_cons_zero,List.set_cons_succ]
  refine inN_nil ?_
  simp only [Exit.then]
  refine hK3 _ _ ?_
  refine wpN_of_wp ?_
  have H2:=Aside0.mk ((H.out.below_ hHeld).setC #[.int .i64 x] (z + 1) r)
  have HKP : Aside0 (KeepP W (W.drew.setChan f.ch 1 #[.int .i64 x] false (z + 1) r false)):=⟨(KeepP.below hHeld).trans (KeepP.chan ⟨z,hch⟩ _ _ _)⟩
  have HO2 : Aside0 ((W.drew.setChan f.ch 1 #[.int .i64 x] false (z + 1) r false).heap[f.b]? = some (.cells #[.slice f.A1 g.terms.length f.c1,.slice f.A2 g.names.length f.c2,.slice f.A3 g.rules.length f.c3,.pointer (some ⟨f.kb,0,none⟩),.int .i64 f.most,.map (some f.mb),vN,.bool false,.slice (some ⟨gT,oT,none⟩) (l.length + 1) cT,.chan (some f.ch)] 119 (0,0))):=⟨chan_far (blk_below HO.out hHeld) (Ne.symm (blk_ch_ne (blk_below HO.out hHeld) hch))⟩
  have HS2 : Aside0 (SLD (W.drew.setChan f.ch 1 #[.int .i64 x] false (z + 1) r false) w0.heap.size (.slice Av l.length cv) l):=⟨(HS.out.below hHeld).keep (fun q hq => by
    obtain ⟨⟨cs,hx⟩,_⟩:=(HS.out.below hHeld).own hq
    exact (chan_far hx (Ne.symm (blk_ch_ne hx hch))).trans hx.symm)⟩
  have d8:=(blk_cell HO2.out 8).trans rfl
  have f8:=blk_frozen HO2.out 8
  have H3:=Aside0.mk (H2.out.slide HS2.out)
  have HKP3:=Aside0.mk (HKP.out.trans (KeepP.set (W:=W.drew.setChan f.ch 1 #[.int .i64 x] false (z + 1) r false) HO2.out (by decide) 8 (.slice Av l.length cv)))
  clear hch0 hch hHeld
  rw [Array.push_empty]
  go_wp2
  refine bodyPost_end (results_none rfl _ _ _) rfl ?_
  exact ⟨rfl,_,H3.out,HKP3.out⟩
end Go.Proofs.Ytmkgcjhimajgiaa


set_option linter.unusedVariables false
set_option linter.unusedSimpArgs false
namespace Go.Proofs.Ytmkgcjhimajgiaa
open Go.RowKit Go.Proofs.YtmkgcjhimajgiaaW.PrintWords Go.Proofs.YtmkgcjhimajgiaaW.PrintLast Go.Conc

/-- Nodes up to p are done: the others wait,in their order;is it full? -/
structure StOk (most : Int) (p : Nat) (s : FSt) : Prop where
  le : p ≤ s.X.length
  td : s.td = (List.range' p (s.X.length - p)).map (fun n : Nat => (n : Int))
  full : s.full = decide (most < (s.X.length : Int))
theorem StOk.node {most : Int} {p : Nat} {s : FSt} (h : StOk most p s) (x : Lab) : StOk most p (nodeS most s x):=by
  unfold nodeS
  split
  · exact h
  · have hl:=h.le
    refine ⟨by simp;omega,?_,?_⟩
    · simp only [List.length_append,List.length_singleton]
      rw [show s.X.length + 1 - p = (s.X.length - p) + 1 by omega,List.range'_1_concat,List.map_append,h.td,show p + (s.X.length - p) = s.X.length by omega]
      rfl
    · simp only [List.length_append,List.length_singleton]
      rw [h.full,← Bool.decide_or,decide_eq_decide]
      omega
theorem StOk.first (most : Int) (x : Lab) : StOk most 0 (nodeS most ⟨[],[],false⟩ x):=by
  have e : nodeS most ⟨[],[],false⟩ x = ⟨[⟨x,none,0,0⟩],[0],decide (most ≤ 0)⟩:=by unfold nodeS;simp [FSt.L]
  rw [e]
  exact ⟨by simp,by simp,by simp only [List.length_singleton];rw [decide_eq_decide];omega⟩
/-- What is made goes on: old nodes stay. -/
structure Gr (most : Int) (s s' : FSt) : Prop where
  pre : s.X <+: s'.X
  ok : ∀ p,StOk most p s → StOk most p s'
theorem Gr.refl (most : Int) (s : FSt) : Gr most s s:=⟨List.prefix_refl _,fun _ h => h⟩
theorem Gr.trans {most : Int} {a b c : FSt} (h : Gr most a b) (i : Gr most b c) : Gr most a c:=⟨h.pre.trans i.pre,fun p x => i.ok p (h.ok p x)⟩
theorem Gr.node (most : Int) (s : FSt) (x : Lab) : Gr most s (nodeS most s x):=⟨by
  unfold nodeS
  split
  · exact List.prefix_refl _
  · exact List.prefix_append _ _,fun p h => h.node x⟩
theorem Gr.fold (most : Int) (l : List Lab) : ∀ s : FSt,Gr most s (l.foldl (nodeS most) s):=by
  induction l with
  | nil => intro s;exact Gr.refl _ _
  | cons x l ih => intro s;exact (Gr.node most s x).trans (ih _)
theorem Gr.split (most : Int) (g : Gram) (r d : Nat) (i j : Int) (s : FSt) (l : List Int) : Gr most s (splitSt most g r d i j s l):=Gr.fold most _ s
theorem Gr.whole (most : Int) (g : Gram) (wd : List Int) (r : Nat) (i j : Int) (s : FSt) : Gr most s (wholeSt most g wd r i j s):=by
  unfold wholeSt
  split
  · exact Gr.refl _ _
  · split
    · split
      · exact Gr.node _ _ _
      · exact Gr.refl _ _
    · exact Gr.split ..
theorem Gr.packs (most : Int) (g : Gram) (wd : List Int) (x : Lab) (l : List Nat) : ∀ s : FSt,Gr most s (packsSt most g wd x s l):=by
  induction l with
  | nil => intro s;exact Gr.refl _ _
  | cons r l ih =>
    intro s
    have e : packsSt most g wd x s (r :: l) = packsSt most g wd x (if leftR g r = x.sym then wholeSt most g wd r x.i x.j s else s) l:=rfl
    rw [e]
    refine Gr.trans ?_ (ih _)
    split
    · exact Gr.whole ..
    · exact Gr.refl _ _
/-- The state behind a node's packs. -/
noncomputable def packSt (most : Int) (g : Gram) (wd : List Int) (s : FSt) (x : Lab) : FSt :=
  if x.sym = -1 then splitSt most g x.rule.toNat x.dot.toNat x.i x.j s (pivF g wd x.rule.toNat x.dot.toNat x.i x.j) else packsSt most g wd x s (List.range g.rules.length)
theorem Gr.pack (most : Int) (g : Gram) (wd : List Int) (s : FSt) (x : Lab) : Gr most s (packSt most g wd s x):=by
  unfold packSt
  split
  · exact Gr.split ..
  · exact Gr.packs ..
theorem packSt_L (most : Int) (g : Gram) (wd : List Int) (s : FSt) (x : Lab) : (packsF g wd s.L x).2 = (packSt most g wd s x).L:=by
  unfold packsF packSt
  split
  · exact splitSt_L ..
  · exact packsSt_L ..
/-- Nodes done,their packs. -/
structure DoneF (g : Gram) (wd : List Int) (most : Int) (s : FSt) (P : List (List PackN)) : Prop where
  it : fiter g wd most P.length = (s.L,P)
  ok : StOk most P.length s
  lab : ∀ y ∈ s.L,LabOk g wd y
  nodup : s.L.Nodup
  many : P.length ≤ 4000
  wide : s.X.length ≤ 9000
theorem DoneF.next {g : Gram} {wd : List Int} {most : Int} {s : FSt} {P : List (List PackN)} (hg : goodF g = true) (hw : wd.length ≤ 40) (h : DoneF g wd most s P) (hm : most ≤ 4000) (hp : P.length < s.X.length) (hf : s.full = false) {x : Lab} (hx : s.L[P.length]? = some x) {s' : FSt} (hs' : s' = packSt most g wd { s with td:=s.td.drop 1 } x) {A : Option Addr} {n c : Nat} (hl : P.length < s'.X.length) :
    DoneF g wd most { s' with X:=s'.X.set P.length ⟨s'.X[P.length].lab,A,n,c⟩ } (P ++ [(packsF g wd s.L x).1]):=by
  have hfu:=h.ok.full
  rw [hf] at hfu
  have hle : (s.X.length : Int) ≤ most:=by have:=of_decide_eq_false hfu.symm;omega
  have hL0 : ({ s with td:=s.td.drop 1 } : FSt).L = s.L:=rfl
  have hLs : s'.L = (packsF g wd s.L x).2:=by rw [hs',← packSt_L,hL0]
  have hLset : ({ s' with X:=s'.X.set P.length ⟨s'.X[P.length].lab,A,n,c⟩ } : FSt).L = s'.L:=by
    simp only [FSt.L,List.map_set]
    have:=@List.set_getElem_self _ (s'.X.map ND.lab) P.length (by simpa using hl)
    rwa [List.getElem_map] at this
  have hok1 : StOk most (P.length + 1) { s with td:=s.td.drop 1 }:=by
    refine ⟨hp,?_,h.ok.full⟩
    show s.td.drop 1 = (List.range' (P.length + 1) (s.X.length - (P.length + 1))).map _
    rw [h.ok.td,show s.X.length - P.length = (s.X.length - (P.length + 1)) + 1 by omega,List.range'_succ]
    rfl
  have hgr:=Gr.pack most g wd { s with td:=s.td.drop 1 } x
  rw [← hs'] at hgr
  have hok2:=hgr.ok _ hok1
  have hxm : x ∈ s.L:=List.mem_of_getElem? hx
  have hgrow:=packsF_grow hg hw (h.lab x hxm) s.L
  have hsl : s.L.length = s.X.length:=FSt.L_len s
  have hsl' : s'.L.length = s'.X.length:=FSt.L_len s'
  refine ⟨?_,?_,?_,?_,?_,?_⟩
  · rw [List.length_append,List.length_singleton]
    show fstep g wd most (fiter g wd most P.length) = _
    rw [h.it]
    unfold fstep
    rw [if_pos ⟨by rw [hsl];exact hp,by rw [hsl];exact hle⟩,hLset,hLs]
    have e : s.L.getD P.length default = x:=by rw [List.getD_eq_getElem?_getD,hx];rfl
    simp only [e]
  · rw [List.length_append,List.length_singleton]
    exact ⟨by simpa using hok2.le,by simpa using hok2.td,by simpa using hok2.full⟩
  · rw [hLset,hLs];exact hgrow.all h.lab
  · rw [hLset,hLs];exact hgrow.nodup h.nodup
  · simp;omega
  · have:=hgrow.len
    rw [← hLs,hsl,hsl'] at this
    simp only [List.length_set]
    omega
end Go.Proofs.Ytmkgcjhimajgiaa


set_option linter.unusedVariables false
set_option linter.unusedSimpArgs false
namespace Go.Proofs.Ytmkgcjhimajgiaa
open Go.RowKit Go.Proofs.YtmkgcjhimajgiaaW.PrintWords Go.Proofs.YtmkgcjhimajgiaaW.PrintLast Go.Conc

theorem symV_in {g : Gram} {w : List Int} {s i j : Int} (h : symV g w s i j = true) : 0 ≤ i ∧ 0 ≤ j ∧ i ≤ w.length ∧ j ≤ w.length:=by
  by_cases hb : (decide (0 ≤ i) && decide (0 ≤ j) && decide (i ≤ w.length) && decide (j ≤ w.length)) = true
  · simpa [and_assoc] using hb
  · rw [symV_out (by simpa using hb)] at h
    cases h
theorem LabOk.bounds {g : Gram} {w : List Int} (hw : w.length ≤ 40) {x : Lab} (h : LabOk g w x) : (0 ≤ x.i ∧ x.i ≤ 40) ∧ (0 ≤ x.j ∧ x.j ≤ 40):=by
  rcases h.ok with ⟨_,_,h⟩ | ⟨r,d,_,_,_,_,_,_,h⟩
  · have:=symV_in h;omega
  · have:=(partV_in h).1;omega
theorem packs_c (w0 : World) (f : FB) (g : Gram) (wd : List Int) (k : CB) (vN vT : Value) (s : FSt) (x : Lab) (A : Option Addr) (n c : Nat) (W : World) (hw : FW w0 f g wd k) (h : FM w0 W f g vN vT s) (hx : LabOk g wd x) (hl : s.X.length ≤ 20000) (htd : s.td.length ≤ 20000) :
    Calls Try.prog 87 #[.pointer (some ⟨f.b,0,none⟩),.agg #[.int .i64 x.sym,.int .i64 x.rule,.int .i64 x.dot,.int .i64 x.i,.int .i64 x.j,.slice A n c]] W fun e W' => SplitEnd w0 W f g vN vT (packsF g wd s.L x).1 (packSt f.most g wd s x) e W':=by
  obtain ⟨b1,b2⟩:=hx.bounds hw.w40
  by_cases hs : x.sym = -1
  · rcases hx.ok with ⟨_,_,h3⟩ | ⟨r,d,h1,h2,h3,h4,h5,h6,h7⟩
    · rw [symV_iff] at h3
      have:=ch_in hw.gd h3.2.2
      omega
    · obtain ⟨xs,xr,xd,xi,xj⟩:=x
      simp only at h1 h2 h3 h7 b1 b2
      subst h1 h2 h3
      have e1 : packsF g wd s.L ⟨-1,(r : Int),(d : Int),xi,xj⟩ = splitF g wd s.L r d xi xj:=by unfold packsF;simp
      have e2 : packSt f.most g wd s ⟨-1,(r : Int),(d : Int),xi,xj⟩ = splitSt f.most g r d xi xj s (pivF g wd r d xi xj):=by unfold packSt;simp
      rw [e1,e2]
      exact packs1_c w0 f g wd k vN vT s r d xi xj A n c W hw h h4 h5 (by omega) b1 b2 (by omega) (by omega)
  · have e2 : packSt f.most g wd s x = packsSt f.most g wd x s (List.range g.rules.length):=by unfold packSt;rw [if_neg hs]
    rw [e2]
    exact packs2_c w0 f g wd k vN vT s x A n c W hw h hs b1 b2 hl htd
/-- Nodes done,in memory: their packs. -/
structure AI (w0 W : World) (f : FB) (g : Gram) (wd : List Int) (vN vT : Value) (s : FSt) (P : List (List PackN)) : Prop where
  fc : FC #[] w0 W f g vN vT s P.length
  pk : ∀ i (h : i < P.length) (hx : i < s.X.length),kPk.R 82 W w0.heap.size (fun _ => True) (.slice s.X[i].A s.X[i].n s.X[i].c) P[i]
  done : DoneF g wd f.most s P
def AllI (w0 : World) (f : FB) (g : Gram) (wd : List Int) (a : Act) (W : World) : Prop :=
  ∃ (u1 u2 u3 u4 u5 u6 u7 u8 u9 u10 u11 u12 u13 u14 u15 u16 u17 u18 u19 u20 u21 u22 u23 u24 u25 u26 u27 u28 u29 u30 u31 u32 : Value) (vN vT : Value) (s : FSt) (P : List (List PackN)),a = { tmps:=(List.toArray (.pointer (some ⟨f.b,0,none⟩) :: u1 :: u2 :: u3 :: u4 :: u5 :: u6 :: u7 :: u8 :: u9 :: u10 :: u11 :: u12 :: u13 :: u14 :: u15 :: u16 :: u17 :: u18 :: u19 :: u20 :: u21 :: u22 :: u23 :: u24 :: u25 :: u26 :: u27 :: u28 :: u29 :: u30 :: u31 :: u32 :: [])),defers:=[] } ∧ AI w0 W f g wd vN vT s P
theorem AI.rcvd {w0 W : World} {f : FB} {g : Gram} {wd : List Int} {vN vT : Value} {s : FSt} {P : List (List PackN)} (h : AI w0 W f g wd vN vT s P) : rcvd W f.ch = P.length:=by
  obtain ⟨z,hc⟩:=h.fc.ch
  unfold Go.Proofs.Ytmkgcjhimajgiaa.rcvd
  rw [hc]
def AllEnd (w0 W' : World) (f : FB) (g : Gram) (wd : List Int) : Prop:=∃ vN vT s P,AI w0 W' f g wd vN vT s P ∧ fend g wd f.most = (s.L,P) ∧ (s.full = false → P.length = s.X.length)
theorem AI.next {w0 W W2 W3 : World} {f : FB} {g : Gram} {wd : List Int} {k : CB} {vN vT vT2 : Value} {s : FSt} {P : List (List PackN)} {x : Lab} {l : List Int} {AP : Option Addr} {nP cP b0 gN cN : Nat} (hw : FW w0 f g wd k) (h : AI w0 W f g wd vN vT s P) (hm : f.most ≤ 4000) (hp : P.length < s.X.length) (hf : s.full = false) (hx : s.L[P.length]? = some x) (hl : s.td.drop 1 = l) (hk : KeepP W W2) (hb0 : W2.heap.size ≤ b0)
    (h2 : FC #[] w0 W2 f g vN vT2 { s with td:=l } (P.length + 1)) {vT3 : Value} {s3 : FSt} (hs3 : s3 = packSt f.most g wd { s with td:=l } x) (hF : FM w0 W3 f g (.slice (some ⟨gN,0,none⟩) s3.X.length cN) vT3 s3) (hG : GoF f W2 W3 vN vT2 (.slice (some ⟨gN,0,none⟩) s3.X.length cN) vT3) (hP : kPk.R 82 W3 b0 (fun _ => True) (.slice AP nP cP) (packsF g wd s.L x).1) (hl3 : P.length < s3.X.length) :
    AI w0 (W3.setCell ⟨gN,P.length * 6 + 5,none⟩ (.slice AP nP cP)) f g wd (.slice (some ⟨gN,0,none⟩) s3.X.length cN) vT3 { s3 with X:=s3.X.set P.length ⟨s3.X[P.length].lab,AP,nP,cP⟩ } (P ++ [(packsF g wd s.L x).1]):=by
  subst hl
  have hC3:=h2.go hF hG
  have hpre:=(Gr.pack f.most g wd { s with td:=s.td.drop 1 } x).pre
  rw [← hs3] at hpre
  have hgN:=own_cells hF.nd (q:=gN) rfl
  obtain ⟨cells,hgN⟩:=hgN
  have hk4 : KeepP W3 (W3.setCell ⟨gN,P.length * 6 + 5,none⟩ (.slice AP nP cP)):=KeepP.set hgN (by decide) _ _
  have hk5 : KeepP W (W3.setCell ⟨gN,P.length * 6 + 5,none⟩ (.slice AP nP cP)):=(hk.trans (GoF.packs h2.toFM hG)).trans hk4
  refine ⟨?_,fun i hi hxi => ?_,h.done.next hw.gd hw.w40 hm hp hf hx hs3 hl3⟩
  · rw [List.length_append,List.length_singleton]
    exact hC3.put hl3 AP nP cP
  · rw [List.length_append,List.length_singleton] at hi
    simp only [List.length_set] at hxi
    by_cases hip : i < P.length
    · have hxs : i < s.X.length:=by omega
      have e1 : (s3.X.set P.length ⟨s3.X[P.length].lab,AP,nP,cP⟩)[i]'(by rw [List.length_set];exact hxi) = s.X[i]'hxs:=by
        rw [List.getElem_set_ne (by omega)]
        exact (List.IsPrefix.getElem hpre hxs).symm
      simp only [e1]
      rw [List.getElem_append_left hip]
      exact hk5.row (h.pk i hip hxs)
    · obtain rfl : i = P.length:=by omega
      have e1 : (s3.X.set P.length ⟨s3.X[P.length].lab,AP,nP,cP⟩)[P.length]'(by rw [List.length_set];exact hxi) = ⟨s3.X[P.length].lab,AP,nP,cP⟩:=List.getElem_set_self ..
      simp only [e1]
      rw [List.getElem_append_right (Nat.le_refl _)]
      simp only [Nat.sub_self,List.getElem_cons_zero]
      refine hk4.row (Kd.R_lower hP ?_)
      exact Nat.le_trans h2.below.size hb0
set_option maxRecDepth 100000 in
set_option maxHeartbeats 8000000 in
theorem all_c (w0 : World) (f : FB) (g : Gram) (wd : List Int) (k : CB) (vN vT : Value) (s : FSt) (W : World) (hw : FW w0 f g wd k) (h : AI w0 W f g wd vN vT s []) (hm : f.most ≤ 4000) :
    Calls Try.prog 60 #[.pointer (some ⟨f.b,0,none⟩)] W fun e W' => e = .returned (.tuple #[]) ∧ AllEnd w0 W' f g wd:=by
  have H0:=Aside0.mk h
  have HW:=Aside0.mk hw
  have HM:=Lib.hid hm
  clear h hw hm
  refine calls_of_wpN Try.func60 rfl ?_
  simp only [Try.ntmps60,List.size_toArray,List.length_cons,List.length_nil,Nat.reduceAdd,Nat.reduceSub,Array.replicate_succ,Array.replicate_zero,List.push_toArray,List.append_toArray,List.nil_append,List.cons_append]
  refine wpN_block ?_
  refine wpN_loop (AllI w0 f g wd) (fun a W => 4001 - rcvd W f.ch) ?_ ?_
  · exact ⟨_,_,_,_,_,_,_,_,_,_,_,_,_,_,_,_,_,_,_,_,_,_,_,_,_,_,_,_,_,_,_,_,_,_,_,_,rfl,H0.out⟩
  clear H0
  rintro _ W ⟨u1,u2,u3,u4,u5,u6,u7,u8,u9,u10,u11,u12,u13,u14,u15,u16,u17,u18,u19,u20,u21,u22,u23,u24,u25,u26,u27,u28,u29,u30,u31,u32,vN,vT,s,P,rfl,hs⟩ K hK
  have HA:=Aside0.mk hs
  have HRC:=Lib.hid hs.rcvd
  clear hs
  refine wpN_block ?_
  refine wpN_seq_k (fun K1 hK1 => ?_)
  by_cases hst : P.length < s.X.length ∧ s.full = false
  · obtain ⟨hp,hfu⟩:=hst
    have htd : s.td = ((P.length : Nat) : Int) :: s.td.drop 1:=by
      have:=HA.out.done.ok.td
      rw [show s.X.length - P.length = (s.X.length - (P.length + 1)) + 1 by omega,List.range'_succ,List.map_cons] at this
      rw [this];rfl
    obtain ⟨l,hl⟩ : ∃ l,s.td.drop 1 = l:=⟨_,rfl⟩
    rw [hl] at htd
    obtain ⟨p,hpp⟩ : ∃ p,p = P.length:=⟨_,rfl⟩
    rw [← hpp] at hp htd
    have HP:=Lib.hid hpp
    have HPX:=Aside0.mk hp
    have HL:=Lib.hid hl
    have HFU:=Lib.hid hfu
    have HOF:=Aside0.mk (offer_yes w0 f g vN vT s P.length ((p : Nat) : Int) l W HA.out.fc htd hfu)
    obtain ⟨x,hx⟩ : ∃ x,s.L[p]? = some x:=⟨s.L[p]'(by rw [FSt.L_len];exact hp),List.getElem?_eq_getElem _⟩
    have HX:=Lib.hid hx
    have hxm : x ∈ s.L:=List.mem_of_getElem? hx
    have HLX:=Aside0.mk (HA.out.done.lab x hxm)
    have HXL : Aside0 ((s.X[p]'hp).lab = x):=⟨by
      have : s.L[p]? = some (s.X[p]'hp).lab:=by simp [FSt.L,List.getElem?_eq_getElem hp]
      rw [this] at hx
      injection hx⟩
    clear hpp hl hfu htd hx hxm
    go_wp2_with (go_at_call 86;go_loud (refine HOF.out.mono ?_;rintro e W1 ⟨rfl,vT1,hc1,hk1⟩))
    have H1:=Aside0.mk hc1
    have HK1:=Aside0.mk hk1
    clear hc1 hk1 HOF
    have o9:=(blk_cell H1.out.o 9).trans rfl
    refine wpN_seq_k (fun K2 hK2 => ?_)
    go_wp2
    refine wpN_seq_n (fun K2 hK2 => ?_)
    refine wpN_region ?_
    show inN _ _ [0,1,2] _ _ _
    obtain ⟨z,hch⟩:=H1.out.ch
    refine inN_take (c:=f.ch) (cap:=1) (buf:=#[.int .i64 (p : Int)]) (s:=z) (r:=P.length) (tm:=false) (closed:=false) (o:=?o1) (z:=?z1) (w₁:=?w1) (by simp only [List.getElem?_toArray,List.getElem?_cons_zero,List.getElem?_cons_succ];rfl) (by rfl) ?h1 ?c1 (by simp) ?_
    case h1 => (go_simp;first | rfl | (constructor;rfl;rfl))
    case c1 => exact hch
    simp only [Act.put,List.setIfInBounds_toArray,List.set_cons_zero,List.set_cons_succ]
    refine inN_value (o:=?o2) (v:=?v2) (w':=?w2) (by simp only [List.getElem?_toArray,List.getElem?_cons_zero,List.getElem?_cons_succ];rfl) (by rfl) ?h2 ?_
    case h2 => (go_simp;first | rfl | (constructor;rfl;rfl))
    simp only [Act.put,List.setIfInBounds_toArray,List.set_cons_zero,List.set_cons_succ]
    refine inN_value (o:=?o3) (v:=?v3) (w':=?w3) (by simp only [List.getElem?_toArray,List.getElem?_cons_zero,List.getElem?_cons_succ];rfl) (by rfl) ?h3 ?_
    case h3 => (go_simp;first | rfl | (constructor;rfl;rfl))
    simp only [Act.put,List.setIfInBounds_toArray,List.set_cons_zero,List.set_cons_succ]
    refine inN_nil ?_
    simp only [Exit.inBlock,Exit.then]
    refine hK2 _ _ ?_
    refine wpN_of_wp ?_
    clear hK2 K2
    rw [show #[Value.int IntKind.i64 (p : Int)].getD 0 undef = .int .i64 (p : Int) from rfl]
    simp only [goInt]
    have H2:=Aside0.mk (H1.out.setC #[] z (P.length + 1))
    have HK2:=Aside0.mk (HK1.out.trans (KeepP.chan ⟨z,hch⟩ #[] z (P.length + 1)))
    obtain ⟨W2,hW2⟩ : ∃ W2,W2 = W1.setChan f.ch 1 #[] false z (P.length + 1) false:=⟨_,rfl⟩
    rw [← hW2]
    rw [← hW2] at H2 HK2
    clear hch hW2 o9 H1 HK1
    obtain ⟨gN,cN,hvN,-⟩:=Kd.R_form H2.out.nd (by show 0 < s.X.length;omega)
    subst hvN
    obtain ⟨ad,ead,e0,e1,e2,e3,e4,e5⟩:=at_nd (Kd.R_reads' H2.out.nd).2.2 p HPX.out
    cases ead
    simp only at e0 e1 e2 e3 e4 e5
    rw [add0_] at e0 e1 e2 e3 e4 e5
    simp only at e1 e2 e3 e4 e5
    obtain ⟨y,hy⟩ : ∃ y,y = s.X[p]'hp:=⟨_,rfl⟩
    rw [← hy] at e0 e1 e2 e3 e4 e5 HXL
    obtain ⟨yl,yA,yn,yc⟩:=y
    have hyl : yl = x:=HXL.out
    subst hyl
    have HQ:=Aside0.mk (packs_c w0 f g wd k (.slice (some ⟨gN,0,none⟩) s.X.length cN) vT1 { s with td:=l } yl yA yn yc W2 HW.out H2.out.toFM HLX.out (by have:=HA.out.done.wide;show s.X.length ≤ _;omega) (by
      show l.length ≤ _
      have h1:=HA.out.done.ok.td
      have h2 : s.td.length ≤ 9000:=by rw [h1];simp;have:=HA.out.done.wide;omega
      rw [← HL.out];simp;omega))
    have o6:=(blk_cell H2.out.o 6).trans rfl
    have i1 : (0 : Int) ≤ (p : Int):=by omega
    have i2 : (p : Int) < (s.X.length : Int):=by omega
    clear hy hp
    go_wp2_with (go_at_call 87;go_loud (refine HQ.out.mono ?_;rintro e W3 ⟨vP,vN3,vT3,b0,rfl,hb0,hP3,hF3,hG3⟩;obtain ⟨AP,cP,rfl⟩:=Kd.R_slice hP3;have HP3:=Aside0.mk hP3;have HB0:=Aside0.mk hb0;have hlX : p < (packSt f.most g wd { s with td:=l } yl).X.length:=Nat.lt_of_lt_of_le HPX.out (Gr.pack f.most g wd { s with td:=l } yl).pre.length_le;obtain ⟨gN3,cN3,hv3,-⟩:=Kd.R_form hF3.nd (Nat.lt_of_le_of_lt (Nat.zero_le _) hlX);subst hv3;obtain ⟨s3,hs3⟩ : ∃ s3,s3 = packSt f.most g wd { s with td:=l } yl:=⟨_,rfl⟩;rw [← hs3] at hF3 hG3 hlX;have HF3:=Aside0.mk hF3;have HG3:=Aside0.mk hG3;have HS3:=Lib.hid hs3;have HLX3:=Aside0.mk hlX;obtain ⟨ad3,ead3,-,-,-,-,-,g5⟩:=at_nd (Kd.R_reads' hF3.nd).2.2 p hlX;cases ead3;rw [add0_] at g5;simp only at g5;have g6 : ∃ u,W3.cell? ⟨gN3,p * 6 + 5,none⟩ = some u:=⟨_,g5⟩;clear g5;obtain ⟨u9,g6⟩:=g6;have fz:=nd_free hF3.nd (p * 6 + 5);have q6:=(blk_cell hF3.o 6).trans rfl;have i3 : (p : Int) < (s3.X.length : Int):=(by omega);clear hb0 hP3 hF3 hG3 hs3 hlX o6 e0 e1 e2 e3 e4 e5 i2))
    have hpp:=HP.out
    subst hpp
    have HN:=Aside0.mk (HA.out.next HW.out HM.out HPX.out HFU.out HX.out HL.out HK2.out HB0.out H2.out HS3.out HF3.out HG3.out HP3.out HLX3.out)
    have HR2:=Aside0.mk HN.out.rcvd
    refine ⟨⟨_,_,_,_,_,_,_,_,_,_,_,_,_,_,_,_,_,_,_,_,_,_,_,_,_,_,_,_,_,_,_,_,_,_,_,_,rfl,HN.out⟩,?_⟩
    rw [HR2.out,HRC.out,List.length_append,List.length_singleton]
    have:=HA.out.done.many
    omega
  · have hend : s.td = [] ∨ s.full = true:=by
      have h1:=HA.out.done.ok
      rcases Nat.lt_or_ge P.length s.X.length with h | h
      · exact .inr (by cases hf : s.full;exact absurd ⟨h,hf⟩ hst;rfl)
      · have:=h1.td
        rw [show s.X.length - P.length = 0 by omega] at this
        exact .inl (by simpa using this)
    have HEN : Aside0 (AllEnd w0 W f g wd):=⟨⟨vN,vT,s,P,HA.out,fend_of HA.out.done.it (by have:=HA.out.done.many;omega) (by
      have h1:=HA.out.done.ok
      have h2 : s.L.length = s.X.length:=FSt.L_len s
      simp only [h2]
      rintro ⟨h3,h4⟩
      refine hst ⟨h3,?_⟩
      rw [h1.full,decide_eq_false_iff_not]
      omega),fun hf => by
      have h1:=HA.out.done.ok.le
      by_cases h : P.length < s.X.length
      · exact absurd ⟨h,hf⟩ hst
      · omega⟩⟩
    have HOF:=Aside0.mk (offer_no w0 f g vN vT s P.length W HA.out.fc hend)
    clear hst hend
    go_wp2_with (go_at_call 86;go_loud (refine HOF.out.mono ?_;rintro e W1 ⟨rfl,rfl⟩))
    have o9:=(blk_cell HA.out.fc.o 9).trans rfl
    refine wpN_seq_k (fun K2 hK2 => ?_)
    go_wp2
    refine wpN_seq_n (fun K2 hK2 => ?_)
    refine wpN_region ?_
    show inN _ _ [0,1,2] _ _ _
    obtain ⟨z,hch⟩:=HA.out.fc.ch
    refine inN_default (c:=f.ch) (cap:=1) (s:=z) (r:=P.length) (tm:=false) (o:=?o4) (z:=?z4) (w₁:=?w4) (by simp only [List.getElem?_toArray,List.getElem?_cons_zero,List.getElem?_cons_succ];rfl) (by rfl) ?h4 ?c4 ?_
    case h4 => (go_simp;first | rfl | (constructor;rfl;rfl))
    case c4 => exact hch
    simp only [Act.put,List.setIfInBounds_toArray,List.set_cons_zero,List.set_cons_succ]
    refine inN_value (o:=?o5) (v:=?v5) (w':=?w5) (by simp only [List.getElem?_toArray,List.getElem?_cons_zero,List.getElem?_cons_succ];rfl) (by rfl) ?h5 ?_
    case h5 => (go_simp;first | rfl | (constructor;rfl;rfl))
    simp only [Act.put,List.setIfInBounds_toArray,List.set_cons_zero,List.set_cons_succ]
    refine inN_value (o:=?o6) (v:=?v6) (w':=?w6) (by simp only [List.getElem?_toArray,List.getElem?_cons_zero,List.getElem?_cons_succ];rfl) (by rfl) ?h6 ?_
    case h6 => (go_simp;first | rfl | (constructor;rfl;rfl))
    simp only [Act.put,List.setIfInBounds_toArray,List.set_cons_zero,List.set_cons_succ]
    refine inN_nil ?_
    simp only [Exit.inBlock,Exit.then]
    refine hK2 _ _ ?_
    refine wpN_of_wp ?_
    clear hch o9 hK2 K2
    go_wp2
    refine bodyPost_ret (results_none rfl _ _ _) rfl ?_
    exact ⟨rfl,HEN.out⟩
end Go.Proofs.Ytmkgcjhimajgiaa


set_option linter.unusedVariables false
set_option linter.unusedSimpArgs false
namespace Go.Proofs.Ytmkgcjhimajgiaa
open Go.RowKit Go.Proofs.YtmkgcjhimajgiaaW.PrintWords Go.Proofs.YtmkgcjhimajgiaaW.PrintLast Go.Conc

/-- A forest's node: its label,its packs. -/
structure Nod where
  lab : Lab
  packs : List PackN
deriving DecidableEq,Inhabited
abbrev Forest:=List Nod
def kNode : Kd Nod:=Kd.iso (Kd.pair kInt (Kd.pair kInt (Kd.pair kInt (Kd.pair kInt (Kd.pair kInt (Kd.slice 82 kPk)))))) (fun x : Nod => (x.lab.sym,x.lab.rule,x.lab.dot,x.lab.i,x.lab.j,x.packs))
theorem K_node {w : World} {x : Nod} {cs : List Value} (h : kNode.K w x cs) : ∃ A c,cs = [.int .i64 x.lab.sym,.int .i64 x.lab.rule,.int .i64 x.lab.dot,.int .i64 x.lab.i,.int .i64 x.lab.j,.slice A x.packs.length c] ∧ x.packs.length ≤ c ∧ kPk.C w A x.packs.length x.packs:=by
  obtain ⟨_,_,rfl,rfl,⟨_,_,rfl,rfl,⟨_,_,rfl,rfl,⟨_,_,rfl,rfl,⟨_,_,rfl,rfl,⟨A,c,rfl,h1,h2⟩⟩⟩⟩⟩⟩:=h
  exact ⟨A,c,rfl,h1,h2⟩
theorem K_node_of {w : World} {x : Nod} {A : Option Addr} {c : Nat} (h1 : x.packs.length ≤ c) (h2 : kPk.C w A x.packs.length x.packs) : kNode.K w x [.int .i64 x.lab.sym,.int .i64 x.lab.rule,.int .i64 x.lab.dot,.int .i64 x.lab.i,.int .i64 x.lab.j,.slice A x.packs.length c] :=
  ⟨[.int .i64 x.lab.sym],[.int .i64 x.lab.rule,.int .i64 x.lab.dot,.int .i64 x.lab.i,.int .i64 x.lab.j,.slice A x.packs.length c],rfl,rfl,⟨[.int .i64 x.lab.rule],[.int .i64 x.lab.dot,.int .i64 x.lab.i,.int .i64 x.lab.j,.slice A x.packs.length c],rfl,rfl,⟨[.int .i64 x.lab.dot],[.int .i64 x.lab.i,.int .i64 x.lab.j,.slice A x.packs.length c],rfl,rfl,⟨[.int .i64 x.lab.i],[.int .i64 x.lab.j,.slice A x.packs.length c],rfl,rfl,⟨[.int .i64 x.lab.j],[.slice A x.packs.length c],rfl,rfl,⟨A,c,rfl,h1,h2⟩⟩⟩⟩⟩⟩
theorem at_node {w : World} {A : Option Addr} {n : Nat} {xs : List Nod} (h : kNode.C w A n xs) (i : Nat) (hi : i < xs.length) :
    ∃ ad Ap cp,A = some ad ∧ w.cell? (ad.add (i * 6)) = some (.int .i64 xs[i].lab.sym) ∧ w.cell? ⟨(ad.add (i * 6)).block,(ad.add (i * 6)).off + 1,none⟩ = some (.int .i64 xs[i].lab.rule) ∧ w.cell? ⟨(ad.add (i * 6)).block,(ad.add (i * 6)).off + 2,none⟩ = some (.int .i64 xs[i].lab.dot) ∧ w.cell? ⟨(ad.add (i * 6)).block,(ad.add (i * 6)).off + 3,none⟩ = some (.int .i64 xs[i].lab.i) ∧ w.cell? ⟨(ad.add (i * 6)).block,(ad.add (i * 6)).off + 4,none⟩ = some (.int .i64 xs[i].lab.j) ∧ w.cell? ⟨(ad.add (i * 6)).block,(ad.add (i * 6)).off + 5,none⟩ = some (.slice Ap xs[i].packs.length cp) ∧ xs[i].packs.length ≤ cp ∧ kPk.C w Ap xs[i].packs.length xs[i].packs:=by
  obtain ⟨ad,c,e,_,hK,hc0⟩:=C_at h i hi
  obtain ⟨Ap,cp,rfl,h1,h2⟩:=K_node hK
  have hc : ∀ j u,_ → w.cell? (ad.add (i * 6 + j)) = some u:=hc0
  exact ⟨ad,Ap,cp,e,hc 0 _ rfl,by rw [← add_field _ _ 1 (by omega)];exact hc 1 _ rfl,by rw [← add_field _ _ 2 (by omega)];exact hc 2 _ rfl,by rw [← add_field _ _ 3 (by omega)];exact hc 3 _ rfl,by rw [← add_field _ _ 4 (by omega)];exact hc 4 _ rfl,by rw [← add_field _ _ 5 (by omega)];exact hc 5 _ rfl,h1,h2⟩
/-- The forest of nodes and packs. -/
def zipF (s : FS) : Forest:=List.zipWith Nod.mk s.1 s.2
theorem node_of {W : World} {base : Nat} {ok : Nat → Prop} {A : Option Addr} {n c : Nat} {X : List ND} {P : List (List PackN)} (hnd : kND.R 66 W base ok (.slice A n c) X) (hpk : ∀ i (h : i < P.length) (hx : i < X.length),kPk.R 82 W base (fun _ => True) (.slice X[i].A X[i].n X[i].c) P[i]) (hl : P.length = X.length) :
    n = (zipF (X.map ND.lab,P)).length ∧ n ≤ c ∧ kNode.C W A n (zipF (X.map ND.lab,P)):=by
  obtain ⟨A',c',e,hcap,hC⟩:=Kd.R_reads hnd
  injection e with e1 e2 e3
  subst e1 e2 e3
  have hzl : (zipF (X.map ND.lab,P)).length = X.length:=by simp [zipF,hl]
  obtain ⟨h1,h2,h3⟩:=hC
  refine ⟨hzl.symm,hcap,hzl,h2,fun hn => ?_⟩
  obtain ⟨ad,ead,hc⟩:=h3 hn
  refine ⟨ad,ead,fun j p hp => ?_⟩
  have hj : j < X.length:=by have:=(List.getElem?_eq_some_iff.1 hp).1;omega
  obtain ⟨cs,hcl,hK,hcells⟩:=hc j X[j] (List.getElem?_eq_getElem hj)
  refine ⟨cs,hcl,?_,hcells⟩
  obtain rfl:=K_nd hK
  have hpe : p = ⟨X[j].lab,P[j]'(by omega)⟩:=by
    rw [List.getElem?_eq_getElem (by omega)] at hp
    injection hp with hp
    rw [← hp]
    simp [zipF]
  subst hpe
  have hR:=hpk j (by omega) hj
  obtain ⟨Ap,cp,e,h4,h5⟩:=Kd.R_reads hR
  injection e with e1 e2 e3
  have:=K_node_of (w:=W) (x:=⟨X[j].lab,P[j]'(by omega)⟩) (A:=Ap) (c:=cp) h4 h5
  unfold cellsN
  rw [e1,e2,e3]
  exact this
theorem first_done {g : Gram} {wd : List Int} (most : Int) (h : symV g wd g.terms.length 0 wd.length = true) : DoneF g wd most (nodeS most ⟨[],[],false⟩ (symLab g.terms.length 0 wd.length)) []:=by
  have e : nodeS most ⟨[],[],false⟩ (symLab g.terms.length 0 wd.length) = ⟨[⟨symLab g.terms.length 0 wd.length,none,0,0⟩],[0],decide (most ≤ 0)⟩:=by unfold nodeS;simp [FSt.L]
  refine ⟨?_,StOk.first _ _,?_,?_,by simp,?_⟩
  · rw [e];rfl
  · rw [e];intro y hy;rw [List.mem_singleton.1 hy];exact .sym h
  · rw [e];simp [FSt.L]
  · rw [e];simp
/-- Why there is no forest;0: there is one. -/
noncomputable def forE (g : Gram) (wd : List Int) (most : Int) : Int :=
  if goodF g = false then 16 else if 40 < wd.length then 14 else if symV g wd g.terms.length 0 wd.length = false then 19
  else if min most 4000 < ((fend g wd (min most 4000)).1.length : Int) then 15 else 0
noncomputable def forF (g : Gram) (wd : List Int) (most : Int) : Forest:=if forE g wd most = 0 then zipF (fend g wd (min most 4000)) else []
def ForEnd (F : Forest) (x : Int) (e : Ending) (w' : World) : Prop:=∃ A c,e = .returned (.tuple #[.agg #[.slice A F.length c],.int .i64 x]) ∧ F.length ≤ c ∧ kNode.C w' A F.length F
theorem ForEnd.none {x : Int} {w' : World} : ForEnd [] x (.returned (.tuple #[.agg #[.slice none 0 0],.int .i64 x])) w':=⟨_,_,rfl,Nat.le_refl _,⟨rfl,by decide,fun h => absurd h (by decide)⟩⟩
theorem results_forest {f : Func} {tmps : Array Value} {W : World} {q n c : Nat} {A : Option Addr} {x : Int} (hf : f.results = #[.cell 6 63,.tmp 7]) (t6 : tmps.getD 6 undef = .pointer (some ⟨q,0,none⟩)) (t7 : tmps.getD 7 undef = .int .i64 x)
    (h : W.heap[q]? = some (.cells #[.slice A n c] 63 (0,0))) :
    (results f tmps).run Try.prog W = .ok (.tuple #[.agg #[.slice A n c],.int .i64 x]) W:=by
  have d1:=blk_cell h 0
  simp only [List.getElem?_toArray,List.getElem?_cons_zero,List.getElem?_cons_succ] at d1
  simp only [Array.getD_eq_getD_getElem?] at t6 t7
  simp [results,hf,go_sem,d1,t6,t7]
set_option maxRecDepth 100000 in
set_option maxHeartbeats 4000000 in
theorem fo_err (g : Gram) (A1 A2 A3 : Option Addr) (c1 c2 c3 : Nat) (B : Option Addr) (d : Nat) (l : List Int) (most x : Int) (w : World) (hx : x ≠ 0)
    (hC : ∀ W : World,Below w.heap.size w W → Calls Try.prog 17 #[.agg #[.slice A1 g.terms.length c1,.slice A2 g.names.length c2,.slice A3 g.rules.length c3],.slice B l.length d] W fun e w' => e = .returned (.tuple #[.pointer none,.int .i64 x]) ∧ Below W.heap.size W w') :
    Calls Try.prog 34 #[.agg #[.slice A1 g.terms.length c1,.slice A2 g.names.length c2,.slice A3 g.rules.length c3],.slice B l.length d,.int .i64 most] w fun e w' => e = .returned (.tuple #[.agg #[.slice none 0 0],.int .i64 x]) ∧ Below w.heap.size w w':=by
  obtain ⟨v0,hv0⟩ : ∃ v0 : World,v0 = (w.alloc (.cells #[.slice A1 g.terms.length c1,.slice A2 g.names.length c2,.slice A3 g.rules.length c3] 25 (0,0))).alloc (.cells #[.slice none 0 0] 63 (0,0)):=⟨_,rfl⟩
  have HB0 : Aside0 (Below w.heap.size w v0):=⟨by rw [hv0];exact below_alloc (below_alloc (Below.refl _ _) _) _⟩
  have HP0 : Aside0 (v0.heap[w.heap.size]? = some (.cells #[.slice A1 g.terms.length c1,.slice A2 g.names.length c2,.slice A3 g.rules.length c3] 25 (0,0))):=⟨by rw [hv0];exact blk_alloc (blk_new w _) _⟩
  have HQ0 : Aside0 (v0.heap[w.heap.size + 1]? = some (.cells #[.slice none 0 0] 63 (0,0))):=⟨by rw [hv0];exact blk_snd _ _ _⟩
  obtain ⟨x1,hx1⟩ : ∃ x1,x1 = w.heap.size + 1:=⟨_,rfl⟩
  have HLX : Aside0 (w.heap.size ≤ x1):=⟨by omega⟩
  have a0:=(blk_cell HP0.out 0).trans rfl
  have a1:=(blk_cell HP0.out 1).trans rfl
  have a2:=(blk_cell HP0.out 2).trans rfl
  have HC:=Aside0.mk (hC v0 HB0.out)
  have d1 : (x != 0) = true:=by simpa using hx
  clear hC
  go_enter Try.func34,Try.ntmps34
  go_upto_region 1 with (fail)
  simp only [← hv0]
  clear hv0
  simp only [← hx1] at HQ0 ⊢
  clear hx1
  go_wp2_with (go_at_call 17;go_loud (refine HC.out.mono ?_;rintro e w1 ⟨rfl,hb1⟩;have HB1:=Aside0.mk hb1;have HQ1:=Aside0.mk (blk_below HQ0.out hb1);have q0:=(blk_cell HQ1.out 0).trans rfl;have z0:=blk_frozen HQ1.out 0;have HQ2:=Aside0.mk (blk_set HQ1.out 0 (.slice none 0 0));have q2:=(blk_cell HQ2.out 0).trans rfl;clear hb1))
  refine bodyPost_ret (results_forest Try.results34 rfl rfl HQ2.out) rfl ?_
  exact ⟨rfl,below_set (below_then HB0.out HB0.out.size HB1.out) HLX.out _ _⟩
end Go.Proofs.Ytmkgcjhimajgiaa


set_option linter.unusedVariables false
set_option linter.unusedSimpArgs false
namespace Go.Proofs.Ytmkgcjhimajgiaa
open Go.RowKit Go.Proofs.YtmkgcjhimajgiaaW.PrintWords Go.Proofs.YtmkgcjhimajgiaaW.PrintLast Go.Conc

theorem km_l1 (W : World) (o : Obj) : KM ((W.alloc (.map #[] 0)).alloc o).drew W.heap.size []:=(KM.new W).move (Below.heap_alloc (W.alloc (.map #[] 0)) o _ (by simp))
theorem km_l2 (W : World) (o : Obj) : KM ((W.alloc o).alloc (.map #[] 0)).drew (W.heap.size + 1) []:=by
  have:=KM.new (W.alloc o)
  rw [World.size_alloc] at this
  exact this.move rfl
theorem ch_l1 (W : World) (o a : Obj) : ((W.alloc a).alloc o).drew.heap[W.heap.size + 1]? = some o:=by
  have : ((W.alloc a).alloc o).heap[(W.alloc a).heap.size]? = some o:=heap_alloc_new _ _
  rw [World.size_alloc] at this
  exact this
theorem ch_l2 (W : World) (o a : Obj) : ((W.alloc o).alloc a).drew.heap[W.heap.size]? = some o:=by
  have h1 : (W.alloc o).heap[W.heap.size]? = some o:=heap_alloc_new _ _
  exact (Below.heap_alloc (W.alloc o) a _ (by simp)).trans h1
set_option maxRecDepth 100000 in
set_option maxHeartbeats 4000000 in
theorem fo_none (g : Gram) (A1 A2 A3 : Option Addr) (c1 c2 c3 : Nat) (B : Option Addr) (d : Nat) (l : List Int) (most : Int) (w : World) (hg : RepG w g A1 A2 A3 c1 c2 c3) (hr : kInt.C w B l.length l) (hgd : goodF g = true) (hl : l.length ≤ 40) (hin : ∀ x ∈ l,-9223372036854775808 ≤ x ∧ x ≤ 9223372036854775807) (hv : symV g l g.terms.length 0 l.length = false) :
    Calls Try.prog 34 #[.agg #[.slice A1 g.terms.length c1,.slice A2 g.names.length c2,.slice A3 g.rules.length c3],.slice B l.length d,.int .i64 most] w fun e w' => e = .returned (.tuple #[.agg #[.slice none 0 0],.int .i64 19]) ∧ Below w.heap.size w w':=by
  obtain ⟨q1,q2,q3,q4⟩:=goodF_small hgd
  obtain ⟨v0,hv0⟩ : ∃ v0 : World,v0 = (w.alloc (.cells #[.slice A1 g.terms.length c1,.slice A2 g.names.length c2,.slice A3 g.rules.length c3] 25 (0,0))).alloc (.cells #[.slice none 0 0] 63 (0,0)):=⟨_,rfl⟩
  have HB0 : Aside0 (Below w.heap.size w v0):=⟨by rw [hv0];exact below_alloc (below_alloc (Below.refl _ _) _) _⟩
  have HP0 : Aside0 (v0.heap[w.heap.size]? = some (.cells #[.slice A1 g.terms.length c1,.slice A2 g.names.length c2,.slice A3 g.rules.length c3] 25 (0,0))):=⟨by rw [hv0];exact blk_alloc (blk_new w _) _⟩
  have HQ0 : Aside0 (v0.heap[w.heap.size + 1]? = some (.cells #[.slice none 0 0] 63 (0,0))):=⟨by rw [hv0];exact blk_snd _ _ _⟩
  obtain ⟨x1,hx1⟩ : ∃ x1,x1 = w.heap.size + 1:=⟨_,rfl⟩
  have HLX : Aside0 (w.heap.size ≤ x1):=⟨by omega⟩
  obtain ⟨n,hn⟩ : ∃ n,n = l.length:=⟨_,rfl⟩
  have a0:=(blk_cell HP0.out 0).trans rfl
  have a1:=(blk_cell HP0.out 1).trans rfl
  have a2:=(blk_cell HP0.out 2).trans rfl
  have HC:=Aside0.mk (ofC_yes g A1 A2 A3 c1 c2 c3 B d l v0 (hg.below_ HB0.out) (Kd.C_below hr HB0.out) hgd hl hin)
  have HV:=Lib.hid hv
  rw [← hn] at HC HV ⊢
  have HT:=Lib.hid (show -9223372036854775808 ≤ (g.terms.length : Int) ∧ (g.terms.length : Int) ≤ 9223372036854775807 by omega)
  clear hg hr hgd hl hin hv hn
  go_enter Try.func34,Try.ntmps34
  go_upto_region 1 with (fail)
  simp only [← hv0]
  clear hv0
  simp only [← hx1] at HQ0 ⊢
  clear hx1
  go_wp2_with (first
    | (have hx:=HCF.out;go_at_call 26;go_loud (refine (symM_c k g l (g.terms.length : Int) 0 (n : Int) _ HCF.out HT.out HV.out).mono ?_;rintro e w2 ⟨rfl,hb2⟩;have HB2:=Aside0.mk (below_then HB1.out HB1.out.size hb2);have HQ2:=Aside0.mk (blk_below HQ1.out hb2);have q0:=(blk_cell HQ2.out 0).trans rfl;have z0:=blk_frozen HQ2.out 0;have HQ3:=Aside0.mk (blk_set HQ2.out 0 (.slice none 0 0));have q2:=(blk_cell HQ3.out 0).trans rfl;clear hb2)) | (go_at_call 17;go_loud (refine HC.out.mono ?_;rintro e w1 ⟨⟨k,rfl,hcf,hkb⟩,hb1⟩;have HCF:=Aside0.mk hcf;have HB1:=Aside0.mk hb1;have HQ1:=Aside0.mk (blk_below HQ0.out hb1);have HP1:=Aside0.mk (blk_below HP0.out hb1);have p0:=(blk_cell HP1.out 0).trans rfl;clear hb1 hcf hkb)))
  refine bodyPost_ret (results_forest Try.results34 rfl rfl HQ3.out) rfl ?_
  exact ⟨rfl,below_set (below_then HB0.out HB0.out.size HB2.out) HLX.out _ _⟩
set_option maxRecDepth 100000 in
set_option maxHeartbeats 16000000 in
theorem fo_some (g : Gram) (A1 A2 A3 : Option Addr) (c1 c2 c3 : Nat) (B : Option Addr) (d : Nat) (l : List Int) (most : Int) (w : World) (hg : RepG w g A1 A2 A3 c1 c2 c3) (hr : kInt.C w B l.length l) (hgd : goodF g = true) (hl : l.length ≤ 40) (hin : ∀ x ∈ l,-9223372036854775808 ≤ x ∧ x ≤ 9223372036854775807) (hv : symV g l g.terms.length 0 l.length = true) (hm : -9223372036854775808 ≤ most ∧ most ≤ 9223372036854775807) :
    Calls Try.prog 34 #[.agg #[.slice A1 g.terms.length c1,.slice A2 g.names.length c2,.slice A3 g.rules.length c3],.slice B l.length d,.int .i64 most] w fun e w' => ForEnd (forF g l most) (forE g l most) e w' ∧ Below w.heap.size w w':=by
  obtain ⟨q1,q2,q3,q4⟩:=goodF_small hgd
  have hE : forE g l most = if min most 4000 < ((fend g l (min most 4000)).1.length : Int) then 15 else 0:=by
    unfold forE
    rw [if_neg (by simp [hgd]),if_neg (by omega),if_neg (by simp [hv])]
  obtain ⟨v0,hv0⟩ : ∃ v0 : World,v0 = (w.alloc (.cells #[.slice A1 g.terms.length c1,.slice A2 g.names.length c2,.slice A3 g.rules.length c3] 25 (0,0))).alloc (.cells #[.slice none 0 0] 63 (0,0)):=⟨_,rfl⟩
  have HB0 : Aside0 (Below w.heap.size w v0):=⟨by rw [hv0];exact below_alloc (below_alloc (Below.refl _ _) _) _⟩
  have HP0 : Aside0 (v0.heap[w.heap.size]? = some (.cells #[.slice A1 g.terms.length c1,.slice A2 g.names.length c2,.slice A3 g.rules.length c3] 25 (0,0))):=⟨by rw [hv0];exact blk_alloc (blk_new w _) _⟩
  have HQ0 : Aside0 (v0.heap[w.heap.size + 1]? = some (.cells #[.slice none 0 0] 63 (0,0))):=⟨by rw [hv0];exact blk_snd _ _ _⟩
  obtain ⟨x1,hx1⟩ : ∃ x1,x1 = w.heap.size + 1:=⟨_,rfl⟩
  have HLX : Aside0 (w.heap.size ≤ x1):=⟨by omega⟩
  obtain ⟨n,hn⟩ : ∃ n,n = l.length:=⟨_,rfl⟩
  have a0:=(blk_cell HP0.out 0).trans rfl
  have a1:=(blk_cell HP0.out 1).trans rfl
  have a2:=(blk_cell HP0.out 2).trans rfl
  have HC:=Aside0.mk (ofC_yes g A1 A2 A3 c1 c2 c3 B d l v0 (hg.below_ HB0.out) (Kd.C_below hr HB0.out) hgd hl hin)
  have HG0:=Aside0.mk (hg.below_ HB0.out)
  have HV:=Lib.hid hv
  have HGD:=Aside0.mk hgd
  have HL40:=Lib.hid hl
  have HNL:=Lib.hid hn
  have HE:=Lib.hid hE
  have HMO:=Lib.hid hm
  rw [← hn] at HC HV ⊢
  have HT:=Lib.hid (show -9223372036854775808 ≤ (g.terms.length : Int) ∧ (g.terms.length : Int) ≤ 9223372036854775807 by omega)
  have HTN:=Lib.hid (show (g.terms.length : Int) ≤ 40 by omega)
  obtain ⟨mo,hmo⟩ : ∃ mo : Int,mo = if 4000 < most then 4000 else most:=⟨_,rfl⟩
  have hmoe : min most 4000 = mo:=by rw [hmo];split <;> omega
  have HME : Aside0 (min most 4000 = mo ∧ mo ≤ 4000):=⟨hmoe,by omega⟩
  have hmk1 : ∀ W : World,(Instr.makeMap 117 none).run Try.prog W = .ok (.map (some W.heap.size)) (W.alloc (.map #[] 0)):=fun W => rfl
  have hmk2 : ∀ W : World,(Instr.makeChan 114 (.int .i64 1)).run Try.prog W = .ok (.chan (some W.heap.size)) (W.alloc (.chan 1 #[] false 0 0 false)):=mk_chan 1 (by omega)
  clear hg hr hgd hl hin hv hn hE hm q1 q2 q3 q4 hmoe
  go_enter Try.func34,Try.ntmps34
  go_upto_region 1 with (fail)
  simp only [← hv0]
  clear hv0
  simp only [← hx1] at HQ0 ⊢
  clear hx1
  go_upto_region 7 with (first | (have hx:=HCF.out;go_at_call 26;go_loud (refine (symM_c k g l (g.terms.length : Int) 0 (n : Int) _ HCF.out HT.out HV.out).mono ?_;rintro e w2 ⟨rfl,hb2⟩;have HB2:=Aside0.mk (below_then HB1.out HB1.out.size hb2);have HCF2:=Aside0.mk (HCF.out.below_ hb2);have HQ2:=Aside0.mk (blk_below HQ1.out hb2);have HP2:=Aside0.mk (blk_below HP1.out hb2);clear hb2)) | (go_at_call 17;go_loud (refine HC.out.mono ?_;rintro e w1 ⟨⟨k,rfl,hcf,hkb⟩,hb1⟩;have HCF:=Aside0.mk hcf;have HB1:=Aside0.mk hb1;have HQ1:=Aside0.mk (blk_below HQ0.out hb1);have HP1:=Aside0.mk (blk_below HP0.out hb1);have p0:=(blk_cell HP1.out 0).trans rfl;clear hb1 hcf hkb)))
  have HG2:=Aside0.mk (HG0.out.below_ HB2.out)
  have HBW:=Aside0.mk (below_then HB0.out HB0.out.size HB2.out)
  clear HC HCF HQ1 HP1 HQ0 HP0 HG0 HB0 HB1 HB2 a0 a1 a2 p0
  refine start_ (n:=9) (S:=fun w' => Below w2.heap.size w2 w') (ds:=[]) (lb 9 0x0) (by kernel_rfl) rfl (by kernel_rfl) (below_drew1 (Below.refl _ _)) (fun hHeld => ?_)
  refine pu_ ?_ ?_ 1 (some 34) (lb 9 0x2) ?_
  refine pu_ ?_ ?_ 2 (some 35) (lb 9 0x6) ?_
  refine pu_ ?_ ?_ 3 (some 36) (lb 9 0xe) ?_
  refine ta_ ?_ ?_ 0 (some 33) (lb 9 0xf) hHeld ?_ (y:=by rintro w' hS;have d0:=(blk_cell (blk_below HP2.out hS) 0).trans rfl;have d1:=(blk_cell (blk_below HP2.out hS) 1).trans rfl;have d2:=(blk_cell (blk_below HP2.out hS) 2).trans rfl;go_simp;with_reducible rfl)
  refine join_ (σ:=Nat × Nat) 2 (lb 9 0x7f) (fun s => [(37,.map (some s.1)),(38,.chan (some s.2)),(39,.agg #[.slice A1 g.terms.length c1,.slice A2 g.names.length c2,.slice A3 g.rules.length c3,.pointer (some ⟨k.b,0,none⟩),.int .i64 mo,.map (some s.1),.slice none 0 0,.bool false,.slice none 0 0,.chan (some s.2)])]) (fun s w' => Below w2.heap.size w2 w' ∧ KM w' s.1 [] ∧ w'.heap[s.2]? = some (.chan 1 #[] false 0 0 false) ∧ w2.heap.size ≤ s.1 ∧ w2.heap.size ≤ s.2) ?_ ?_
  rotate_left
  · intro hrest
    simp only [putAll,Act.put,List.setIfInBounds_toArray,List.set_cons_zero,List.set_cons_succ] at hrest
    refine two_ (i:=4) (j:=5) (Ni:=(some 37)) (Nj:=(some 38)) (lb 9 0x1f) (lb 9 0x2f) rfl rfl rfl rfl (by kernel_rfl) (by decide) (by decide) (fun K hK => ?_) (fun K hK => ?_)
    · refine value_ (w1:=?_) (v:=?_) (by rfl) rfl ?_ ?_
      rotate_left 2
      · (go_simp;constructor;rfl;rfl)
      refine hK.out _ _ (hHeld.alloc hHeld.size _) (fun hHeld => ?_)
      clear hK K
      refine norm_ (a':=?_) ?_ ?_
      rotate_left
      · (show Act.put _ (some 37) _ = _;simp only [Act.put,List.setIfInBounds_toArray,List.set_cons_zero,List.set_cons_succ];rfl)
      refine one_ (i:=5) (N:=(some 38)) (lb 9 0x3f) rfl rfl (by kernel_rfl) (by decide) (fun K hK => ?_)
      refine value_ (w1:=?_) (v:=?_) (by rfl) rfl ?_ ?_
      rotate_left 2
      · (go_simp;constructor;rfl;rfl)
      refine hK.out _ _ (hHeld.alloc hHeld.size _) (fun hHeld => ?_)
      clear hK K
      refine norm_ (a':=?_) ?_ ?_
      rotate_left
      · (show Act.put _ (some 38) _ = _;simp only [Act.put,List.setIfInBounds_toArray,List.set_cons_zero,List.set_cons_succ];rfl)
      refine pure_ (i:=6) (N:=(some 39)) (v:=?_) (a':=?_) (lb 9 0x7f) rfl rfl (by kernel_rfl) (fun _ _ _ h => h) (Or.inl ⟨by rfl,?_⟩) ?_ ?_
      rotate_left
      · (intro w';go_simp;with_reducible rfl)
      rotate_left
      · (simp only [Act.put,List.setIfInBounds_toArray,List.set_cons_zero,List.set_cons_succ];rfl)
      subst hmo;first | exact hrest (w2.heap.size,w2.heap.size + 1) _ ⟨hHeld,km_l1 _ _,ch_l1 _ _ _,Nat.le_refl _,Nat.le_succ _⟩ | exact hrest (w2.heap.size + 1,w2.heap.size) _ ⟨hHeld,km_l2 _ _,ch_l2 _ _ _,Nat.le_succ _,Nat.le_refl _⟩
    · refine value_ (w1:=?_) (v:=?_) (by rfl) rfl ?_ ?_
      rotate_left 2
      · (go_simp;constructor;rfl;rfl)
      refine hK.out _ _ (hHeld.alloc hHeld.size _) (fun hHeld => ?_)
      clear hK K
      refine norm_ (a':=?_) ?_ ?_
      rotate_left
      · (show Act.put _ (some 38) _ = _;simp only [Act.put,List.setIfInBounds_toArray,List.set_cons_zero,List.set_cons_succ];rfl)
      refine one_ (i:=4) (N:=(some 37)) (lb 9 0x3f) rfl rfl (by kernel_rfl) (by decide) (fun K hK => ?_)
      refine value_ (w1:=?_) (v:=?_) (by rfl) rfl ?_ ?_
      rotate_left 2
      · (go_simp;constructor;rfl;rfl)
      refine hK.out _ _ (hHeld.alloc hHeld.size _) (fun hHeld => ?_)
      clear hK K
      refine norm_ (a':=?_) ?_ ?_
      rotate_left
      · (show Act.put _ (some 37) _ = _;simp only [Act.put,List.setIfInBounds_toArray,List.set_cons_zero,List.set_cons_succ];rfl)
      refine pure_ (i:=6) (N:=(some 39)) (v:=?_) (a':=?_) (lb 9 0x7f) rfl rfl (by kernel_rfl) (fun _ _ _ h => h) (Or.inl ⟨by rfl,?_⟩) ?_ ?_
      rotate_left
      · (intro w';go_simp;with_reducible rfl)
      rotate_left
      · (simp only [Act.put,List.setIfInBounds_toArray,List.set_cons_zero,List.set_cons_succ];rfl)
      subst hmo;first | exact hrest (w2.heap.size,w2.heap.size + 1) _ ⟨hHeld,km_l1 _ _,ch_l1 _ _ _,Nat.le_refl _,Nat.le_succ _⟩ | exact hrest (w2.heap.size + 1,w2.heap.size) _ ⟨hHeld,km_l2 _ _,ch_l2 _ _ _,Nat.le_succ _,Nat.le_refl _⟩
  rintro s w' hF
  obtain ⟨hHeld,HK0,HC0,hl1,hl2⟩:=hF;have HBJ:=Aside0.mk hHeld
  refine norm_ (a':=?_) ?_ ?_
  rotate_left
  · (simp only [putAll,Act.put,List.setIfInBounds_toArray,List.set_cons_zero,List.set_cons_succ];rfl)
  refine on_ 7 (some 40) (lb 9 0xff) (fun K hK => ?_)
  refine va_ ?_ ?_ ?_
  refine hK.out _ _ (hHeld.alloc hHeld.size _) (fun hHeld => ?_)
  clear hK K
  refine nm_ ?_ (some 40) ?_
  refine pu_ ?_ ?_ 8 (some 11) (lb 9 0x1ff) ?_
  refine done_ (by kernel_rfl) ?_
  obtain ⟨sm,sc⟩:=s
  simp only at HK0 HC0 hl1 hl2 ⊢
  simp only [← hmo]
  obtain ⟨f,hf⟩ : ∃ f : FB,f = ⟨w'.heap.size,A1,A2,A3,c1,c2,c3,k.b,mo,sm,sc⟩:=⟨_,rfl⟩
  obtain ⟨W7,hW7⟩ : ∃ W7,W7 = w'.alloc (.cells #[.slice A1 g.terms.length c1,.slice A2 g.names.length c2,.slice A3 g.rules.length c3,.pointer (some ⟨k.b,0,none⟩),.int .i64 mo,.map (some sm),.slice none 0 0,.bool false,.slice none 0 0,.chan (some sc)] 119):=⟨_,rfl⟩
  have hb7 : Below w'.heap.size w' W7:=by rw [hW7];exact below_alloc (Below.refl _ _) _
  have HF7 : Aside0 (FC #[] w2 W7 f g (.slice none 0 0) (.slice none 0 0) ⟨[],[],false⟩ 0):=⟨by
    subst hf
    exact ⟨⟨⟨by rw [hW7];exact blk_new w' _,Kd.R_nil _ _ _ _ _,SLD.nil _ _,below_then HBJ.out HBJ.out.size hb7,⟨HBJ.out.size,hl1,hl2⟩⟩,HK0.move (hb7.block _ HK0.lt)⟩,0,heap_below HC0 hb7⟩⟩
  have HFW : Aside0 (FW w2 f g l k):=⟨by
    subst hf
    exact ⟨HG2.out,HCF2.out,rfl,HGD.out,HL40.out⟩⟩
  have hfb : w'.heap.size = f.b:=by rw [hf]
  have hfm : f.most = mo:=by rw [hf]
  have HMOE:=Lib.hid hfm
  rw [hfb]
  simp only [← hW7]
  have HS:=Aside0.mk (symF_c w2 f g (.slice none 0 0) (.slice none 0 0) ⟨[],[],false⟩ g.terms.length 0 n W7 HF7.out.toFM (labI_sym (by have:=HTN.out;omega) (by omega) (by have:=HL40.out;have:=HNL.out;omega)) (by simp) (by simp))
  have hp2:=(blk_cell (blk_below HP2.out HF7.out.below) 0).trans rfl
  clear hmo
  clear hf hW7 hb7 hfb hfm hHeld HBJ HK0 HC0 hl1 hl2
  go_wp2_with (first | (have hx:=HDN.out;go_at_call 60;go_loud (refine (all_c w2 f g l k _ _ _ _ HFW.out HDN.out (by rw [HMOE.out];exact HME.out.2)).mono ?_;rintro e w9 ⟨rfl,vN9,vT9,s9,P9,hA9,he9,hfu9⟩;obtain ⟨A9,c9,hv9⟩:=Kd.R_slice hA9.fc.nd;subst hv9;have HA9:=Aside0.mk hA9;have HE9:=Aside0.mk he9;have HFU9:=Aside0.mk hfu9;obtain ⟨fu,hfu⟩ : ∃ fu,fu = s9.full:=⟨_,rfl⟩;have o7:=(blk_cell hA9.fc.o 7).trans rfl;rw [← hfu] at o7;have o6:=(blk_cell hA9.fc.o 6).trans rfl;have HFU:=Lib.hid hfu;have q0:=(blk_cell (blk_below HQ2.out hA9.fc.below) 0).trans rfl;have z0:=blk_frozen (blk_below HQ2.out hA9.fc.below) 0;have HQ9:=Aside0.mk (blk_below HQ2.out hA9.fc.below);clear hA9 he9 hfu9 hfu)) | (go_at_call 59;go_loud (refine HS.out.mono ?_;rintro e w8 ⟨vN8,vT8,rfl,hF8,hG8⟩;have hC8:=HF7.out.go hF8 hG8;have HDN : Aside0 (AI w2 w8 f g l vN8 vT8 (nodeS f.most ⟨[],[],false⟩ (symLab g.terms.length 0 n)) []):=⟨⟨hC8,fun i hi => absurd hi (Nat.not_lt_zero _),by rw [HNL.out];exact first_done _ (by rw [← HNL.out];exact HV.out)⟩⟩;clear hF8 hG8 hC8)))
  · have hlt : mo < (s9.X.length : Int):=by
      have h1:=HA9.out.done.ok.full
      rw [← HFU.out,HMOE.out] at h1
      exact of_decide_eq_true (h1.symm.trans (by assumption))
    have he : forE g l most = 15:=by
      rw [HE.out,HME.out.1,← HMOE.out,HE9.out,if_pos (by rw [HMOE.out];simpa [FSt.L] using hlt)]
    have hfF : forF g l most = []:=by unfold forF;rw [he];rfl
    refine bodyPost_ret (results_forest Try.results34 rfl rfl (blk_set HQ9.out 0 (.slice none 0 0))) rfl ?_
    rw [he,hfF]
    exact ⟨ForEnd.none,below_set (below_then HBW.out HBW.out.size HA9.out.fc.below) HLX.out _ _⟩
  · have hfl : s9.full = false:=by rw [← HFU.out];assumption
    have hlt : ¬ mo < (s9.X.length : Int):=by
      have h1:=HA9.out.done.ok.full
      rw [hfl,HMOE.out] at h1
      exact of_decide_eq_false h1.symm
    have he : forE g l most = 0:=by
      rw [HE.out,HME.out.1,← HMOE.out,HE9.out,if_neg (by rw [HMOE.out];simpa [FSt.L] using hlt)]
    have hfF : forF g l most = zipF (s9.L,P9):=by unfold forF;rw [if_pos he,HME.out.1,← HMOE.out,HE9.out]
    have hpl:=HFU9.out hfl
    obtain ⟨h1,h2,h3⟩:=node_of (W:=w9.setCell ⟨x1,0,none⟩ (.slice A9 s9.X.length c9)) (R_setOther HA9.out.fc.nd HQ9.out (by decide) 0 _) (fun i hi hx => (KeepP.set HQ9.out (by decide) 0 _).row (HA9.out.pk i hi hx)) hpl
    refine bodyPost_ret (results_forest Try.results34 rfl rfl (blk_set HQ9.out 0 (.slice A9 s9.X.length c9))) rfl ?_
    rw [he,hfF]
    refine ⟨⟨A9,c9,by rw [h1];rfl,?_,?_⟩,below_set (below_then HBW.out HBW.out.size HA9.out.fc.below) HLX.out _ _⟩
    · rw [show (zipF (s9.L,P9)).length = s9.X.length from h1.symm];exact h2
    · rw [show (zipF (s9.L,P9)).length = s9.X.length from h1.symm];exact h3
theorem fo_c (g : Gram) (A1 A2 A3 : Option Addr) (c1 c2 c3 : Nat) (B : Option Addr) (d : Nat) (l : List Int) (most : Int) (w : World) (hg : RepG w g A1 A2 A3 c1 c2 c3) (hr : kInt.C w B l.length l) (hin : ∀ x ∈ l,-9223372036854775808 ≤ x ∧ x ≤ 9223372036854775807) (hm : -9223372036854775808 ≤ most ∧ most ≤ 9223372036854775807) :
    Calls Try.prog 34 #[.agg #[.slice A1 g.terms.length c1,.slice A2 g.names.length c2,.slice A3 g.rules.length c3],.slice B l.length d,.int .i64 most] w fun e w' => ForEnd (forF g l most) (forE g l most) e w' ∧ Below w.heap.size w w':=by
  by_cases hgd : goodF g = true
  · by_cases hl : 40 < l.length
    · have he : forE g l most = 14:=by unfold forE;rw [if_neg (by simp [hgd]),if_pos hl]
      have hf : forF g l most = []:=by unfold forF;rw [he];rfl
      rw [he,hf]
      refine (fo_err g A1 A2 A3 c1 c2 c3 B d l most 14 w (by decide) (fun W hb => ofC_large g A1 A2 A3 c1 c2 c3 B d l W (hg.below_ hb) hgd hl)).mono ?_
      rintro e w' ⟨rfl,hb⟩
      exact ⟨ForEnd.none,hb⟩
    · by_cases hv : symV g l g.terms.length 0 l.length = true
      · exact fo_some g A1 A2 A3 c1 c2 c3 B d l most w hg hr hgd (by omega) hin hv hm
      · have hv' : symV g l g.terms.length 0 l.length = false:=by simpa using hv
        have he : forE g l most = 19:=by unfold forE;rw [if_neg (by simp [hgd]),if_neg hl,if_pos hv']
        have hf : forF g l most = []:=by unfold forF;rw [he];rfl
        rw [he,hf]
        refine (fo_none g A1 A2 A3 c1 c2 c3 B d l most w hg hr hgd (by omega) hin hv').mono ?_
        rintro e w' ⟨rfl,hb⟩
        exact ⟨ForEnd.none,hb⟩
  · have hgd' : goodF g = false:=by simpa using hgd
    have he : forE g l most = 16:=by unfold forE;rw [if_pos hgd']
    have hf : forF g l most = []:=by unfold forF;rw [he];rfl
    rw [he,hf]
    refine (fo_err g A1 A2 A3 c1 c2 c3 B d l most 16 w (by decide) (fun W hb => ofC_form g A1 A2 A3 c1 c2 c3 B d l W (hg.below_ hb) hgd')).mono ?_
    rintro e w' ⟨rfl,hb⟩
    exact ⟨ForEnd.none,hb⟩
end Go.Proofs.Ytmkgcjhimajgiaa


set_option linter.unusedVariables false
set_option linter.unusedSimpArgs false
namespace Go.Proofs.Ytmkgcjhimajgiaa
open Go.RowKit Go.Proofs.YtmkgcjhimajgiaaW.PrintWords Go.Proofs.YtmkgcjhimajgiaaW.PrintLast Go.Conc

theorem for_good {g : Gram} {w : List Int} (hg : goodF g = true) (hw : w.length ≤ 40) {k : Nat} {t : ChS} (ht : runC g w.length k (startF g w) = t) (hq : t.q = []) (hr : symT g w t g.terms.length 0 w.length = true) {most : Int} {n : Nat} {s : FS} (hs : fiterG g w (symT g w t) (pivT g w t) (min most 4000) n = s) (hn : n ≤ 4001) (h1 : s.2.length = s.1.length) (h2 : (s.1.length : Int) ≤ min most 4000) : forE g w most = 0 ∧ forF g w most = zipF s:=by
  have hT:=runC_tab hg ht hq
  have hE:=fend_comp hg ht hq hs hn (by omega)
  have he : forE g w most = 0:=by
    unfold forE
    rw [if_neg (by simp [hg]),if_neg (by omega),symT_eq hg hT,hr,if_neg (by decide),hE,if_neg (by omega)]
  exact ⟨he,by unfold forF;rw [if_pos he,hE]⟩
theorem for_cap {g : Gram} {w : List Int} (hg : goodF g = true) (hw : w.length ≤ 40) {k : Nat} {t : ChS} (ht : runC g w.length k (startF g w) = t) (hq : t.q = []) (hr : symT g w t g.terms.length 0 w.length = true) {most : Int} {n : Nat} {s : FS} (hs : fiterG g w (symT g w t) (pivT g w t) (min most 4000) n = s) (hn : n ≤ 4001) (h2 : min most 4000 < (s.1.length : Int)) : forE g w most = 15 ∧ forF g w most = []:=by
  have hT:=runC_tab hg ht hq
  have hE:=fend_comp hg ht hq hs hn (by omega)
  have he : forE g w most = 15:=by
    unfold forE
    rw [if_neg (by simp [hg]),if_neg (by omega),symT_eq hg hT,hr,if_neg (by decide),hE,if_pos h2]
  exact ⟨he,by unfold forF;rw [he];rfl⟩
theorem for_none {g : Gram} {w : List Int} (hg : goodF g = true) (hw : w.length ≤ 40) {k : Nat} {t : ChS} (ht : runC g w.length k (startF g w) = t) (hq : t.q = []) (hr : symT g w t g.terms.length 0 w.length = false) (most : Int) : forE g w most = 19 ∧ forF g w most = []:=by
  have hT:=runC_tab hg ht hq
  have he : forE g w most = 19:=by
    unfold forE
    rw [if_neg (by simp [hg]),if_neg (by omega),symT_eq hg hT,hr,if_pos rfl]
  exact ⟨he,by unfold forF;rw [he];rfl⟩
def wake25S : ByteArray:=⟨#[83,32,61,32,83,32,83,32,124,32,39,97,39,32,59]⟩
def wake25G : Gram:=⟨[⟨#[97]⟩],[⟨#[83]⟩],[⟨1,[1,1]⟩,⟨1,[0]⟩]⟩
theorem wake25_of : ofF wake25S = .ok wake25G:=by kernel_rfl
theorem wake25_good : goodF wake25G = true:=by kernel_rfl
def wake25T : ChS:=runC wake25G 2 100 (startF wake25G [0,0])
theorem wake25_q : wake25T.q = []:=by kernel_rfl
def wake25F : FS:=([⟨1,-1,0,0,2⟩,⟨1,-1,0,0,1⟩,⟨1,-1,0,1,2⟩,⟨0,-1,0,0,1⟩,⟨0,-1,0,1,2⟩],[[⟨0,1,1,2⟩],[⟨1,0,-1,3⟩],[⟨1,1,-1,4⟩],[],[]])
theorem wake25_100 : forE wake25G [0,0] 100 = 0 ∧ forF wake25G [0,0] 100 = zipF wake25F:=for_good wake25_good (by decide) (t:=wake25T) rfl wake25_q (by kernel_rfl) (n:=5) (by kernel_rfl) (by omega) (by kernel_rfl) (by decide)
theorem wake25_4000 : forE wake25G [0,0] 4000 = 0 ∧ forF wake25G [0,0] 4000 = zipF wake25F:=for_good wake25_good (by decide) (t:=wake25T) rfl wake25_q (by kernel_rfl) (n:=5) (by kernel_rfl) (by omega) (by kernel_rfl) (by decide)
def wake25C : FS:=fiterG wake25G [0,0] (symT wake25G [0,0] wake25T) (pivT wake25G [0,0] wake25T) 4 5
theorem wake25_4 : forE wake25G [0,0] 4 = 15 ∧ forF wake25G [0,0] 4 = []:=for_cap wake25_good (by decide) (t:=wake25T) rfl wake25_q (by kernel_rfl) (n:=5) (s:=wake25C) (by kernel_rfl) (by omega) (by
  have : wake25C.1.length = 5:=by kernel_rfl
  rw [this];decide)
def wake25U : ChS:=runC wake25G 0 100 (startF wake25G [])
theorem wake25_none : forE wake25G [] 100 = 19 ∧ forF wake25G [] 100 = []:=for_none wake25_good (by decide) (t:=wake25U) rfl (by kernel_rfl) (by kernel_rfl) 100
theorem wake25_at {w : World} {A : Option Addr} (h : kNode.C w A 5 (zipF wake25F)) : ∃ ad ap cp,A = some ad ∧ w.cell? ad = some (.int .i64 1) ∧ w.cell? ⟨ad.block,ad.off + 4,none⟩ = some (.int .i64 2) ∧ w.cell? ⟨ad.block,ad.off + 5,none⟩ = some (.slice (some ap) 1 cp) ∧ w.cell? ap = some (.int .i64 0) ∧ w.cell? ⟨ap.block,ap.off + 1,none⟩ = some (.int .i64 1) ∧ w.cell? ⟨ap.block,ap.off + 2,none⟩ = some (.int .i64 1) ∧ w.cell? ⟨ap.block,ap.off + 3,none⟩ = some (.int .i64 2):=by
  obtain ⟨ad,Ap,cp,ead,h0,h1,h2,h3,h4,h5,h6,h7⟩:=at_node h 0 (by decide)
  obtain ⟨ap,eap,g0,g1,g2,g3⟩:=at_pk h7 0 (by decide)
  subst eap
  exact ⟨ad,ap,cp,ead,h0,h4,h5,g0,g1,g2,g3⟩
end Go.Proofs.Ytmkgcjhimajgiaa


set_option linter.unusedVariables false
set_option linter.unusedSimpArgs false
namespace Go.Proofs.Ytmkgcjhimajgiaa
open Go.RowKit Go.Proofs.YtmkgcjhimajgiaaW.PrintWords Go.Proofs.YtmkgcjhimajgiaaW.PrintLast Go.Conc

section
variable {g : Gram} {l : List Int} {m m2 : Int}
structure ForOk (g : Gram) (l : List Int) (m : Int) (L : List Lab) (P : List (List PackN)) : Prop where
  gd : goodF g = true
  w40 : l.length ≤ 40
  root : symV g l g.terms.length 0 l.length = true
  le : (L.length : Int) ≤ min m 4000
  fend : fend g l (min m 4000) = (L,P)
  len : P.length = L.length
  F : forF g l m = zipF (L,P)
theorem ForOk.flen {L : List Lab} {P : List (List PackN)} (h : ForOk g l m L P) : (forF g l m).length = L.length:=by
  rw [h.F]
  simp [zipF,h.len]
theorem forE_zero (h : forE g l m = 0) : ∃ L P,ForOk g l m L P:=by
  obtain ⟨⟨L,P⟩,hf⟩ : ∃ s,fend g l (min m 4000) = s:=⟨_,rfl⟩
  have h0:=h
  unfold forE at h
  split at h
  · cases h
  · rename_i h1
    split at h
    · cases h
    · rename_i h2
      split at h
      · cases h
      · rename_i h3
        split at h
        · cases h
        · rename_i h4
          have g1 : goodF g = true:=by simpa using h1
          have g3 : symV g l g.terms.length 0 l.length = true:=by simpa using h3
          have hle : ((fend g l (min m 4000)).1.length : Int) ≤ min m 4000:=by omega
          have hfu:=fend_full g1 (by omega) g3 (by omega) hle
          rw [hf] at hle hfu
          exact ⟨L,P,g1,by omega,g3,hle,hf,hfu,by unfold forF;rw [if_pos h0,hf]⟩
theorem forE_cases (hg : goodF g = true) (hl : l.length ≤ 40) : forE g l m = 0 ∨ ((forE g l m = 15 ∨ forE g l m = 19) ∧ forF g l m = []):=by
  by_cases h0 : forE g l m = 0
  · exact .inl h0
  · refine .inr ⟨?_,by unfold forF;rw [if_neg h0]⟩
    unfold forE at h0 ⊢
    rw [if_neg (by simp [hg]),if_neg (by omega)] at h0 ⊢
    split
    · exact .inr rfl
    · rename_i h3
      rw [if_neg h3] at h0
      split
      · exact .inl rfl
      · rename_i h4
        rw [if_neg h4] at h0
        exact absurd rfl h0
theorem for_more (h : forE g l m = 0) (h2 : ((forF g l m).length : Int) ≤ m2) : forE g l m2 = 0 ∧ forF g l m2 = forF g l m:=by
  obtain ⟨L,P,H⟩:=forE_zero h
  rw [H.flen] at h2
  have hle:=H.le
  have hm : fend g l (min m2 4000) = (L,P):=by
    have:=fend_more H.gd H.w40 H.root (most:=min m 4000) (by rw [H.fend];exact H.le) (m2:=min m2 4000) (by rw [H.fend];show (L.length : Int) ≤ _;omega)
    rw [this,H.fend]
  have he : forE g l m2 = 0:=by
    unfold forE
    have:=H.w40
    rw [if_neg (by simp [H.gd]),if_neg (by omega),if_neg (by simp [H.root]),hm,if_neg (by show ¬ min m2 4000 < (L.length : Int);omega)]
  refine ⟨he,?_⟩
  rw [H.F]
  unfold forF
  rw [if_pos he,hm]
theorem for_less (h : forE g l m = 0) (h2 : m2 < ((forF g l m).length : Int)) : forE g l m2 = 15 ∧ forF g l m2 = []:=by
  obtain ⟨L,P,H⟩:=forE_zero h
  rw [H.flen] at h2
  have hle:=H.le
  have hm:=fend_less H.gd H.w40 H.root (most:=min m 4000) (by rw [H.fend];exact H.le) (m2:=min m2 4000) (by rw [H.fend];show _ < (L.length : Int);omega)
  have he : forE g l m2 = 15:=by
    unfold forE
    have:=H.w40
    rw [if_neg (by simp [H.gd]),if_neg (by omega),if_neg (by simp [H.root]),if_pos hm]
  exact ⟨he,by unfold forF;rw [he];rfl⟩
theorem for_pos (h : forE g l m = 0) : 1 ≤ (forF g l m).length ∧ ((forF g l m).length : Int) ≤ m ∧ (forF g l m).length ≤ 4000:=by
  obtain ⟨L,P,H⟩:=forE_zero h
  have hp:=(fiter_pre (most:=min m 4000) H.gd H.w40 H.root 0 4001).1.length_le
  have e : (fiter g l (min m 4000) (0 + 4001)).1 = L:=by
    have:=H.fend
    unfold fend at this
    rw [Nat.zero_add,this]
  rw [e] at hp
  have h1 : (fiter g l (min m 4000) 0).1.length = 1:=rfl
  have hle:=H.le
  rw [H.flen]
  omega
end
end Go.Proofs.Ytmkgcjhimajgiaa

