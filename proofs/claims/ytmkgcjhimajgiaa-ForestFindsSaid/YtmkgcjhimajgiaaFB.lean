/- Contracts of functions of the program, and plain laws (texts C6, A4, C7, P1, P2, P6, P7, P11, C8, C9, E2, T1), joined: each theorem says what it proves. -/
import Derived.Test.YtmkgcjhimajgiaaFA
import Derived.Recover
set_option linter.unusedVariables false
set_option linter.unusedSimpArgs false
namespace Go.Proofs.Ytmkgcjhimajgiaa
open Go.RowKit Go.Proofs.YtmkgcjhimajgiaaW.PrintWords Go.Proofs.YtmkgcjhimajgiaaW.PrintLast

def idxF (l : List ByteArray) (s : ByteArray) : Int:=posF (fun y => decide (s = y)) l 0
def symF (terms names : List ByteArray) (t : Tok) : Except (Int × Int) Int :=
  if t.kind = 2 then .ok (idxF terms t.text) else if idxF names t.text < 0 then .error (13,t.pos) else .ok (terms.length + idxF names t.text)
def rightF (terms names : List ByteArray) : List Tok → List Int → Except (Int × Int) (List Int)
  | [],acc => .ok acc
  | t :: r,acc => match symF terms names t with
    | .error e => .error e
    | .ok i => rightF terms names r (acc ++ [i])
def numF (terms names : List ByteArray) (a : Alt) : Except (Int × Int) Rule :=
  match rightF terms names a.right [] with
  | .error e => .error e
  | .ok r => .ok ⟨terms.length + idxF names a.left.text,r⟩
theorem idxF_ge (l : List ByteArray) (s : ByteArray) : idxF l s = -1 ∨ 0 ≤ idxF l s ∧ idxF l s < l.length:=by
  have:=posF_ge (fun y => decide (s = y)) l 0
  unfold idxF
  omega
def NumEnd (w : World) : Except (Int × Int) Rule → Ending → World → Prop
  | .error (a,p),e,w' => e = .panicked (faultV a p)
  | .ok r,e,w' => ∃ v,e = .returned (.agg #[.int .i64 r.left,v]) ∧ kInt.R 3 w' w.heap.size (fun _ => True) v r.right

theorem app_int_step {ops : Array Oper} {o : Oper} {a : Act} {Q : Exit → Act → World → Prop} {Kc : Act → World → Prop} {base : Nat} {w0 W : World} {v : Value} {ok : Nat → Prop} {s x : Operand} {xs : List Int} {p : Int} (hw : Region.wanted o (yielded ops a.tmps) = true) (ho : o.op = .call { callee:=.builtin .append,args:=#[s,x],argTypes:=#[26,26] })
    (HO : kInt.R 3 W base ok v xs) (HB : Below base w0 W) (hbase : base ≤ W.heap.size) (hl : xs.length + 1 ≤ 4000000000000) (hfresh : ∀ k,W.heap.size ≤ k → ok k) (hs : a.eval s = v) (hx : a.eval x = .slice (some ⟨W.heap.size,0,none⟩) 1 1)
    (h : ∀ v1 w1,Appd kInt 3 w0 W base ok v (xs ++ [p]) v1 w1 → Kc (a.put o.dst v1) w1) :
    if Region.wanted o (yielded ops a.tmps) = true then Oper.wp Try.prog o a (W.alloc (.cells #[.int .i64 p] 3)) Kc Q else Kc (a.put o.dst undef) (W.alloc (.cells #[.int .i64 p] 3)) :=
  Kd.R_append_step kInt base hw s x 26 3 _ 8 ho Try.underlying26 infoInt rfl (by decide) (by decide) v xs p [.int .i64 p] ok (fun _ => False) hs hx rfl (fun _ h => h.elim) hfresh HO HB hbase (by omega) (fun v1 w1 h1 h2 h3 h4 => h v1 w1 ⟨h1,h2,h3,h4⟩)

theorem results_num {tmps : Array Value} {W : World} {g : Nat} {A : Option Addr} {n c : Nat} {x : Int} (t4 : tmps.getD 4 undef = .pointer (some ⟨g,0,none⟩))
    (h : W.heap[g]? = some (.cells #[.int .i64 x,.slice A n c] 46 (0,0))) :
    (results Try.f74 tmps).run Try.prog W = .ok (.agg #[.int .i64 x,.slice A n c]) W:=by
  have d1:=blk_cell h 0
  have d2:=blk_cell h 1
  simp only [List.getElem?_toArray,List.getElem?_cons_zero,List.getElem?_cons_succ] at d1 d2
  simp only [Array.getD_eq_getD_getElem?] at t4
  simp [results,Try.results74,go_sem,d1,d2,t4]
set_option maxRecDepth 100000 in
set_option maxHeartbeats 4000000 in
theorem numbered_c (W : World) (terms names : List ByteArray) (A1 A2 A3 Ar : Option Addr) (c1 c2 n3 c3 cr : Nat) (a : Alt) (h1 : kStr.C W A1 terms.length terms) (h2 : kStr.C W A2 names.length names) (hr : kTok.C W Ar a.right.length a.right) (hl : a.right.length ≤ 4000) (ht : terms.length ≤ 4000) (hn : names.length ≤ 4000) :
    Calls Try.prog 74 #[.agg #[.slice A1 terms.length c1,.slice A2 names.length c2,.slice A3 n3 c3],.agg #[.int .i64 a.left.kind,.string a.left.text,.int .i64 a.left.pos,.slice Ar a.right.length cr]] W fun e w' => NumEnd W (numF terms names a) e w' ∧ Below W.heap.size W w':=by
  obtain ⟨G2,hG2⟩ : ∃ o : Obj,o = .cells #[.slice A1 terms.length c1,.slice A2 names.length c2,.slice A3 n3 c3] 25 (0,0):=⟨_,rfl⟩
  have k2:=blk_alloc (blk_alloc (blk_new W (.cells #[.slice A1 terms.length c1,.slice A2 names.length c2,.slice A3 n3 c3] 25 (0,0))) (.cells #[.int .i64 a.left.kind,.string a.left.text,.int .i64 a.left.pos,.slice Ar a.right.length cr] 140 (0,0))) (.cells #[.int .i64 0,.slice none 0 0] 46 (0,0))
  have k3:=blk_alloc (blk_new (W.alloc (.cells #[.slice A1 terms.length c1,.slice A2 names.length c2,.slice A3 n3 c3] 25 (0,0))) (.cells #[.int .i64 a.left.kind,.string a.left.text,.int .i64 a.left.pos,.slice Ar a.right.length cr] 140 (0,0))) (.cells #[.int .i64 0,.slice none 0 0] 46 (0,0))
  rw [show (W.alloc (.cells #[.slice A1 terms.length c1,.slice A2 names.length c2,.slice A3 n3 c3] 25 (0,0))).heap.size = W.heap.size + 1 by simp] at k3
  have K2:=Aside0.mk k2
  have K3:=Aside0.mk k3
  have HT:=Aside0.mk h1
  have HN:=Aside0.mk h2
  have HR:=Aside0.mk hr
  have HB:=Aside0.mk ((((Below.refl W.heap.size W).alloc (Nat.le_refl _) (.cells #[.slice A1 terms.length c1,.slice A2 names.length c2,.slice A3 n3 c3] 25 (0,0))).alloc (by simp) (.cells #[.int .i64 a.left.kind,.string a.left.text,.int .i64 a.left.pos,.slice Ar a.right.length cr] 140 (0,0))).alloc (by simp;omega) (.cells #[.int .i64 0,.slice none 0 0] 46 (0,0)))
  have hw1 : IntKind.i64.wrap (terms.length + posF (fun y => decide (a.left.text = y)) names 0) = terms.length + posF (fun y => decide (a.left.text = y)) names 0:=by
    have:=idxF_ge names a.left.text
    unfold idxF at this
    rw [IntKind.wrap_i64]
    omega
  clear k2 k3 h1 h2 hr
  go_enter Try.func74,Try.ntmps74
  go_wp2
  refine start_ (n:=13) (S:=fun w' => w'.heap[W.heap.size]? = some (.cells #[.slice A1 terms.length c1,.slice A2 names.length c2,.slice A3 n3 c3] 25 (0,0)) ∧ w'.heap[W.heap.size + 1]? = some (.cells #[.int .i64 a.left.kind,.string a.left.text,.int .i64 a.left.pos,.slice Ar a.right.length cr] 140 (0,0))) (ds:=[12]) #[false,false,false,false,false,false,false,false,false,false,false,false,false] (by kernel_rfl) rfl rfl (⟨blk_drew K2.out,blk_drew K3.out⟩) (fun hHeld => ?_)
  refine pu_ ?_ ?_ 0 (some 9) #[true,false,false,false,false,false,false,false,false,false,false,false,false] ?_
  refine pu_ ?_ ?_ 3 (some 12) #[true,false,false,true,false,false,false,false,false,false,false,false,false] ?_
  refine pu_ ?_ ?_ 5 (some 14) #[true,false,false,true,false,true,false,false,false,false,false,false,false] ?_
  refine pu_ ?_ ?_ 6 (some 15) #[true,false,false,true,false,true,true,false,false,false,false,false,false] ?_
  refine ta_ ?_ ?_ 1 (some 10) #[true,true,false,true,false,true,true,false,false,false,false,false,false] hHeld ?_ (y:=by rintro w' ⟨s0,s1⟩;have d0:=blk_cell s0 0;have d1:=blk_cell s0 1;have d2:=blk_cell s1 1;simp only [List.getElem?_toArray,List.getElem?_cons_zero,List.getElem?_cons_succ] at d0 d1 d2;go_simp;with_reducible rfl)
  refine pu_ ?_ ?_ 2 (some 11) #[true,true,true,true,false,true,true,false,false,false,false,false,false] ?_
  refine ta_ ?_ ?_ 4 (some 13) #[true,true,true,true,true,true,true,false,false,false,false,false,false] hHeld ?_ (y:=by rintro w' ⟨s0,s1⟩;have d0:=blk_cell s0 0;have d1:=blk_cell s0 1;have d2:=blk_cell s1 1;simp only [List.getElem?_toArray,List.getElem?_cons_zero,List.getElem?_cons_succ] at d0 d1 d2;go_simp;with_reducible rfl)
  refine ta_ ?_ ?_ 7 (some 16) #[true,true,true,true,true,true,true,true,false,false,false,false,false] hHeld ?_ (y:=by rintro w' ⟨s0,s1⟩;have d0:=blk_cell s0 0;have d1:=blk_cell s0 1;have d2:=blk_cell s1 1;simp only [List.getElem?_toArray,List.getElem?_cons_zero,List.getElem?_cons_succ] at d0 d1 d2;go_simp;with_reducible rfl)
  refine join_ (σ:=Unit) 1 #[true,true,true,true,true,true,true,true,true,true,true,true,false] (fun _ => [(17,.int .i64 (posF (fun y => decide (a.left.text = y)) names 0)),(5,.pointer (some ⟨W.heap.size + 1 + 1 + 1,0,none⟩)),(18,.int .i64 (terms.length + posF (fun y => decide (a.left.text = y)) names 0)),(19,.agg #[.int .i64 (terms.length + posF (fun y => decide (a.left.text = y)) names 0),.slice none 0 0])]) (fun _ w' => w' = ((((W.alloc (.cells #[.slice A1 terms.length c1,.slice A2 names.length c2,.slice A3 n3 c3] 25 (0,0))).alloc (.cells #[.int .i64 a.left.kind,.string a.left.text,.int .i64 a.left.pos,.slice Ar a.right.length cr] 140 (0,0))).alloc (.cells #[.int .i64 0,.slice none 0 0] 46 (0,0))).drew.alloc (.cells #[.int .i64 0,.slice none 0 0] 46 (0,0)))) ?_ ?_
  rotate_left
  · intro hrest
    simp only [putAll,Act.put,List.setIfInBounds_toArray,List.set_cons_zero,List.set_cons_succ] at hrest
    refine two_ (i:=8) (j:=11) (Ni:=(some 17)) (Nj:=(some 5)) #[true,true,true,true,true,true,true,true,true,false,false,false,false] #[true,true,true,true,true,true,true,true,false,false,false,true,false] rfl rfl rfl rfl (by kernel_rfl) (by decide) (by decide) (fun K hK => ?_) (fun K hK => ?_)
    · (refine goes_ Try.func95 (by kernel_rfl) rfl #[.slice A2 names.length c2,.string a.left.text] (by rfl) rfl rfl (by simp [Act.eval]) ?_;refine (indexStr_c _ _ _ _ _ (Kd.C_below HN.out (by first | exact HB.out.drew | exact HB.out.drew.alloc HB.out.drew.size _))).mono ?_;rintro e w' ⟨rfl,rfl⟩;refine ⟨_,rfl,?_⟩;refine hK.out _ _ hHeld (fun hHeld => ?_))
      clear hK K
      refine norm_ (a':=?_) ?_ ?_
      rotate_left
      · (show Act.put _ (some 17) _ = _;simp only [Act.put,List.setIfInBounds_toArray,List.set_cons_zero,List.set_cons_succ];rfl)
      refine pure_ (i:=9) (N:=(some 18)) (v:=?_) (a':=?_) #[true,true,true,true,true,true,true,true,true,true,false,false,false] rfl rfl (by kernel_rfl) (fun _ _ _ h => h) (Or.inl ⟨by rfl,?_⟩) ?_ ?_
      rotate_left
      · (intro w';go_simp;with_reducible rfl)
      rotate_left
      · (simp only [Act.put,List.setIfInBounds_toArray,List.set_cons_zero,List.set_cons_succ];rfl)
      refine pure_ (i:=10) (N:=(some 19)) (v:=?_) (a':=?_) #[true,true,true,true,true,true,true,true,true,true,true,false,false] rfl rfl (by kernel_rfl) (fun _ _ _ h => h) (Or.inl ⟨by rfl,?_⟩) ?_ ?_
      rotate_left
      · (intro w';go_simp;with_reducible rfl)
      rotate_left
      · (simp only [Act.put,List.setIfInBounds_toArray,List.set_cons_zero,List.set_cons_succ];rfl)
      refine one_ (i:=11) (N:=(some 5)) #[true,true,true,true,true,true,true,true,true,true,true,true,false] rfl rfl (by kernel_rfl) (by decide) (fun K hK => ?_)
      refine value_ (w1:=?_) (v:=?_) (by rfl) rfl ?_ ?_
      rotate_left 2
      · (go_simp;constructor;rfl;rfl)
      refine hK.out _ _ (⟨blk_alloc hHeld.1 _,blk_alloc hHeld.2 _⟩) (fun hHeld => ?_)
      clear hK K
      refine norm_ (a':=?_) ?_ ?_
      rotate_left
      · (show Act.put _ (some 5) _ = _;simp only [Act.put,List.setIfInBounds_toArray,List.set_cons_zero,List.set_cons_succ];rfl)
      exact hrest () _ rfl
    · refine value_ (w1:=?_) (v:=?_) (by rfl) rfl ?_ ?_
      rotate_left 2
      · (go_simp;constructor;rfl;rfl)
      refine hK.out _ _ (⟨blk_alloc hHeld.1 _,blk_alloc hHeld.2 _⟩) (fun hHeld => ?_)
      clear hK K
      refine norm_ (a':=?_) ?_ ?_
      rotate_left
      · (show Act.put _ (some 5) _ = _;simp only [Act.put,List.setIfInBounds_toArray,List.set_cons_zero,List.set_cons_succ];rfl)
      refine one_ (i:=8) (N:=(some 17)) #[true,true,true,true,true,true,true,true,true,false,false,true,false] rfl rfl (by kernel_rfl) (by decide) (fun K hK => ?_)
      (refine goes_ Try.func95 (by kernel_rfl) rfl #[.slice A2 names.length c2,.string a.left.text] (by rfl) rfl rfl (by simp [Act.eval]) ?_;refine (indexStr_c _ _ _ _ _ (Kd.C_below HN.out (by first | exact HB.out.drew | exact HB.out.drew.alloc HB.out.drew.size _))).mono ?_;rintro e w' ⟨rfl,rfl⟩;refine ⟨_,rfl,?_⟩;refine hK.out _ _ hHeld (fun hHeld => ?_))
      clear hK K
      refine norm_ (a':=?_) ?_ ?_
      rotate_left
      · (show Act.put _ (some 17) _ = _;simp only [Act.put,List.setIfInBounds_toArray,List.set_cons_zero,List.set_cons_succ];rfl)
      refine pure_ (i:=9) (N:=(some 18)) (v:=?_) (a':=?_) #[true,true,true,true,true,true,true,true,true,true,false,true,false] rfl rfl (by kernel_rfl) (fun _ _ _ h => h) (Or.inl ⟨by rfl,?_⟩) ?_ ?_
      rotate_left
      · (intro w';go_simp;with_reducible rfl)
      rotate_left
      · (simp only [Act.put,List.setIfInBounds_toArray,List.set_cons_zero,List.set_cons_succ];rfl)
      refine pure_ (i:=10) (N:=(some 19)) (v:=?_) (a':=?_) #[true,true,true,true,true,true,true,true,true,true,true,true,false] rfl rfl (by kernel_rfl) (fun _ _ _ h => h) (Or.inl ⟨by rfl,?_⟩) ?_ ?_
      rotate_left
      · (intro w';go_simp;with_reducible rfl)
      rotate_left
      · (simp only [Act.put,List.setIfInBounds_toArray,List.set_cons_zero,List.set_cons_succ];rfl)
      exact hrest () _ rfl
  rintro _ w' rfl
  skip
  skip
  refine norm_ (a':=?_) ?_ ?_
  rotate_left
  · (simp only [putAll,Act.put,List.setIfInBounds_toArray,List.set_cons_zero,List.set_cons_succ];rfl)
  refine ls_ 12 none #[true,true,true,true,true,true,true,true,true,true,true,true,true] (fun K hK => ?_)
  skip
  refine skip_ (w1:=?_) (by rfl) rfl ?_ ?_
  rotate_left
  · (go_simp;first | rfl | (constructor;rfl;rfl))
  refine hK.out _ _ ?_
  clear hK K
  refine done_ (by kernel_rfl) ?_
  go_wp2
  have K4:=Aside0.mk (blk_alloc (blk_new ((W.alloc (.cells #[.slice A1 terms.length c1,.slice A2 names.length c2,.slice A3 n3 c3] 25 (0,0))).alloc (.cells #[.int .i64 a.left.kind,.string a.left.text,.int .i64 a.left.pos,.slice Ar a.right.length cr] 140 (0,0))) (.cells #[.int .i64 0,.slice none 0 0] 46 (0,0))) (.cells #[.int .i64 (terms.length + posF (fun y => decide (a.left.text = y)) names 0),.slice none 0 0] 46 (0,0)))
  have K5:=Aside0.mk (blk_new (((W.alloc (.cells #[.slice A1 terms.length c1,.slice A2 names.length c2,.slice A3 n3 c3] 25 (0,0))).alloc (.cells #[.int .i64 a.left.kind,.string a.left.text,.int .i64 a.left.pos,.slice Ar a.right.length cr] 140 (0,0))).alloc (.cells #[.int .i64 0,.slice none 0 0] 46 (0,0))) (.cells #[.int .i64 (terms.length + posF (fun y => decide (a.left.text = y)) names 0),.slice none 0 0] 46 (0,0)))
  obtain ⟨L,hLeft⟩ : ∃ L : Int,L = (terms.length + posF (fun y => decide (a.left.text = y)) names 0):=⟨_,rfl⟩
  rw [← hLeft] at K4 K5
  have HLeft:=Lib.hid hLeft
  have hw0 : IntKind.i64.wrap ((terms.length : Int) + 0) = terms.length:=by rw [IntKind.wrap_i64];omega
  simp only [← hLeft]
  clear hLeft hw1 hw0
  obtain ⟨RES,hRES⟩ : ∃ r,rightF terms names a.right [] = r:=⟨_,rfl⟩
  have HRES:=Aside0.mk hRES
  have HR0:=Lib.hid hRES
  clear hRES
  go_loopw [23] (fun i wr => ∃ (k : Nat) (acc : List Int) (u : Value),k ≤ a.right.length ∧ i = .int .i64 k ∧ Aside0 (rightF terms names (a.right.drop k) acc = RES) ∧ Aside0 (acc.length ≤ k) ∧ Aside0 (wr.heap[W.heap.size]? = some (.cells #[.slice A1 terms.length c1,.slice A2 names.length c2,.slice A3 n3 c3] 25 (0,0))) ∧ Aside0 (wr.heap[W.heap.size + 1 + 1]? = some (.cells #[.int .i64 0,.slice none 0 0] 46 (0,0))) ∧ Aside0 (wr.heap[W.heap.size + 1 + 1 + 1]? = some (.cells #[.int .i64 L,u] 46 (0,0))) ∧ Aside0 (kInt.R 3 wr W.heap.size (fun _ => True) u acc) ∧ Aside0 (Below W.heap.size W wr)) (fun i _ => a.right.length - (intOf i).toNat)
  case atStart =>
    refine ⟨0,[],.slice none 0 0,Nat.zero_le _,rfl,HRES,⟨Nat.le_refl _⟩,⟨blk_alloc K2.out _⟩,⟨?_⟩,⟨?_⟩,⟨Kd.R_nil _ _ _ _ _⟩,⟨below_drew1 (HB.out.alloc HB.out.size _)⟩⟩
    · have h:=K4.out
      rw [show ((W.alloc (.cells #[.slice A1 terms.length c1,.slice A2 names.length c2,.slice A3 n3 c3] 25 (0,0))).alloc (.cells #[.int .i64 a.left.kind,.string a.left.text,.int .i64 a.left.pos,.slice Ar a.right.length cr] 140 (0,0))).heap.size = W.heap.size + 1 + 1 by simp] at h
      exact blk_drew h
    · have h:=K5.out
      rw [show (((W.alloc (.cells #[.slice A1 terms.length c1,.slice A2 names.length c2,.slice A3 n3 c3] 25 (0,0))).alloc (.cells #[.int .i64 a.left.kind,.string a.left.text,.int .i64 a.left.pos,.slice Ar a.right.length cr] 140 (0,0))).alloc (.cells #[.int .i64 0,.slice none 0 0] 46 (0,0))).heap.size = W.heap.size + 1 + 1 + 1 by simp] at h
      exact blk_drew h
  case round =>
    clear K2 K3 K4 K5 HRES HB
    obtain ⟨k,acc,u,hk,rfl,HE,HA,K2,K4,K5,HU,HB⟩:=hrel
    obtain ⟨Au,cu,rfl⟩:=Kd.R_slice HU.out
    by_cases hlt : k < a.right.length
    · obtain ⟨ad,ead,hx,hy,hz⟩:=at_tok (Kd.C_below HR.out HB.out) k hlt
      cases ead
      obtain ⟨t,ht⟩ : ∃ t,t = a.right[k]'hlt:=⟨_,rfl⟩
      rw [← ht] at hx hy hz
      have hd:=List.drop_eq_getElem_cons hlt
      rw [← ht] at hd
      have he:=HE.out
      rw [hd,rightF] at he
      obtain ⟨tk,tx,tp⟩:=t
      have HS:=Lib.hid he
      clear he hd ht HE
      have hltw : W.heap.size + 1 + 1 + 1 < wr.heap.size:=blk_lt K5.out
      have HT1:=Aside0.mk (Kd.C_below HT.out (HB.out.alloc HB.out.size (.cells #[.int .i64 tk,.string tx,.int .i64 tp] 138 (0,0))))
      have HN1:=Aside0.mk (Kd.C_below HN.out (HB.out.alloc HB.out.size (.cells #[.int .i64 tk,.string tx,.int .i64 tp] 138 (0,0))))
      have J2:=Aside0.mk (blk_alloc K2.out (.cells #[.int .i64 tk,.string tx,.int .i64 tp] 138 (0,0)))
      have J4:=Aside0.mk (blk_alloc K4.out (.cells #[.int .i64 tk,.string tx,.int .i64 tp] 138 (0,0)))
      have J5:=Aside0.mk (blk_alloc K5.out (.cells #[.int .i64 tk,.string tx,.int .i64 tp] 138 (0,0)))
      have J7:=Aside0.mk (blk_new wr (.cells #[.int .i64 tk,.string tx,.int .i64 tp] 138 (0,0)))
      have JB:=Aside0.mk (HB.out.alloc HB.out.size (.cells #[.int .i64 tk,.string tx,.int .i64 tp] 138 (0,0)))
      have JU:=Aside0.mk (Kd.R_alloc HU.out (.cells #[.int .i64 tk,.string tx,.int .i64 tp] 138 (0,0)))
      have j1:=blk_cell J2.out 0
      have j2:=blk_cell J2.out 1
      have j3:=blk_cell J5.out 1
      have j4:=blk_frozen J5.out 1
      simp only [List.getElem?_toArray,List.getElem?_cons_zero,List.getElem?_cons_succ] at j1 j2 j3
      by_cases hq : tk = 2
      · subst hq
        have hs2 : symF terms names ⟨2,tx,tp⟩ = .ok (idxF terms tx):=rfl
        have HS2:=HS.out
        rw [hs2] at HS2
        have HS3:=Aside0.mk HS2
        clear HS2 HS hs2
        go_wp2
        refine start_ (n:=11) (S:=fun w' => w'.heap[W.heap.size]? = some (.cells #[.slice A1 terms.length c1,.slice A2 names.length c2,.slice A3 n3 c3] 25 (0,0)) ∧ w'.heap[W.heap.size + 1 + 1 + 1]? = some (.cells #[.int .i64 L,.slice Au acc.length cu] 46 (0,0)) ∧ w'.heap[wr.heap.size]? = some (.cells #[.int .i64 2,.string tx,.int .i64 tp] 138 (0,0))) (ds:=[8,10]) #[false,false,false,false,false,false,false,false,false,false,false] (by kernel_rfl) rfl rfl (⟨blk_drew J2.out,blk_drew J5.out,blk_drew J7.out⟩) (fun hHeld => ?_)
        refine pu_ ?_ ?_ 0 (some 30) #[true,false,false,false,false,false,false,false,false,false,false] ?_
        refine pu_ ?_ ?_ 2 (some 32) #[true,false,true,false,false,false,false,false,false,false,false] ?_
        refine pu_ ?_ ?_ 4 (some 34) #[true,false,true,false,true,false,false,false,false,false,false] ?_
        refine ta_ ?_ ?_ 1 (some 31) #[true,true,true,false,true,false,false,false,false,false,false] hHeld ?_ (y:=by rintro w' ⟨s0,s1,s2⟩;have d0:=blk_cell s0 0;have d1:=blk_cell s1 1;have d2:=blk_cell s2 1;simp only [List.getElem?_toArray,List.getElem?_cons_zero,List.getElem?_cons_succ] at d0 d1 d2;go_simp;with_reducible rfl)
        refine ta_ ?_ ?_ 3 (some 33) #[true,true,true,true,true,false,false,false,false,false,false] hHeld ?_ (y:=by rintro w' ⟨s0,s1,s2⟩;have d0:=blk_cell s0 0;have d1:=blk_cell s1 1;have d2:=blk_cell s2 1;simp only [List.getElem?_toArray,List.getElem?_cons_zero,List.getElem?_cons_succ] at d0 d1 d2;go_simp;with_reducible rfl)
        refine ta_ ?_ ?_ 5 (some 35) #[true,true,true,true,true,true,false,false,false,false,false] hHeld ?_ (y:=by rintro w' ⟨s0,s1,s2⟩;have d0:=blk_cell s0 0;have d1:=blk_cell s1 1;have d2:=blk_cell s2 1;simp only [List.getElem?_toArray,List.getElem?_cons_zero,List.getElem?_cons_succ] at d0 d1 d2;go_simp;with_reducible rfl)
        refine on_ 6 (some 36) #[true,true,true,true,true,true,true,false,false,false,false] (fun K hK => ?_)
        (refine goes_ Try.func95 (by kernel_rfl) rfl #[.slice A1 terms.length c1,.string tx] (by rfl) rfl rfl (by simp [Act.eval]) ?_;refine (indexStr_c _ _ _ _ _ (Kd.C_below HT1.out (below_drew1 (Below.refl _ _)))).mono ?_;rintro e w' ⟨rfl,rfl⟩;refine ⟨_,rfl,?_⟩;refine hK.out _ _ hHeld (fun hHeld => ?_))
        clear hK K
        refine nm_ ?_ (some 36) ?_
        refine on_ 7 (some 37) #[true,true,true,true,true,true,true,true,false,false,false] (fun K hK => ?_)
        refine va_ ?_ ?_ ?_
        refine hK.out _ _ (⟨blk_alloc hHeld.1 _,blk_alloc hHeld.2.1 _,blk_alloc hHeld.2.2 _⟩) (fun hHeld => ?_)
        clear hK K
        refine nm_ ?_ (some 37) ?_
        refine ls_ 8 (some 38) #[true,true,true,true,true,true,true,true,true,false,false] (fun K hK => ?_)
        (refine app_int_step (w0:=W) (base:=W.heap.size) (ok:=fun _ => True) (xs:=acc) (p:=posF (fun y => decide (tx = y)) terms 0) (by rfl) rfl (Kd.R_drew JU.out) (below_drew1 JB.out) JB.out.size (by have:=HA.out;omega) (fun _ _ => trivial) (by simp [Act.eval]) (by simp [Act.eval]) ?_;intro v3 w3 A3;obtain ⟨Av3,cv3,rfl⟩:=A3.shape;have e1:=blk_grown (blk_drew J5.out) A3.grown (Kd.R_ne (Kd.R_drew JU.out) (blk_drew J5.out) (by decide));have E1:=Aside0.mk e1;have E2:=Aside0.mk (blk_grown (blk_drew J2.out) A3.grown (Kd.R_ne (Kd.R_drew JU.out) (blk_drew J2.out) (by decide)));have E4:=Aside0.mk (blk_grown (blk_drew J4.out) A3.grown (Kd.R_ne (Kd.R_drew JU.out) (blk_drew J4.out) (by decide)));have e4:=blk_cell e1 1;have e5:=blk_frozen e1 1;simp only [List.getElem?_toArray,List.getElem?_cons_zero,List.getElem?_cons_succ] at e4;have A3':=Aside0.mk A3;clear A3 e1)
        refine hK.out _ _ ?_
        clear hK K
        refine nm_ ?_ (some 38) ?_
        refine pu_ ?_ ?_ 9 (some 39) #[true,true,true,true,true,true,true,true,true,true,false] ?_
        refine ls_ 10 none #[true,true,true,true,true,true,true,true,true,true,true] (fun K hK => ?_)
        skip
        refine skip_ (w1:=?_) (by rfl) rfl ?_ ?_
        rotate_left
        · (go_simp;first | rfl | (constructor;rfl;rfl))
        refine hK.out _ _ ?_
        clear hK K
        refine done_ (by kernel_rfl) ?_
        go_wp2
        go_roundw
        case rel =>
          refine ⟨k + 1,acc ++ [idxF terms tx],_,by omega,by go_num,HS3,⟨by have:=HA.out;simp;omega⟩,⟨blk_far E2.out (by show W.heap.size ≠ W.heap.size + 1 + 1 + 1;omega) _⟩,⟨blk_far E4.out (by show W.heap.size + 1 + 1 ≠ W.heap.size + 1 + 1 + 1;omega) _⟩,⟨blk_set E1.out 1 _⟩,⟨Kd.R_set A3'.out.row E1.out (by decide) 1 _⟩,⟨below_set A3'.out.below (by omega) _ _⟩⟩
        case measure => simp [intOf];omega
      · have j5:=blk_cell J7.out 0
        have j6:=blk_cell J7.out 1
        have j7:=blk_cell J7.out 2
        simp only [List.getElem?_toArray,List.getElem?_cons_zero,List.getElem?_cons_succ] at j5 j6 j7
        have hge:=idxF_ge names tx
        by_cases hneg : idxF names tx < 0
        · have hs2 : symF terms names ⟨tk,tx,tp⟩ = .error (13,tp):=by unfold symF;rw [if_neg hq,if_pos hneg]
          have HS2:=HS.out
          rw [hs2] at HS2
          have HS3:=Lib.hid HS2
          clear HS2 HS hs2 hge
          unfold idxF at hneg
          go_wp2_with (go_at_call 95;refine (indexStr_c _ _ _ _ _ HN1.out).mono ?_;rintro e w' ⟨rfl,rfl⟩)
          refine ⟨rfl,?_,JB.out⟩
          unfold numF
          rw [HR0.out,← HS3.out]
          rfl
        · have hs2 : symF terms names ⟨tk,tx,tp⟩ = .ok (terms.length + idxF names tx):=by unfold symF;rw [if_neg hq,if_neg hneg]
          have HS2:=HS.out
          rw [hs2] at HS2
          have HS3:=Aside0.mk HS2
          clear HS2 HS hs2
          have hw2 : IntKind.i64.wrap ((terms.length : Int) + posF (fun y => decide (tx = y)) names 0) = (terms.length : Int) + posF (fun y => decide (tx = y)) names 0:=by
            have h2:=idxF_ge names tx
            unfold idxF at h2
            rw [IntKind.wrap_i64]
            omega
          unfold idxF at hneg
          clear hge
          go_wp2_with (first | (go_at_call 95;refine (indexStr_c _ _ _ _ _ HN1.out).mono ?_;rintro e w' ⟨rfl,rfl⟩) | (at_builtin;refine app_int (w0:=W) (base:=W.heap.size) (ok:=fun _ => True) (xs:=acc) (p:=(terms.length : Int) + posF (fun y => decide (tx = y)) names 0) rfl rfl JU.out JB.out JB.out.size (by have:=HA.out;omega) (fun _ _ => trivial) (by simp [Act.eval]) (by simp [Act.eval]) ?_;intro v3 w3 A3;obtain ⟨Av3,cv3,rfl⟩:=A3.shape;have e1:=blk_grown J5.out A3.grown (Kd.R_ne JU.out J5.out (by decide));have E1:=Aside0.mk e1;have E2:=Aside0.mk (blk_grown J2.out A3.grown (Kd.R_ne JU.out J2.out (by decide)));have E4:=Aside0.mk (blk_grown J4.out A3.grown (Kd.R_ne JU.out J4.out (by decide)));have e4:=blk_cell e1 1;have e5:=blk_frozen e1 1;simp only [List.getElem?_toArray,List.getElem?_cons_zero,List.getElem?_cons_succ] at e4;have A3':=Aside0.mk A3;clear A3 e1))
          go_roundw
          case rel =>
            refine ⟨k + 1,acc ++ [(terms.length : Int) + idxF names tx],_,by omega,by go_num,HS3,⟨by have:=HA.out;simp;omega⟩,⟨blk_far E2.out (by show W.heap.size ≠ W.heap.size + 1 + 1 + 1;omega) _⟩,⟨blk_far E4.out (by show W.heap.size + 1 + 1 ≠ W.heap.size + 1 + 1 + 1;omega) _⟩,⟨blk_set E1.out 1 _⟩,⟨Kd.R_set A3'.out.row E1.out (by decide) 1 _⟩,⟨below_set A3'.out.below (by omega) _ _⟩⟩
          case measure => simp [intOf];omega
    · have j1:=blk_cell K5.out 0
      have j2:=blk_cell K5.out 1
      have j3:=blk_cell K4.out 0
      have j4:=blk_cell K4.out 1
      have j5:=blk_frozen K4.out 0
      have j6:=blk_frozen K4.out 1
      simp only [List.getElem?_toArray,List.getElem?_cons_zero,List.getElem?_cons_succ] at j1 j2 j3 j4
      go_wp2
      have hR : RES = .ok acc:=by rw [← HE.out,List.drop_eq_nil_of_le (by omega)];rfl
      refine bodyPost_ret (results_num rfl (blk_set (blk_set K4.out 0 _) 1 _)) rfl ⟨?_,below_set (below_set HB.out (by omega) _ _) (by omega) _ _⟩
      unfold numF
      rw [HR0.out,hR]
      refine ⟨_,by rw [HLeft.out];rfl,?_⟩
      exact Kd.R_set (Kd.R_set HU.out K4.out (by decide) _ _) (blk_set K4.out 0 _) (by decide) _ _
end Go.Proofs.Ytmkgcjhimajgiaa


set_option linter.unusedVariables false
set_option linter.unusedSimpArgs false
namespace Go.Proofs.Ytmkgcjhimajgiaa
open Go.RowKit Go.Proofs.YtmkgcjhimajgiaaW.PrintWords

set_option maxRecDepth 100000 in
set_option maxHeartbeats 1000000 in
theorem tokRec_panicking (bp bq : Nat) (v : Value) (x y at_ : Int) (older : List PanicEntry) (w w0 : World) (B : Nat) (hp : w.heap[bp]? = some (.cells #[v] 130 (0,0))) (hq : w.heap[bq]? = some (.cells #[.int .i64 x,.int .i64 y] 89 (0,0))) (hpq : bp ≠ bq) (hBp : B ≤ bp) (hBq : B ≤ bq) (hb : Below B w0 w) :
    CallsD Try.prog 89 #[.pointer (some ⟨bp,0,none⟩),.pointer (some ⟨bq,0,none⟩)] (.panicking ({ v:=.iface 154 (.agg #[.int .i64 at_]),recovered:=false } :: older)) w fun e u' w' =>
      e = .returned (.tuple #[]) ∧ u' = .panicking ({ v:=.iface 154 (.agg #[.int .i64 at_]),recovered:=true } :: older) ∧ w'.heap[bp]? = some (.cells #[.slice none 0 0] 130 (0,0)) ∧ w'.heap[bq]? = some (.cells #[.int .i64 11,.int .i64 at_] 89 (0,0)) ∧ Below B w0 w':=by
  have hta : ∀ w,(Instr.typeAssert (.iface 154 (.agg #[.int .i64 at_])) 20 154 true).run Try.prog w = .ok (.tuple #[.agg #[.int .i64 at_],.bool true]) w:=fun w => by kernel_rfl
  have n1 : ¬ bp = w.heap.size:=by have:=blk_lt hp;omega
  have n2 : ¬ bq = w.heap.size:=by have:=blk_lt hq;omega
  have n3 : ¬ w.heap.size = bp:=fun h => n1 h.symm
  have n4 : ¬ w.heap.size = bq:=fun h => n2 h.symm
  have n5 : ¬ bp = bq:=hpq
  have n6 : ¬ bq = bp:=fun h => hpq h.symm
  have hp1:=blk_alloc hp (.cells #[.int .i64 at_] 154 (0,0))
  have hq1:=blk_alloc hq (.cells #[.int .i64 at_] 154 (0,0))
  have hb1:=hb.alloc (by have:=blk_lt hp;omega : B ≤ w.heap.size) (.cells #[.int .i64 at_] 154 (0,0))
  have HP1:=Aside0.mk hp1
  have HQ1:=Aside0.mk hq1
  have HB1:=Aside0.mk hb1
  have c1:=blk_cell hp1 0
  have c2:=blk_cell hq1 0
  have c3:=blk_cell hq1 1
  have f1:=blk_frozen hp1 0
  have f2:=blk_frozen hq1 0
  have f3:=blk_frozen hq1 1
  clear hp hq hb hp1 hq1 hb1
  simp only [List.getElem?_toArray,List.getElem?_cons_zero,List.getElem?_cons_succ] at c1 c2 c3
  refine callsD_of_wpS Try.func89 rfl fun c₀ cs hu => ?_
  apply wpS_seq
  apply wpS_region
  simp [wpOpsS,go_sem,recoverD,hu,Try.ntmps89,Exit.thenS]
  refine wpS_of_wp ?_
  simp only [Array.replicate_succ,Array.replicate_zero,List.push_toArray,List.append_toArray,List.nil_append,List.cons_append,List.setIfInBounds_toArray,List.set_cons_zero,List.set_cons_succ]
  go_wp2
  go_region
  all_goals
    go_wp2
    refine ⟨rfl,_,rfl,.tuple #[],results_none rfl _ _ _,rfl,rfl,?_,?_,?_⟩
    · exact blk_far (blk_far (blk_set HP1.out 0 _) hpq _) hpq _
    · exact blk_set (blk_set (blk_far HQ1.out (fun h => hpq h.symm) _) 0 _) 1 _
    · exact below_set (below_set (below_set HB1.out.drew hBp _ _) hBq _ _) hBq _ _

set_option maxRecDepth 100000 in
theorem tokRec_idle (p q : Option Addr) (w : World) :
    CallsD Try.prog 89 #[.pointer p,.pointer q] .returning w fun e u' w' => e = .returned (.tuple #[]) ∧ u' = .returning ∧ w = w':=by
  refine callsD_of_wpS Try.func89 rfl fun c₀ cs hu => ?_
  apply wpS_seq
  apply wpS_region
  simp [wpOpsS,go_sem,recoverD,hu,Try.ntmps89,Exit.thenS]
  refine wpS_of_wp ?_
  simp only [Array.replicate_succ,Array.replicate_zero,List.push_toArray,List.append_toArray,List.nil_append,List.cons_append,List.setIfInBounds_toArray,List.set_cons_zero,List.set_cons_succ]
  go_wp2
  exact ⟨rfl,_,by cases c₀;simp_all,.tuple #[],results_none rfl _ _ _,rfl,rfl,rfl⟩

/-- Tokens one behind the other,from a place on at which one begins. -/
def toksF : Nat → Nat → List UInt8 → List Tok → Except Nat (List Tok)
  | 0,at_,_,_ => .error at_
  | _ + 1,_,[],acc => .ok acc
  | k + 1,at_,c :: r,acc =>
    match tokenF (c :: r) at_ with
    | none => .error at_
    | some (t,n) => toksF k (at_ + n + skipF false ((c :: r).drop n)) (((c :: r).drop n).drop (skipF false ((c :: r).drop n))) (acc ++ [t])
inductive LexR where
  | large
  | wrong (at_ : Nat)
  | ok (l : List Tok)
def lexF (l : List UInt8) : LexR :=
  if 2000 < l.length then .large else
  match toksF (l.length + 1) (skipF false l) (l.drop (skipF false l)) [] with
  | .error at_ => .wrong at_
  | .ok l => .ok l

theorem toksF_some {k : Nat} {at_ : Nat} {l : List UInt8} {acc : List Tok} {t : Tok} {n : Nat} (h : tokenF l at_ = some (t,n)) : toksF (k + 1) at_ l acc = toksF k (at_ + n + skipF false (l.drop n)) ((l.drop n).drop (skipF false (l.drop n))) (acc ++ [t]):=by
  cases l with
  | nil => cases h
  | cons c r => simp only [toksF,h]
theorem toksF_none {k : Nat} {at_ : Nat} {l : List UInt8} {acc : List Tok} (hl : l ≠ []) (h : tokenF l at_ = none) : toksF (k + 1) at_ l acc = .error at_:=by
  cases l with
  | nil => exact absurd rfl hl
  | cons c r => simp only [toksF,h]
theorem tokenF_bound {l : List UInt8} {at_ : Int} {t : Tok} {n : Nat} (h : tokenF l at_ = some (t,n)) : 0 < n ∧ n ≤ l.length:=by
  cases l with
  | nil => cases h
  | cons c r =>
    rw [tokenF_cons] at h
    split at h
    · rename_i hc
      split at h
      · injection h with h
        injection h with _ h
        subst h
        refine ⟨?_,runF_le _ _⟩
        exact runF_ge (by simp) (fun j hj hj1 => by obtain rfl : j = 0:=by omega
                                                    simp [innerB,hc])
      · cases h
    · split at h
      · split at h
        · rename_i h2
          injection h with h
          injection h with _ h
          subst h
          refine ⟨by omega,?_⟩
          rcases Nat.lt_or_ge (runF r insideB) r.length with h3 | h3
          · simp;omega
          · rw [List.getElem?_eq_none h3] at h2
            cases h2.2
        · cases h
      · split at h
        · cases h
        · injection h with h
          injection h with _ h
          subst h
          simp

def ToksEnd (r : Except Nat (List Tok)) (w : World) (e : Ending) (w' : World) : Prop :=
  match r with
  | .error at_ => e = .returned (.tuple #[.slice none 0 0,.agg #[.int .i64 11,.int .i64 at_]])
  | .ok l => ∃ v,e = .returned (.tuple #[v,.agg #[.int .i64 0,.int .i64 0]]) ∧ kTok.R 138 w' w.heap.size (fun _ => True) v l

theorem results_tokens {tmps : Array Value} {W : World} {g g' : Nat} {A : Option Addr} {n c : Nat} {x y : Int} (t2 : tmps.getD 2 undef = .pointer (some ⟨g,0,none⟩)) (t3 : tmps.getD 3 undef = .pointer (some ⟨g',0,none⟩))
    (h : W.heap[g]? = some (.cells #[.slice A n c] 130 (0,0))) (h' : W.heap[g']? = some (.cells #[.int .i64 x,.int .i64 y] 89 (0,0))) :
    (results Try.f70 tmps).run Try.prog W = .ok (.tuple #[.slice A n c,.agg #[.int .i64 x,.int .i64 y]]) W:=by
  have d1:=blk_cell h 0
  have d2:=blk_cell h' 0
  have d3:=blk_cell h' 1
  simp only [List.getElem?_toArray,List.getElem?_cons_zero,List.getElem?_cons_succ] at d1 d2 d3
  simp only [Array.getD_eq_getD_getElem?] at t2 t3
  simp [results,Try.results70,go_sem,d1,d2,d3,t2,t3]
set_option maxRecDepth 100000 in
set_option maxHeartbeats 4000000 in
theorem tokens_c (s : ByteArray) (w : World) (hs : s.size ≤ 2000) : Calls Try.prog 70 #[.string s] w fun e w' =>
    ToksEnd (toksF ((bsl s).length + 1) (skipF false (bsl s)) ((bsl s).drop (skipF false (bsl s))) []) w e w' ∧ Below w.heap.size w w':=by
  have hm : s.size ≤ maxLen:=by unfold maxLen;omega
  have hl:=size_data s
  have hk0:=skipF_le false (bsl s)
  have hmf : ∀ (fn : Fn) (first cap : Array Value) (w : World),(Instr.makeFunc fn first cap).run Try.prog w = .ok (.func fn first cap) w:=fun _ _ _ _ => rfl
  obtain ⟨RES,hRES⟩ : ∃ r,r = toksF ((bsl s).length + 1) (skipF false (bsl s)) ((bsl s).drop (skipF false (bsl s))) []:=⟨_,rfl⟩
  rw [← hRES]
  have HRES:=Aside0.mk hRES
  clear hRES
  have HK0:=Aside0.mk hk0
  have HL:=Aside0.mk hl
  clear hk0 hl
  go_enter_defers Try.func70,Try.ntmps70
  go_wp2_with (go_at_call 90;refine (skipped_c _ _ hm).mono ?_;rintro e w' ⟨rfl,rfl⟩)
  go_loopw [4] (fun i wr => ∃ (k : Nat) (acc : List Tok) (v : Value) (fuel : Nat),k ≤ s.size ∧ i = .int .i64 k ∧ Aside0 (toksF fuel k ((bsl s).drop k) acc = RES) ∧ Aside0 (acc.length ≤ k) ∧ Aside0 (s.size - k < fuel) ∧
      Aside0 (wr.heap[w.heap.size]? = some (.cells #[v] 130 (0,0))) ∧ Aside0 (wr.heap[w.heap.size + 1]? = some (.cells #[.int .i64 0,.int .i64 0] 89 (0,0))) ∧ Aside0 (kTok.R 138 wr w.heap.size (fun _ => True) v acc) ∧ Aside0 (Below w.heap.size w wr)) (fun i _ => s.size - (intOf i).toNat)
  case atStart => exact ⟨skipF false (bsl s),[],.slice none 0 0,(bsl s).length + 1,by have:=HK0.out;have:=HL.out;omega,rfl,⟨HRES.out.symm⟩,⟨Nat.zero_le _⟩,⟨by have:=HL.out;omega⟩,⟨blk_alloc (blk_new w _) _⟩,⟨by simpa using blk_new (w.alloc (.cells #[.slice none 0 0] 130 (0,0))) (.cells #[.int .i64 0,.int .i64 0] 89 (0,0))⟩,⟨Kd.R_nil _ _ _ _ _⟩,⟨((Below.refl _ _).alloc (Nat.le_refl _) _).alloc (by simp) _⟩⟩
  case round =>
    obtain ⟨k,acc,v,fuel,hk,rfl,HT,HA,HF,HP,HQ,HR,HB⟩:=hrel
    obtain ⟨A,c,rfl⟩:=Kd.R_slice HR.out
    by_cases hlt : k < s.size
    · have HX:=Lib.hid (bsl_drop s k)
      have hxs:=extract_to_size s k hk
      have hx0 : 0 < (s.extract k s.size).size:=by omega
      have hxm : (s.extract k s.size).size ≤ maxLen:=by unfold maxLen;omega
      clear hxs
      cases hT : tokenF ((bsl s).drop k) k with
      | none =>
        have HTN:=Aside0.mk hT
        clear hT
        go_wp2_with (go_at_call 91;refine (token_c _ _ _ hxm hx0).mono ?_;rw [HX.out,HTN.out];rintro e w1 ⟨rfl,hb1⟩)
        have hP:=blk_below HP.out hb1
        have hQ:=blk_below HQ.out hb1
        have hB:=below_then HB.out HB.out.size hb1
        refine leaves_cons (f:=89) (args:=#[.pointer (some ⟨w.heap.size,0,none⟩),.pointer (some ⟨w.heap.size + 1,0,none⟩)]) (by simp) (by simp [go_sem]) ?_
        refine (tokRec_panicking _ _ _ _ _ _ [] _ w w.heap.size hP hQ (by omega) (Nat.le_refl _) (by omega) hB).mono ?_
        rintro e u' w'' ⟨rfl,rfl,hP2,hQ2,hB2⟩
        refine ⟨_,results_tokens rfl rfl hP2 hQ2,?_,hB2⟩
        obtain ⟨f',rfl⟩ : ∃ m,fuel = m + 1:=⟨fuel - 1,by have:=HF.out;omega⟩
        have hR : RES = .error k:=by rw [← HT.out];exact toksF_none (fun h => by have h2:=congrArg List.length h;have:=HL.out;rw [List.length_drop] at h2;simp at h2;omega) HTN.out
        rw [hR]
        rfl
      | some p =>
        obtain ⟨t,n⟩:=p
        have HTN:=Aside0.mk hT
        clear hT
        have hnb:=tokenF_bound HTN.out
        rw [List.length_drop,HL.out] at hnb
        have hkn : k + n ≤ s.size:=by omega
        have hX2:=bsl_drop s (k + n)
        rw [← List.drop_drop] at hX2
        have HX2:=Lib.hid hX2
        have hx2:=extract_to_size s (k + n) hkn
        have hx2m : (s.extract (k + n) s.size).size ≤ maxLen:=by unfold maxLen;omega
        have HNB:=Aside0.mk hnb
        have hsk:=skipF_le false (bsl (s.extract (k + n) s.size))
        rw [size_data,hx2] at hsk
        have hsk2 : k + n + skipF false (bsl (s.extract (k + n) s.size)) ≤ s.size:=by omega
        clear hsk
        clear hX2 hx2 hnb
        go_wp2_with (first | (go_at_call 91;refine (token_c _ _ _ hxm hx0).mono ?_;rw [HX.out,HTN.out];rintro e w1 ⟨rfl,hb1⟩;have P1:=Aside0.mk (blk_alloc (blk_below HP.out hb1) (.cells #[.int .i64 t.kind,.string t.text,.int .i64 t.pos] 138 (0,0)));have Q1:=Aside0.mk (blk_alloc (blk_below HQ.out hb1) (.cells #[.int .i64 t.kind,.string t.text,.int .i64 t.pos] 138 (0,0)));have B1:=Aside0.mk (below_then HB.out HB.out.size hb1);have R1:=Aside0.mk (Kd.R_below HR.out hb1);clear hb1;have c1:=blk_cell P1.out 0;simp only [List.getElem?_toArray,List.getElem?_cons_zero] at c1) | (go_at_call 90;refine (skipped_c _ _ hx2m).mono ?_;rintro e w' ⟨rfl,rfl⟩) | (at_builtin;refine app_tok (p:=t) rfl rfl (Kd.R_below R1.out (below_alloc (Below.refl _ _) _)) (below_alloc B1.out _) (by have:=B1.out.size;simp;omega) (by have:=HA.out;omega) (fun _ _ => trivial) rfl (by simp [Act.eval]) ?_;intro v2 w2 A2;obtain ⟨A',c',rfl⟩:=A2.shape;have P2:=Aside0.mk (blk_grown P1.out A2.grown (Kd.R_ne (Kd.R_below R1.out (below_alloc (Below.refl _ _) _)) P1.out (by decide)));have A2':=Aside0.mk A2;clear A2;have f1:=blk_frozen P2.out 0;have c5:=blk_cell P2.out 0;simp only [List.getElem?_toArray,List.getElem?_cons_zero] at c5))
        go_roundw
        case rel =>
          have hne : w.heap.size ≠ w.heap.size + 1:=by omega
          have hne2 : some (w.heap.size + 1) ≠ (Value.slice A acc.length c).ownBlock:=Kd.R_ne (Kd.R_below R1.out (below_alloc (Below.refl _ _) _)) Q1.out (by decide)
          obtain ⟨f',rfl⟩ : ∃ m,fuel = m + 1:=⟨fuel - 1,by have:=HF.out;omega⟩
          refine ⟨k + n + skipF false (bsl (s.extract (k + n) s.size)),acc ++ [t],_,f',by omega,by go_num,⟨?_⟩,⟨?_⟩,⟨?_⟩,⟨blk_set P2.out 0 _⟩,⟨blk_far (blk_grown Q1.out A2'.out.grown hne2) hne.symm _⟩,⟨Kd.R_set A2'.out.row P2.out (by decide) _ _⟩,⟨below_set A2'.out.below (Nat.le_refl _) _ _⟩⟩
          · have h:=toksF_some (k:=f') (acc:=acc) HTN.out
            rw [← HX2.out] at h
            rw [← HT.out,h,bsl_drop,List.drop_drop]
          · rw [List.length_append,List.length_singleton]
            have:=HA.out
            have:=HNB.out
            omega
          · have:=HF.out
            have:=HNB.out
            omega
        case measure => have:=HNB.out;simp [intOf];omega
    · have c1:=blk_cell HP.out 0
      have c2:=blk_cell HQ.out 0
      have c3:=blk_cell HQ.out 1
      have f1:=blk_frozen HP.out 0
      have f2:=blk_frozen HQ.out 0
      have f3:=blk_frozen HQ.out 1
      simp only [List.getElem?_toArray,List.getElem?_cons_zero,List.getElem?_cons_succ] at c1 c2 c3
      go_wp2
      refine leaves_cons (f:=89) (args:=#[.pointer (some ⟨w.heap.size,0,none⟩),.pointer (some ⟨w.heap.size + 1,0,none⟩)]) (by simp) (by simp [go_sem]) ?_
      refine (tokRec_idle _ _ _).mono ?_
      rintro e u' w'' ⟨rfl,rfl,rfl⟩
      have hne : w.heap.size ≠ w.heap.size + 1:=by omega
      refine ⟨_,results_tokens rfl rfl (blk_far (blk_far (blk_set HP.out 0 _) hne _) hne _) (blk_set (blk_set (blk_far HQ.out hne.symm _) 0 _) 1 _),?_,?_⟩
      · obtain ⟨f',rfl⟩ : ∃ m,fuel = m + 1:=⟨fuel - 1,by have:=HF.out;omega⟩
        have hR : RES = .ok acc:=by rw [← HT.out,List.drop_eq_nil_of_le (by have:=HL.out;omega)];rfl
        rw [hR]
        refine ⟨_,rfl,?_⟩
        exact Kd.R_set (Kd.R_set (Kd.R_set HR.out HP.out (by decide) _ _) (blk_far HQ.out hne.symm _) (by decide) _ _) (blk_set (blk_far HQ.out hne.symm _) 0 _) (by decide) _ _
      · exact below_set (below_set (below_set HB.out (Nat.le_refl _) _ _) (by omega) _ _) (by omega) _ _

set_option maxRecDepth 100000 in
set_option maxHeartbeats 1000000 in
theorem tokens_large (s : ByteArray) (w : World) (hs : 2000 < s.size) : Calls Try.prog 70 #[.string s] w fun e w' =>
    e = .returned (.tuple #[.slice none 0 0,.agg #[.int .i64 14,.int .i64 0]]) ∧ Below w.heap.size w w':=by
  go_enter_defers Try.func70,Try.ntmps70
  go_wp2
  refine ⟨_,results_tokens rfl rfl (blk_alloc (blk_new w _) _) (by simpa using blk_new (w.alloc (.cells #[.slice none 0 0] 130 (0,0))) (.cells #[.int .i64 14,.int .i64 0] 89 (0,0))),rfl,?_⟩
  exact ((Below.refl _ _).alloc (Nat.le_refl _) _).alloc (by simp) _
end Go.Proofs.Ytmkgcjhimajgiaa


set_option linter.unusedVariables false
set_option linter.unusedSimpArgs false
namespace Go.Proofs.Ytmkgcjhimajgiaa
open Go.RowKit Go.Proofs.YtmkgcjhimajgiaaW.PrintWords Go.Proofs.YtmkgcjhimajgiaaW.PrintLast

def lexE (s : ByteArray) : Except (Int × Int) (List Tok) :=
  if 2000 < s.size then .error (14,0) else
  match toksF ((bsl s).length + 1) (skipF false (bsl s)) ((bsl s).drop (skipF false (bsl s))) [] with
  | .error p => .error (11,p)
  | .ok l => .ok l
/-- The terminals of a row of tokens,behind those that are there. -/
def quotesF : List Tok → List ByteArray → List ByteArray
  | [],ts => ts
  | t :: r,ts => quotesF r (if t.kind = 2 then addF ts t.text else ts)
def gatherF : List Alt → List ByteArray → List ByteArray → List ByteArray × List ByteArray
  | [],ts,ns => (ts,ns)
  | a :: r,ts,ns => gatherF r (quotesF a.right ts) (addF ns a.left.text)
def pushF (l : List Rule) (x : Rule) : List Rule:=if (l.any fun y => decide (y = x)) = true then l else l ++ [x]
def rulesF (ts ns : List ByteArray) : List Alt → List Rule → Except (Int × Int) (List Rule)
  | [],acc => .ok acc
  | a :: r,acc => match numF ts ns a with
    | .error e => .error e
    | .ok x => rulesF ts ns r (pushF acc x)
def grammF (alts : List Alt) : Except (Int × Int) Gram :=
  match rulesF (gatherF alts [] []).1 (gatherF alts [] []).2 alts [] with
  | .error e => .error e
  | .ok rs => if 40 < (gatherF alts [] []).2.length ∨ 40 < (gatherF alts [] []).1.length then .error (14,0) else .ok ⟨(gatherF alts [] []).1,(gatherF alts [] []).2,rs⟩
def ofF (s : ByteArray) : Except (Int × Int) Gram :=
  match lexE s with
  | .error e => .error e
  | .ok l => match readF s.size l with
    | .error e => .error e
    | .ok alts => grammF alts

theorem toksF_len : ∀ {k at_ : Nat} {l : List UInt8} {acc r : List Tok},toksF k at_ l acc = .ok r → r.length ≤ acc.length + l.length:=by
  intro k
  induction k with
  | zero => intro at_ l acc r h;cases h
  | succ k ih =>
    intro at_ l acc r h
    cases l with
    | nil => injection h with h;subst h;simp
    | cons c t =>
      cases hT : tokenF (c :: t) at_ with
      | none => rw [toksF_none (by simp) hT] at h;cases h
      | some q =>
        obtain ⟨x,n⟩:=q
        rw [toksF_some hT] at h
        have h1:=ih h
        have h2:=tokenF_bound hT
        rw [List.length_append,List.length_singleton,List.length_drop,List.length_drop] at h1
        omega
theorem lexE_len {s : ByteArray} {l : List Tok} (h : lexE s = .ok l) : l.length ≤ 2000 ∧ s.size ≤ 2000:=by
  unfold lexE at h
  split at h
  · cases h
  · rename_i hs
    split at h
    · cases h
    · rename_i l' hl
      injection h with h
      subst h
      have h1:=toksF_len hl
      have h2:=size_data s
      rw [List.length_drop] at h1
      simp only [List.length_nil] at h1
      omega
def Short (alts : List Alt) : Prop:=∀ a ∈ alts,a.right.length ≤ 8
theorem Short.push {alts : List Alt} {a : Alt} (h : Short alts) (ha : a.right.length ≤ 8) : Short (alts ++ [a]):=by
  intro x hx
  rcases List.mem_append.1 hx with hx | hx
  · exact h x hx
  · rw [List.mem_singleton.1 hx];exact ha
theorem altsF_short {en : Int} {left : Tok} : ∀ {k : Nat} {l : List Tok} {out : List Alt} {r : List Tok} {out' : List Alt},altsF en left k l out = .ok (r,out') → Short out → Short out':=by
  intro k
  induction k with
  | zero => intro l out r out' h;cases h
  | succ k ih =>
    intro l out r out' h hs
    unfold altsF at h
    split at h
    · cases h
    · rename_i right more r1 ha
      split at h
      · cases h
      · rename_i hn
        have hp : Short (out ++ [⟨left,right⟩]):=hs.push (by show right.length ≤ 8;omega)
        split at h
        · exact ih h hp
        · injection h with h
          injection h with h2 h3
          subst h3
          exact hp
theorem defF_short {en : Int} {l : List Tok} {out : List Alt} {r : List Tok} {out' : List Alt} (h : defF en l out = .ok (r,out')) (hs : Short out) : Short out':=by
  unfold defF at h
  split at h
  · cases h
  · split at h
    · split at h
      · cases h
      · split at h
        · exact altsF_short h hs
        · cases h
    · cases h
theorem restF_short {en : Int} : ∀ {k : Nat} {l : List Tok} {out out' : List Alt},restF en k l out = .ok out' → Short out → out.length ≤ 60 → Short out' ∧ out'.length ≤ 60:=by
  intro k
  induction k with
  | zero =>
    intro l out out' h hs hl
    cases l with
    | nil => injection h with h;subst h;exact ⟨hs,hl⟩
    | cons t r => cases h
  | succ k ih =>
    intro l out out' h hs hl
    cases l with
    | nil => injection h with h;subst h;exact ⟨hs,hl⟩
    | cons t r =>
      unfold restF at h
      split at h
      · cases h
      · rename_i r' o' hd
        exact ih h (defF_short hd hs) (defF_le hd).2
theorem readF_short {en : Int} {l : List Tok} {out : List Alt} (h : readF en l = .ok out) : Short out ∧ out.length ≤ 60:=by
  unfold readF at h
  split at h
  · cases h
  · rename_i r o hd
    exact restF_short h (defF_short hd (fun a ha => by cases ha)) (defF_le hd).2
theorem quotesF_len : ∀ (r : List Tok) (ts : List ByteArray),(quotesF r ts).length ≤ ts.length + r.length
  | [],ts => by simp [quotesF]
  | t :: r,ts => by
    unfold quotesF
    have h:=quotesF_len r (if t.kind = 2 then addF ts t.text else ts)
    have h2:=addF_le ts t.text
    by_cases hk : t.kind = 2
    · rw [if_pos hk] at h ⊢
      simp only [List.length_cons]
      omega
    · rw [if_neg hk] at h ⊢
      simp only [List.length_cons]
      omega
theorem gatherF_len : ∀ (l : List Alt) (ts ns : List ByteArray),Short l → (gatherF l ts ns).1.length ≤ ts.length + 8 * l.length ∧ (gatherF l ts ns).2.length ≤ ns.length + l.length
  | [],ts,ns,_ => by simp [gatherF]
  | a :: r,ts,ns,hs => by
    unfold gatherF
    have h:=gatherF_len r (quotesF a.right ts) (addF ns a.left.text) (fun x hx => hs x (List.mem_cons_of_mem _ hx))
    have h1:=quotesF_len a.right ts
    have h2:=addF_le ns a.left.text
    have h3:=hs a (List.mem_cons_self ..)
    simp only [List.length_cons]
    omega

theorem altF_err {en : Int} : ∀ {l acc : List Tok} {a p : Int},altF en l acc = .error (a,p) → a = 12:=by
  intro l
  induction l with
  | nil => intro acc a p h;injection h with h;injection h with h _;exact h.symm
  | cons t l ih =>
    intro acc a p h
    unfold altF at h
    split at h
    · exact ih h
    · split at h
      · cases h
      · injection h with h;injection h with h _;exact h.symm
theorem altsF_err {en : Int} {left : Tok} : ∀ {k : Nat} {l : List Tok} {out : List Alt} {a p : Int},altsF en left k l out = .error (a,p) → a ≠ 0:=by
  intro k
  induction k with
  | zero => intro l out a p h;injection h with h;injection h with h _;omega
  | succ k ih =>
    intro l out a p h
    unfold altsF at h
    split at h
    · rename_i e he
      injection h with h
      subst h
      have:=altF_err he
      omega
    · split at h
      · injection h with h;injection h with h _;omega
      · split at h
        · exact ih h
        · cases h
theorem defF_err {en : Int} {l : List Tok} {out : List Alt} {a p : Int} (h : defF en l out = .error (a,p)) : a ≠ 0:=by
  unfold defF at h
  split at h
  · injection h with h;injection h with h _;omega
  · split at h
    · split at h
      · injection h with h;injection h with h _;omega
      · split at h
        · exact altsF_err h
        · injection h with h;injection h with h _;omega
    · injection h with h;injection h with h _;omega
theorem restF_err {en : Int} : ∀ {k : Nat} {l : List Tok} {out : List Alt} {a p : Int},restF en k l out = .error (a,p) → a ≠ 0:=by
  intro k
  induction k with
  | zero =>
    intro l out a p h
    cases l with
    | nil => cases h
    | cons t r => injection h with h;injection h with h _;omega
  | succ k ih =>
    intro l out a p h
    cases l with
    | nil => cases h
    | cons t r =>
      unfold restF at h
      split at h
      · rename_i e he
        injection h with h
        subst h
        exact defF_err he
      · exact ih h
theorem readF_err {en : Int} {l : List Tok} {a p : Int} (h : readF en l = .error (a,p)) : a ≠ 0:=by
  unfold readF at h
  split at h
  · rename_i e he
    injection h with h
    subst h
    exact defF_err he
  · exact restF_err h
theorem lexE_err {s : ByteArray} {a p : Int} (h : lexE s = .error (a,p)) : a ≠ 0:=by
  unfold lexE at h
  split at h
  · injection h with h;injection h with h _;omega
  · split at h
    · injection h with h;injection h with h _;omega
    · cases h
def LexEnd (w : World) : Except (Int × Int) (List Tok) → Ending → World → Prop
  | .error (a,p),e,w' => e = .returned (.tuple #[.slice none 0 0,.agg #[.int .i64 a,.int .i64 p]])
  | .ok l,e,w' => ∃ v,e = .returned (.tuple #[v,.agg #[.int .i64 0,.int .i64 0]]) ∧ kTok.R 138 w' w.heap.size (fun _ => True) v l
theorem lex_c (s : ByteArray) (w : World) : Calls Try.prog 70 #[.string s] w fun e w' => LexEnd w (lexE s) e w' ∧ Below w.heap.size w w':=by
  by_cases hs : 2000 < s.size
  · refine (tokens_large s w hs).mono ?_
    rintro e w' ⟨rfl,hb⟩
    have h : lexE s = .error (14,0):=by unfold lexE;rw [if_pos hs]
    rw [h]
    exact ⟨rfl,hb⟩
  · refine (tokens_c s w (by omega)).mono ?_
    rintro e w' ⟨ht,hb⟩
    refine ⟨?_,hb⟩
    unfold lexE
    rw [if_neg hs]
    revert ht
    cases toksF ((bsl s).length + 1) (skipF false (bsl s)) ((bsl s).drop (skipF false (bsl s))) [] with
    | error p => intro ht;exact ht
    | ok l => intro ht;exact ht

set_option maxRecDepth 100000 in
set_option maxHeartbeats 1000000 in
theorem ofRec_panicking (bp bq : Nat) (v1 v2 v3 : Value) (x y a at_ : Int) (older : List PanicEntry) (w w0 : World) (B : Nat) (hp : w.heap[bp]? = some (.cells #[v1,v2,v3] 25 (0,0))) (hq : w.heap[bq]? = some (.cells #[.int .i64 x,.int .i64 y] 89 (0,0))) (hpq : bp ≠ bq) (hBp : B ≤ bp) (hBq : B ≤ bq) (hb : Below B w0 w) :
    CallsD Try.prog 69 #[.pointer (some ⟨bp,0,none⟩),.pointer (some ⟨bq,0,none⟩)] (.panicking ({ v:=.iface 89 (.agg #[.int .i64 a,.int .i64 at_]),recovered:=false } :: older)) w fun e u' w' =>
      e = .returned (.tuple #[]) ∧ u' = .panicking ({ v:=.iface 89 (.agg #[.int .i64 a,.int .i64 at_]),recovered:=true } :: older) ∧ w'.heap[bp]? = some (.cells #[.slice none 0 0,.slice none 0 0,.slice none 0 0] 25 (0,0)) ∧ w'.heap[bq]? = some (.cells #[.int .i64 a,.int .i64 at_] 89 (0,0)) ∧ Below B w0 w':=by
  have hta : ∀ w,(Instr.typeAssert (.iface 89 (.agg #[.int .i64 a,.int .i64 at_])) 20 89 true).run Try.prog w = .ok (.tuple #[.agg #[.int .i64 a,.int .i64 at_],.bool true]) w:=fun w => by kernel_rfl
  have n1 : ¬ bp = w.heap.size:=by have:=blk_lt hp;omega
  have n2 : ¬ bq = w.heap.size:=by have:=blk_lt hq;omega
  have n3 : ¬ w.heap.size = bp:=fun h => n1 h.symm
  have n4 : ¬ w.heap.size = bq:=fun h => n2 h.symm
  have n5 : ¬ bp = bq:=hpq
  have n6 : ¬ bq = bp:=fun h => hpq h.symm
  have hp1:=blk_alloc hp (.cells #[.int .i64 a,.int .i64 at_] 89 (0,0))
  have hq1:=blk_alloc hq (.cells #[.int .i64 a,.int .i64 at_] 89 (0,0))
  have hb1:=hb.alloc (by have:=blk_lt hp;omega : B ≤ w.heap.size) (.cells #[.int .i64 a,.int .i64 at_] 89 (0,0))
  have HN1:=Aside0.mk (blk_new w (.cells #[.int .i64 a,.int .i64 at_] 89 (0,0)))
  have HP1:=Aside0.mk hp1
  have HQ1:=Aside0.mk hq1
  have HB1:=Aside0.mk hb1
  have c1:=blk_cell hp1 0
  have c4:=blk_cell hp1 1
  have c5:=blk_cell hp1 2
  have c2:=blk_cell hq1 0
  have c3:=blk_cell hq1 1
  have f1:=blk_frozen hp1 0
  have f4:=blk_frozen hp1 1
  have f5:=blk_frozen hp1 2
  have f2:=blk_frozen hq1 0
  have f3:=blk_frozen hq1 1
  clear hp hq hb hp1 hq1 hb1
  simp only [List.getElem?_toArray,List.getElem?_cons_zero,List.getElem?_cons_succ] at c1 c2 c3 c4 c5
  refine callsD_of_wpS Try.func69 rfl fun c₀ cs hu => ?_
  apply wpS_seq
  apply wpS_region
  simp [wpOpsS,go_sem,recoverD,hu,Try.ntmps69,Exit.thenS]
  refine wpS_of_wp ?_
  simp only [Array.replicate_succ,Array.replicate_zero,List.push_toArray,List.append_toArray,List.nil_append,List.cons_append,List.setIfInBounds_toArray,List.set_cons_zero,List.set_cons_succ]
  go_wp2
  refine start_ (n:=4) (S:=fun w' => w'.heap[w.heap.size]? = some (.cells #[.int .i64 a,.int .i64 at_] 89 (0,0))) (ds:=[3]) #[false,false,false,false] (by kernel_rfl) rfl rfl (blk_drew HN1.out) (fun hHeld => ?_)
  refine pu_ ?_ ?_ 0 (some 16) #[true,false,false,false] ?_
  refine ta_ ?_ ?_ 1 (some 17) #[true,true,false,false] hHeld ?_ (y:=by rintro w' s0;have d0:=blk_cell s0 0;have d1:=blk_cell s0 1;simp only [List.getElem?_toArray,List.getElem?_cons_zero,List.getElem?_cons_succ] at d0 d1;go_simp;with_reducible rfl)
  refine on_ 2 none #[true,true,true,false] (fun K hK => ?_)
  refine skip_ (w1:=?_) (by rfl) rfl ?_ ?_
  rotate_left
  · (go_simp;first | rfl | (constructor;rfl;rfl))
  refine hK.out _ _ (blk_far (blk_far (blk_far hHeld n3 _) n3 _) n3 _) (fun hHeld => ?_)
  clear hK K
  refine ls_ 3 none #[true,true,true,true] (fun K hK => ?_)
  skip
  refine skip_ (w1:=?_) (by rfl) rfl ?_ ?_
  rotate_left
  · (go_simp;first | rfl | (constructor;rfl;rfl))
  refine hK.out _ _ ?_
  clear hK K
  refine done_ (by kernel_rfl) ?_
  go_wp2
  refine ⟨rfl,_,rfl,.tuple #[],results_none rfl _ _ _,rfl,rfl,?_,?_,?_⟩
  · exact blk_drew (blk_far (blk_far (blk_set (blk_set (blk_set HP1.out 0 _) 1 _) 2 _) hpq _) hpq _)
  · exact blk_drew (blk_set (blk_set (blk_far (blk_far (blk_far HQ1.out (fun h => hpq h.symm) _) (fun h => hpq h.symm) _) (fun h => hpq h.symm) _) 0 _) 1 _)
  · exact below_drew1 (below_set (below_set (below_set (below_set (below_set HB1.out hBp _ _) hBp _ _) hBp _ _) hBq _ _) hBq _ _)

set_option maxRecDepth 100000 in
theorem ofRec_idle (p q : Option Addr) (w : World) :
    CallsD Try.prog 69 #[.pointer p,.pointer q] .returning w fun e u' w' => e = .returned (.tuple #[]) ∧ u' = .returning ∧ w = w':=by
  refine callsD_of_wpS Try.func69 rfl fun c₀ cs hu => ?_
  apply wpS_seq
  apply wpS_region
  simp [wpOpsS,go_sem,recoverD,hu,Try.ntmps69,Exit.thenS]
  refine wpS_of_wp ?_
  simp only [Array.replicate_succ,Array.replicate_zero,List.push_toArray,List.append_toArray,List.nil_append,List.cons_append,List.setIfInBounds_toArray,List.set_cons_zero,List.set_cons_succ]
  go_wp2
  exact ⟨rfl,_,by cases c₀;simp_all,.tuple #[],results_none rfl _ _ _,rfl,rfl,rfl⟩
end Go.Proofs.Ytmkgcjhimajgiaa


set_option linter.unusedVariables false
set_option linter.unusedSimpArgs false
namespace Go.Proofs.Ytmkgcjhimajgiaa
open Go.RowKit Go.Proofs.YtmkgcjhimajgiaaW.PrintWords

theorem distF_nodup {may : ByteArray → Bool} : ∀ {l seen : List ByteArray},distF may seen l = true → l.Nodup ∧ ∀ s ∈ l,s ∉ seen:=by
  intro l
  induction l with
  | nil => intro seen _;exact ⟨List.nodup_nil,fun s hs => by cases hs⟩
  | cons a l ih =>
    intro seen h
    rw [distF] at h
    split at h
    · cases h
    · split at h
      · cases h
      · rename_i hn
        obtain ⟨h1,h2⟩:=ih h
        have ha : a ∉ seen:=by
          intro hm
          apply hn
          rw [List.any_eq_true]
          exact ⟨a,hm,by simp⟩
        refine ⟨List.nodup_cons.2 ⟨fun hm => h2 a hm (by simp),h1⟩,fun s hs => ?_⟩
        rcases List.mem_cons.1 hs with rfl | hs
        · exact ha
        · intro hm
          exact h2 s hs (List.mem_append_left _ hm)
theorem nodup_same {l : List ByteArray} {i j : Nat} {s : ByteArray} (h : l.Nodup) (hi : l[i]? = some s) (hj : l[j]? = some s) : i = j:=by
  obtain ⟨h1,e1⟩:=List.getElem?_eq_some_iff.1 hi
  obtain ⟨h2,e2⟩:=List.getElem?_eq_some_iff.1 hj
  have hp:=List.pairwise_iff_getElem.1 h
  rcases Nat.lt_trichotomy i j with hlt | heq | hlt
  · exact absurd (e1.trans e2.symm) (hp i j h1 h2 hlt)
  · exact heq
  · exact absurd (e2.trans e1.symm) (hp j i h2 h1 hlt)
def Pin (n : Nat) (p : Int) : Prop:=0 ≤ p ∧ p ≤ n
/-- A token of a text of so many bytes. -/
structure TP (n : Nat) (t : Tok) : Prop where
  pin : Pin n t.pos
  kinds : 1 ≤ t.kind ∧ t.kind ≤ 5
  name : t.kind = 1 → nameOk t.text = true
  term : t.kind = 2 → termOk t.text = true
/-- An alternative of a text of so many bytes. -/
structure AP (n : Nat) (a : Alt) : Prop where
  left : TP n a.left
  leftKind : a.left.kind = 1
  right : ∀ t ∈ a.right,TP n t ∧ (t.kind = 1 ∨ t.kind = 2)
section
variable {N : Nat} {en : Int}
end
end Go.Proofs.Ytmkgcjhimajgiaa


set_option linter.unusedVariables false
set_option linter.unusedSimpArgs false
namespace Go.Proofs.Ytmkgcjhimajgiaa
open Go.RowKit Go.Proofs.YtmkgcjhimajgiaaW.PrintWords

theorem distF_of {may : ByteArray → Bool} : ∀ {l seen : List ByteArray},l.Nodup → (∀ s ∈ l,s ∉ seen) → (∀ s ∈ l,may s = true) → distF may seen l = true
  | [],_,_,_,_ => rfl
  | a :: l,seen,h1,h2,h3 => by
    unfold distF
    rw [if_neg (by rw [h3 a List.mem_cons_self];decide),if_neg]
    · exact distF_of (List.nodup_cons.1 h1).2 (fun s hs hm => by
        rcases List.mem_append.1 hm with hm | hm
        · exact h2 s (List.mem_cons_of_mem _ hs) hm
        · rw [List.mem_singleton.1 hm] at hs;exact (List.nodup_cons.1 h1).1 hs) (fun s hs => h3 s (List.mem_cons_of_mem _ hs))
    · intro h
      obtain ⟨y,hy,he⟩:=List.any_eq_true.1 h
      have he:=of_decide_eq_true he
      subst he
      exact h2 a List.mem_cons_self hy

theorem posF_shift {α : Type} (p : α → Bool) : ∀ (l : List α) (k : Nat),posF p l k = if posF p l 0 < 0 then -1 else posF p l 0 + k
  | [],k => by simp [posF]
  | a :: l,k => by
    unfold posF
    by_cases h : p a = true
    · rw [if_pos h,if_pos h];simp
    · rw [if_neg h,if_neg h,posF_shift p l (k + 1),posF_shift p l (0 + 1)]
      have:=posF_ge p l 0
      by_cases h1 : posF p l 0 < 0
      · simp [h1]
      · rw [if_neg h1,if_neg h1,if_neg (by omega)];omega
theorem idxF_cons (a : ByteArray) (l : List ByteArray) (s : ByteArray) : idxF (a :: l) s = if s = a then 0 else if idxF l s < 0 then -1 else idxF l s + 1:=by
  unfold idxF
  rw [posF]
  by_cases h : s = a
  · simp [h]
  · rw [if_neg (by simpa using h),if_neg h,posF_shift];rfl
theorem idxF_some {l : List ByteArray} {s : ByteArray} (h : s ∈ l) : 0 ≤ idxF l s ∧ l[(idxF l s).toNat]? = some s:=by
  induction l with
  | nil => cases h
  | cons a l ih =>
    rw [idxF_cons]
    by_cases hs : s = a
    · rw [if_pos hs];subst hs;exact ⟨by omega,rfl⟩
    · rw [if_neg hs]
      have hm : s ∈ l:=(List.mem_cons.1 h).resolve_left hs
      obtain ⟨h1,h2⟩:=ih hm
      rw [if_neg (by omega)]
      refine ⟨by omega,?_⟩
      rw [show (idxF l s + 1).toNat = (idxF l s).toNat + 1 by omega,List.getElem?_cons_succ]
      exact h2
def risS : List Int → Int → Option Int
  | [],fr => some fr
  | n :: l,fr => if fr < n then none else risS l (if n = fr then fr + 1 else fr)
theorem risF_of {upto : Int} : ∀ {l : List Int} {fr : Int},risS l fr = some upto → risF upto l fr = true
  | [],fr,h => by injection h with h;simp [risF,h]
  | n :: l,fr,h => by
    unfold risS at h
    unfold risF
    split
    · rename_i hlt;rw [if_pos hlt] at h;cases h
    · rename_i hlt;rw [if_neg hlt] at h;exact risF_of h
theorem risS_append : ∀ (l m : List Int) (fr : Int),risS (l ++ m) fr = (risS l fr).bind (risS m)
  | [],m,fr => rfl
  | n :: l,m,fr => by
    rw [List.cons_append]
    unfold risS
    split
    · rfl
    · exact risS_append l m _
theorem risS_one {n fr : Int} (h : n ≤ fr) : risS [n] fr = some (if n = fr then fr + 1 else fr):=by
  unfold risS
  rw [if_neg (by omega)]
  rfl

theorem rulF_snoc {t all : Int} {x : Rule} : ∀ {l seen : List Rule},rulF t all seen l = true → ¬ (x.left < t ∨ all ≤ x.left ∨ 8 < x.right.length ∨ ((seen ++ l).any fun y => decide (y = x)) = true) → x.right.any (symB all) = false → rulF t all seen (l ++ [x]) = true
  | [],seen,_,h1,h2 => by
    rw [List.append_nil] at h1
    rw [List.nil_append]
    unfold rulF
    rw [if_neg h1,if_neg (by rw [h2];decide)]
    rfl
  | r :: l,seen,h,h1,h2 => by
    rw [List.cons_append]
    unfold rulF at h ⊢
    split at h
    · cases h
    · rename_i hn
      rw [if_neg hn]
      split at h
      · cases h
      · rename_i hn2
        rw [if_neg hn2]
        exact rulF_snoc h (by rwa [List.append_assoc,List.singleton_append]) h2

structure Came (ts ns : List ByteArray) (acc : List Rule) (ts0 ns0 : List ByteArray) : Prop where
  ruled : rulF ts.length (ts.length + ns.length) [] acc = true
  lefts : risS (leftsF acc) ts.length = some (ts.length + ns0.length : Int)
  terms : risS (acc.flatMap fun r => r.right.filter fun s => decide (0 ≤ s ∧ s < ts.length)) 0 = some (ts0.length : Int)
end Go.Proofs.Ytmkgcjhimajgiaa


set_option linter.unusedVariables false
set_option linter.unusedSimpArgs false
namespace Go.Proofs.Ytmkgcjhimajgiaa
open Go.RowKit Go.Proofs.YtmkgcjhimajgiaaW.PrintWords

theorem risS_of {upto : Int} : ∀ {l : List Int} {fr : Int},risF upto l fr = true → risS l fr = some upto
  | [],fr,h => by
    have : fr = upto:=by simpa [risF] using h
    rw [this];rfl
  | n :: l,fr,h => by
    unfold risF at h
    unfold risS
    split at h
    · cases h
    · rename_i hlt;rw [if_neg hlt];exact risS_of h
theorem rulF_cons (t all : Int) (seen l : List Rule) (r : Rule) : rulF t all seen (r :: l) = (if r.left < t ∨ all ≤ r.left ∨ 8 < r.right.length ∨ (seen.any fun x => decide (x = r)) = true then false
    else if r.right.any (symB all) = true then false else rulF t all (seen ++ [r]) l):=rfl
theorem rulF_append {t all : Int} : ∀ {l m seen : List Rule},rulF t all seen (l ++ m) = true → rulF t all seen l = true ∧ rulF t all (seen ++ l) m = true
  | [],m,seen,h => by rw [List.append_nil];exact ⟨rfl,h⟩
  | r :: l,m,seen,h => by
    rw [List.cons_append,rulF_cons] at h
    rw [rulF_cons]
    split at h
    · cases h
    · rename_i h1
      rw [if_neg h1]
      split at h
      · cases h
      · rename_i h2
        rw [if_neg h2]
        have:=rulF_append h
        rw [List.append_assoc,List.singleton_append] at this
        exact this
structure GoodP (g : Gram) : Prop where
  names : namesOk g = true
  terms : termsOk g = true
  one : 1 ≤ g.rules.length
  most : g.rules.length ≤ 60
  ruled : rulF g.terms.length (g.terms.length + g.names.length) [] g.rules = true
  lefts : risS (leftsF g.rules) g.terms.length = some (g.terms.length + g.names.length : Int)
  come : risS (termsF g g.rules) 0 = some (g.terms.length : Int)
theorem good_iff (g : Gram) : goodF g = true ↔ GoodP g:=by
  unfold goodF ruledF
  simp only [Bool.and_eq_true,decide_eq_true_eq]
  constructor
  · rintro ⟨⟨⟨⟨h1,h2⟩,⟨h3,h4⟩,h5⟩,h6⟩,h7⟩
    exact ⟨h1,h2,h3,h4,h5,risS_of h6,risS_of h7⟩
  · rintro ⟨h1,h2,h3,h4,h5,h6,h7⟩
    exact ⟨⟨⟨⟨h1,h2⟩,⟨h3,h4⟩,h5⟩,risF_of h6⟩,risF_of h7⟩
/-- What the law reckons of the rules but the last one. -/
def comeB (init : List Rule) (s : Int) : Bool:=init.any fun r => r.right.any fun y => y == s
def leftB (g : Gram) (init : List Rule) (last : Rule) : Bool:=(init.any fun r => r.left == last.left) && last.right.all fun s => decide ((g.terms.length : Int) ≤ s) || comeB init s
end Go.Proofs.Ytmkgcjhimajgiaa


set_option linter.unusedVariables false
set_option linter.unusedSimpArgs false
namespace Go.Proofs.Ytmkgcjhimajgiaa
open Go.RowKit Go.Proofs.YtmkgcjhimajgiaaW.PrintWords

theorem distF_may {may : ByteArray → Bool} : ∀ {l seen : List ByteArray},distF may seen l = true → ∀ s ∈ l,may s = true
  | [],_,_,s,hs => by cases hs
  | a :: l,seen,h,s,hs => by
    unfold distF at h
    split at h
    · cases h
    · rename_i hm
      split at h
      · cases h
      · rcases List.mem_cons.1 hs with rfl | hs
        · simpa using hm
        · exact distF_may h s hs
theorem idxF_self {l : List ByteArray} (hn : l.Nodup) (j : Nat) (hj : j < l.length) : idxF l (l[j]'hj) = j:=by
  obtain ⟨h1,h2⟩:=idxF_some (List.getElem_mem hj)
  have:=nodup_same hn h2 (List.getElem?_eq_getElem hj)
  omega
theorem nodup_idx {l : List ByteArray} (h : ∀ j (hj : j < l.length),idxF l (l[j]'hj) = j) : l.Nodup:=by
  refine List.pairwise_iff_getElem.2 (fun i j hi hj hij e => ?_)
  have h1:=h i hi
  have h2:=h j hj
  rw [e,h2] at h1
  omega
theorem dist_iff (may : ByteArray → Bool) (l : List ByteArray) : distF may [] l = true ↔ ∀ j (hj : j < l.length),may (l[j]'hj) = true ∧ idxF l (l[j]'hj) = j:=by
  constructor
  · intro h j hj
    exact ⟨distF_may h _ (List.getElem_mem hj),idxF_self (distF_nodup h).1 j hj⟩
  · intro h
    refine distF_of (nodup_idx (fun j hj => (h j hj).2)) (fun s _ hs => by cases hs) (fun s hs => ?_)
    obtain ⟨j,hj,rfl⟩:=List.mem_iff_getElem.1 hs
    exact (h j hj).1
/-- The first rules,and what has come with them. -/
structure GS (g : Gram) (i nm tm : Nat) : Prop where
  rul : rulF g.terms.length (g.terms.length + g.names.length) [] (g.rules.take i) = true
  lefts : risS (leftsF (g.rules.take i)) g.terms.length = some ((g.terms.length : Int) + nm)
  terms : risS (termsF g (g.rules.take i)) 0 = some (tm : Int)
theorem GS.start (g : Gram) : GS g 0 0 0:=⟨rfl,by simp [leftsF,risS],rfl⟩
theorem take_split {l : List Rule} {i : Nat} (h : i < l.length) : l = l.take i ++ (l[i]'h) :: l.drop (i + 1):=by
  rw [← List.drop_eq_getElem_cons h,List.take_append_drop]
theorem GS.left_ {g : Gram} {i nm tm : Nat} (hg : GoodP g) (h : GS g i nm tm) (hi : i < g.rules.length) :
    ¬ (g.rules[i]'hi).left < g.terms.length ∧ (g.rules[i]'hi).left ≤ g.terms.length + nm ∧ (g.rules[i]'hi).left < g.terms.length + g.names.length ∧ (g.rules[i]'hi).right.length ≤ 8 ∧ ((g.rules.take i).any fun x => decide (x = g.rules[i]'hi)) = false ∧
    ∀ k (hk : k < (g.rules[i]'hi).right.length) (tm' : Nat),risS (((g.rules[i]'hi).right.take k).filter (termF g)) tm = some (tm' : Int) → 0 ≤ (g.rules[i]'hi).right[k] ∧ (g.rules[i]'hi).right[k] < g.terms.length + g.names.length ∧ ((g.rules[i]'hi).right[k] < g.terms.length → (g.rules[i]'hi).right[k] ≤ tm'):=by
  have hm:=rulF_mem hg.ruled _ (List.getElem_mem hi)
  have hs:=take_split hi
  have h1:=hg.lefts
  have h2:=hg.come
  have h3:=hg.ruled
  rw [hs] at h1 h2 h3
  rw [leftsF,List.map_append,risS_append] at h1
  rw [show (List.map (fun x => x.left) (g.rules.take i)) = leftsF (g.rules.take i) from rfl,h.lefts] at h1
  have h1 : risS ((g.rules[i]'hi).left :: leftsF (g.rules.drop (i + 1))) ((g.terms.length : Int) + nm) = some (g.terms.length + g.names.length : Int):=h1
  rw [termsF,List.flatMap_append,risS_append] at h2
  rw [show (List.flatMap (fun r => r.right.filter (termF g)) (g.rules.take i)) = termsF g (g.rules.take i) from rfl,h.terms] at h2
  rw [List.flatMap_cons] at h2
  have h2 : risS ((g.rules[i]'hi).right.filter (termF g) ++ termsF g (g.rules.drop (i + 1))) (tm : Int) = some (g.terms.length : Int):=h2
  have h4:=(rulF_append h3).2
  rw [List.nil_append] at h4
  refine ⟨hm.1,?_,hm.2.1,hm.2.2.1,?_,fun k hk tm' ht => ⟨(hm.2.2.2 _ (List.getElem_mem hk)).1,(hm.2.2.2 _ (List.getElem_mem hk)).2,fun hlt => ?_⟩⟩
  · unfold risS at h1
    split at h1
    · cases h1
    · omega
  · rw [rulF_cons] at h4
    split at h4
    · cases h4
    · rename_i hn
      exact Bool.eq_false_iff.2 (fun h => hn (Or.inr (Or.inr (Or.inr h))))
  · have e1 : (g.rules[i]'hi).right = (g.rules[i]'hi).right.take k ++ (g.rules[i]'hi).right[k] :: (g.rules[i]'hi).right.drop (k + 1):=by
      rw [← List.drop_eq_getElem_cons hk,List.take_append_drop]
    have h0:=(hm.2.2.2 _ (List.getElem_mem hk)).1
    have e2 : termF g ((g.rules[i]'hi).right[k]) = true:=decide_eq_true ⟨h0,hlt⟩
    rw [e1,List.filter_append,List.filter_cons,if_pos e2,List.append_assoc,risS_append,ht] at h2
    have h2 : risS ((g.rules[i]'hi).right[k] :: ((g.rules[i]'hi).right.drop (k + 1)).filter (termF g) ++ termsF g (g.rules.drop (i + 1))) (tm' : Int) = some (g.terms.length : Int):=h2
    rw [List.cons_append] at h2
    unfold risS at h2
    split at h2
    · cases h2
    · omega
theorem GS.next {g : Gram} {i nm tm tm' : Nat} (h : GS g i nm tm) (hi : i < g.rules.length) (h1 : ¬ (g.rules[i]'hi).left < g.terms.length) (h2 : (g.rules[i]'hi).left ≤ g.terms.length + nm) (h3 : (g.rules[i]'hi).left < g.terms.length + g.names.length) (h4 : (g.rules[i]'hi).right.length ≤ 8)
    (h5 : ((g.rules.take i).any fun x => decide (x = g.rules[i]'hi)) = false) (h6 : ∀ s ∈ (g.rules[i]'hi).right,0 ≤ s ∧ s < g.terms.length + g.names.length) (h7 : risS ((g.rules[i]'hi).right.filter (termF g)) tm = some (tm' : Int)) :
    GS g (i + 1) (if (g.rules[i]'hi).left = g.terms.length + nm then nm + 1 else nm) tm':=by
  have e:=List.take_succ_eq_append_getElem hi
  refine ⟨?_,?_,?_⟩
  · rw [e]
    refine rulF_snoc h.rul ?_ ?_
    · rw [List.nil_append,h5]
      rintro (h | h | h | h)
      · omega
      · omega
      · omega
      · cases h
    · rw [List.any_eq_false]
      intro s hs
      have:=h6 s hs
      simp [symB]
      omega
  · rw [leftsF_succ hi,risS_append,h.lefts]
    show risS [_] _ = _
    rw [risS_one h2]
    congr 1
    split <;> simp_all <;> omega
  · rw [termsF_succ hi,risS_append,h.terms]
    exact h7
theorem good_end {g : Gram} {nm tm : Nat} (h : GS g g.rules.length nm tm) (h1 : namesOk g = true) (h2 : termsOk g = true) (h3 : 1 ≤ g.rules.length) (h4 : g.rules.length ≤ 60) : goodF g = (decide (nm = g.names.length) && decide (tm = g.terms.length)):=by
  obtain ⟨r,l,t⟩:=h
  rw [List.take_length] at r l t
  rw [Bool.eq_iff_iff,good_iff,Bool.and_eq_true,decide_eq_true_eq,decide_eq_true_eq]
  constructor
  · intro hg
    have e1:=hg.lefts
    have e2:=hg.come
    rw [l] at e1
    rw [t] at e2
    injection e1 with e1
    injection e2 with e2
    omega
  · rintro ⟨rfl,rfl⟩
    exact ⟨h1,h2,h3,h4,r,l,t⟩
theorem names_iff (g : Gram) : namesOk g = true ↔ (∀ j (hj : j < g.names.length),nameOk (g.names[j]'hj) = true ∧ idxF g.names (g.names[j]'hj) = j) ∧ 1 ≤ g.names.length ∧ g.names.length ≤ 40:=by
  unfold namesOk
  rw [Bool.and_eq_true,Bool.and_eq_true,dist_iff,decide_eq_true_eq,decide_eq_true_eq]
  exact ⟨fun h => ⟨h.1.1,by omega,by omega⟩,fun h => ⟨⟨h.1,by omega⟩,by omega⟩⟩
theorem terms_iff (g : Gram) : termsOk g = true ↔ (∀ j (hj : j < g.terms.length),termOk (g.terms[j]'hj) = true ∧ idxF g.terms (g.terms[j]'hj) = j) ∧ g.terms.length ≤ 40:=by
  unfold termsOk
  rw [Bool.and_eq_true,Bool.and_eq_true,dist_iff,decide_eq_true_eq,decide_eq_true_eq]
  exact ⟨fun h => ⟨h.1.1,by omega⟩,fun h => ⟨⟨h.1,by omega⟩,by omega⟩⟩
theorem good_not {g : Gram} (h : ¬ GoodP g) : goodF g = false:=by
  cases hg : goodF g with
  | false => rfl
  | true => exact absurd ((good_iff g).1 hg) h
end Go.Proofs.Ytmkgcjhimajgiaa


set_option linter.unusedVariables false
set_option linter.unusedSimpArgs false
namespace Go.Proofs.Ytmkgcjhimajgiaa

def getB (m : List Bool) (i : Int) : Bool:=decide (0 ≤ i) && m.getD i.toNat false
def setB (m : List Bool) (i : Int) : List Bool:=m.set i.toNat true
def allF (m : List Bool) (l : List Int) : Bool:=l.all (getB m)
def cnt (m : List Bool) : Nat:=m.countP id
theorem getB_nat (m : List Bool) (i : Nat) : getB m (i : Int) = m.getD i false:=by simp [getB]
theorem getB_at {m : List Bool} {i : Nat} (h : i < m.length) : getB m (i : Int) = m[i]:=by rw [getB_nat,List.getD_eq_getElem?_getD,List.getElem?_eq_getElem h];rfl
theorem cnt_le (m : List Bool) : cnt m ≤ m.length:=List.countP_le_length
/-- One row lies within another one. -/
def LeB (m m' : List Bool) : Prop:=m.length = m'.length ∧ ∀ i,getB m i = true → getB m' i = true
theorem cnt_set {m : List Bool} {i : Int} (hi : 0 ≤ i) (hi2 : i < m.length) (h : getB m i = false) : cnt (setB m i) = cnt m + 1:=by
  obtain ⟨k,rfl⟩:=Int.eq_ofNat_of_zero_le hi
  have hk : k < m.length:=by omega
  rw [getB_at hk] at h
  unfold cnt setB
  rw [Int.toNat_natCast]
  clear hi hi2
  induction m generalizing k with
  | nil => simp at hk
  | cons a m ih =>
    cases k with
    | zero =>
      have ha : a = false:=h
      subst ha
      simp
    | succ k =>
      rw [List.set_cons_succ,List.countP_cons,List.countP_cons,ih k (by simpa using hk) (by simpa using h)]
      omega
abbrev Horn:=List (List Int × Int)
inductive Der (R : Horn) (I : Int → Prop) : Int → Prop
  | init {s : Int} : I s → Der R I s
  | step {b : List Int} {h : Int} : (b,h) ∈ R → (∀ x ∈ b,Der R I x) → Der R I h
/-- A row that has what is given,what rules lead to,and nothing else. -/
structure Closed (R : Horn) (I : Int → Prop) (m : List Bool) : Prop where
  init : ∀ s,I s → getB m s = true
  step : ∀ x ∈ R,allF m x.1 = true → getB m x.2 = true
def Sound (R : Horn) (I : Int → Prop) (m : List Bool) : Prop:=∀ s,getB m s = true → Der R I s
/-- A row is what rules lead to. -/
def IsDer (R : Horn) (I : Int → Prop) (n : Nat) (m : List Bool) : Prop:=m.length = n ∧ ∀ s,getB m s = true ↔ Der R I s
def iter (f : List Bool → List Bool) : Nat → List Bool → List Bool
  | 0,m => m
  | k + 1,m => iter f k (f m)
theorem cnt_replicate (n : Nat) : cnt (List.replicate n false) = 0:=by
  unfold cnt
  rw [List.countP_eq_zero]
  intro a ha
  rw [List.eq_of_mem_replicate ha]
  simp
def roundF : Horn → List Bool → List Bool
  | [],m => m
  | x :: R,m => roundF R (if allF m x.1 = true then setB m x.2 else m)
def InR (n : Nat) (R : Horn) : Prop:=∀ x ∈ R,0 ≤ x.2 ∧ x.2 < n
end Go.Proofs.Ytmkgcjhimajgiaa


set_option linter.unusedVariables false
set_option linter.unusedSimpArgs false
namespace Go.Proofs.Ytmkgcjhimajgiaa
open Go.RowKit Go.Proofs.YtmkgcjhimajgiaaW.PrintWords

theorem M_alt_inv {w : World} {base : Nat} {ok : Nat → Prop} {x : Alt} {cs : List Value} (h : kAlt.M w base ok x cs) : ∃ u,cs = [.int .i64 x.left.kind,.string x.left.text,.int .i64 x.left.pos,u] ∧ kTok.R 138 w base ok u x.right:=by
  obtain ⟨a,b,rfl,h1,⟨u,rfl,h2⟩⟩:=h
  have h3:=K_tok (Kd.K_of_M _ h1)
  subst h3
  exact ⟨u,rfl,h2⟩
theorem at_altR {W : World} {base : Nat} {ok : Nat → Prop} {A : Option Addr} {n c : Nat} {xs : List Alt} (h : kAlt.R 140 W base ok (.slice A n c) xs) (i : Nat) (hi : i < xs.length) :
    ∃ ad A1 c1,A = some ad ∧ W.cell? (ad.add (i * 4)) = some (.int .i64 (xs[i]'hi).left.kind) ∧ W.cell? ⟨(ad.add (i * 4)).block,(ad.add (i * 4)).off + 1,none⟩ = some (.string (xs[i]'hi).left.text) ∧ W.cell? ⟨(ad.add (i * 4)).block,(ad.add (i * 4)).off + 2,none⟩ = some (.int .i64 (xs[i]'hi).left.pos) ∧ W.cell? ⟨(ad.add (i * 4)).block,(ad.add (i * 4)).off + 3,none⟩ = some (.slice A1 (xs[i]'hi).right.length c1) ∧ kTok.R 138 W base ok (.slice A1 (xs[i]'hi).right.length c1) (xs[i]'hi).right:=by
  obtain ⟨hn,hc,hC⟩:=Kd.R_reads' h
  obtain ⟨ad,A1,c1,rfl,h1,h2,h3,h4,_,_⟩:=at_alt hC i hi
  obtain ⟨g,cap,he,_⟩:=Kd.R_form h (by omega)
  injection he with e1 e2 e3
  injection e1 with e1
  subst e1
  obtain ⟨cs,hl,hM,hcell,_⟩:=Kd.R_elem h (xs[i]'hi) i (by omega) (by omega)
  rw [show (i : Int).toNat = i by omega,List.getD_eq_getElem?_getD,List.getElem?_eq_getElem hi] at hM
  obtain ⟨u,rfl,hu⟩:=M_alt_inv hM
  have hc3:=hcell 3 u rfl
  have h5 : W.cell? ⟨g,i * 4 + 3,none⟩ = some (.slice A1 (xs[i]'hi).right.length c1):=by
    have h5:=h4
    rw [add_plain] at h5
    exact h5
  have hsz : kAlt.sz = 4:=rfl
  rw [hsz,show (i : Int).toNat = i by omega,h5] at hc3
  injection hc3 with hc3
  subst hc3
  exact ⟨_,A1,c1,rfl,h1,h2,h3,h4,Kd.R_mono hu (fun _ hk => hk.1)⟩

/-- The state of the making of a grammar,entered in w: the results' two cells,the three rows,the alternatives. -/
structure OfSt (w W : World) (ts ns : List ByteArray) (rs : List Rule) (v1 v2 v3 : Value) (va : Value) (alts : List Alt) : Prop where
  cellG : W.heap[w.heap.size]? = some (.cells #[v1,v2,v3] 25 (0,0))
  cellF : W.heap[w.heap.size + 1]? = some (.cells #[.int .i64 0,.int .i64 0] 89 (0,0))
  terms : kStr.R 9 W w.heap.size (fun k => some k ≠ v2.ownBlock) v1 ts
  names : kStr.R 9 W w.heap.size (fun k => some k ≠ v1.ownBlock) v2 ns
  rules : kRule.R 46 W w.heap.size (fun _ => True) v3 rs
  alts : kAlt.R 140 W w.heap.size (fun _ => True) va alts
  below : Below w.heap.size w W
section
variable {w W W1 : World} {ts ns xs1 : List ByteArray} {rs rs1 : List Rule} {v1 v2 v3 va v' : Value} {alts : List Alt}
theorem OfSt.step_ (h : OfSt w W ts ns rs v1 v2 v3 va alts) (hb : Below W.heap.size W W1) : OfSt w W1 ts ns rs v1 v2 v3 va alts :=
  ⟨blk_below h.cellG hb,blk_below h.cellF hb,Kd.R_below h.terms hb,Kd.R_below h.names hb,Kd.R_below h.rules hb,Kd.R_below h.alts hb,below_then h.below h.below.size hb⟩
theorem OfSt.addName (h : OfSt w W ts ns rs v1 v2 v3 va alts) (a : Appd kStr 9 w W w.heap.size (fun k => some k ≠ v1.ownBlock) v2 xs1 v' W1) : OfSt w (W1.setCell ⟨w.heap.size,1,none⟩ v') ts xs1 rs v1 v' v3 va alts:=by
  have g1:=blk_grown h.cellG a.grown (Kd.R_ne h.names h.cellG (by decide))
  have f1:=blk_grown h.cellF a.grown (Kd.R_ne h.names h.cellF (by decide))
  exact ⟨blk_set g1 1 _,blk_far (p:=⟨w.heap.size,1,none⟩) f1 (by show w.heap.size + 1 ≠ w.heap.size;omega) _,Kd.R_set (two_append h.terms a) g1 (by decide) 1 _,Kd.R_set a.row g1 (by decide) 1 _,Kd.R_set (Kd.R_over h.rules h.names (by decide) a.grown) g1 (by decide) 1 _,Kd.R_set (Kd.R_over h.alts h.names (by decide) a.grown) g1 (by decide) 1 _,below_set a.below (Nat.le_refl _) 1 _⟩
theorem OfSt.addTerm (h : OfSt w W ts ns rs v1 v2 v3 va alts) (a : Appd kStr 9 w W w.heap.size (fun k => some k ≠ v2.ownBlock) v1 xs1 v' W1) : OfSt w (W1.setCell ⟨w.heap.size,0,none⟩ v') xs1 ns rs v' v2 v3 va alts:=by
  have g1:=blk_grown h.cellG a.grown (Kd.R_ne h.terms h.cellG (by decide))
  have f1:=blk_grown h.cellF a.grown (Kd.R_ne h.terms h.cellF (by decide))
  exact ⟨blk_set g1 0 _,blk_far (p:=⟨w.heap.size,0,none⟩) f1 (by show w.heap.size + 1 ≠ w.heap.size;omega) _,Kd.R_set a.row g1 (by decide) 0 _,Kd.R_set (two_append h.names a) g1 (by decide) 0 _,Kd.R_set (Kd.R_over h.rules h.terms (by decide) a.grown) g1 (by decide) 0 _,Kd.R_set (Kd.R_over h.alts h.terms (by decide) a.grown) g1 (by decide) 0 _,below_set a.below (Nat.le_refl _) 0 _⟩
theorem OfSt.addRule (h : OfSt w W ts ns rs v1 v2 v3 va alts) (a : Appd kRule 46 w W w.heap.size (fun _ => True) v3 rs1 v' W1) : OfSt w (W1.setCell ⟨w.heap.size,2,none⟩ v') ts ns rs1 v1 v2 v' va alts:=by
  have g1:=blk_grown h.cellG a.grown (Kd.R_ne h.rules h.cellG (by decide))
  have f1:=blk_grown h.cellF a.grown (Kd.R_ne h.rules h.cellF (by decide))
  exact ⟨blk_set g1 2 _,blk_far (p:=⟨w.heap.size,2,none⟩) f1 (by show w.heap.size + 1 ≠ w.heap.size;omega) _,Kd.R_set (Kd.R_over h.terms h.rules (by decide) a.grown) g1 (by decide) 2 _,Kd.R_set (Kd.R_over h.names h.rules (by decide) a.grown) g1 (by decide) 2 _,Kd.R_set a.row g1 (by decide) 2 _,Kd.R_set (Kd.R_over h.alts h.rules (by decide) a.grown) g1 (by decide) 2 _,below_set a.below (Nat.le_refl _) 2 _⟩
theorem OfSt.toks (h : OfSt w W ts ns rs v1 v2 v3 va alts) {ok ok' : Nat → Prop} {u : Value} {xs : List Tok} {us : List ByteArray} {y : Value} (hr : kStr.R 9 W w.heap.size ok' y us) (ht : kTok.R 138 W w.heap.size ok u xs) (hg : W.grownBy W1 y.ownBlock) (j : Nat) : kTok.R 138 (W1.setCell ⟨w.heap.size,j,none⟩ v') w.heap.size ok u xs :=
  Kd.R_set (Kd.R_over ht hr (by decide) hg) (blk_grown h.cellG hg (Kd.R_ne hr h.cellG (by decide))) (by decide) j _
theorem OfSt.rep {A1 A2 A3 : Option Addr} {n1 n2 n3 c1 c2 c3 : Nat} (h : OfSt w W ts ns rs (.slice A1 n1 c1) (.slice A2 n2 c2) (.slice A3 n3 c3) va alts) : n1 = ts.length ∧ n2 = ns.length ∧ n3 = rs.length ∧ RepG W ⟨ts,ns,rs⟩ A1 A2 A3 c1 c2 c3:=by
  obtain ⟨h1,k1,r1⟩:=Kd.R_reads' h.terms
  obtain ⟨h2,k2,r2⟩:=Kd.R_reads' h.names
  obtain ⟨h3,k3,r3⟩:=Kd.R_reads' h.rules
  exact ⟨h1,h2,h3,r1,r2,r3,by show ts.length ≤ c1;omega,by show ns.length ≤ c2;omega,by show rs.length ≤ c3;omega⟩
theorem OfSt.final (h : OfSt w W ts ns rs v1 v2 v3 va alts) : OfSt w (((((W.setCell ⟨w.heap.size,0,none⟩ v1).setCell ⟨w.heap.size,1,none⟩ v2).setCell ⟨w.heap.size,2,none⟩ v3).setCell ⟨w.heap.size + 1,0,none⟩ (.int .i64 0)).setCell ⟨w.heap.size + 1,1,none⟩ (.int .i64 0)) ts ns rs v1 v2 v3 va alts:=by
  have hne : w.heap.size ≠ w.heap.size + 1:=by omega
  have g0:=h.cellG
  have g1:=blk_set g0 0 v1
  have g2:=blk_set g1 1 v2
  have g3:=blk_set g2 2 v3
  have f0:=h.cellF
  have f1:=blk_far (p:=⟨w.heap.size,0,none⟩) f0 hne.symm v1
  have f2:=blk_far (p:=⟨w.heap.size,1,none⟩) f1 hne.symm v2
  have f3:=blk_far (p:=⟨w.heap.size,2,none⟩) f2 hne.symm v3
  have f4:=blk_set f3 0 (.int .i64 0)
  have f5:=blk_set f4 1 (.int .i64 0)
  exact ⟨blk_far (p:=⟨w.heap.size + 1,1,none⟩) (blk_far (p:=⟨w.heap.size + 1,0,none⟩) g3 hne _) hne _,f5,
    Kd.R_set (Kd.R_set (Kd.R_set (Kd.R_set (Kd.R_set h.terms g0 (by decide) 0 _) g1 (by decide) 1 _) g2 (by decide) 2 _) f3 (by decide) 0 _) f4 (by decide) 1 _,
    Kd.R_set (Kd.R_set (Kd.R_set (Kd.R_set (Kd.R_set h.names g0 (by decide) 0 _) g1 (by decide) 1 _) g2 (by decide) 2 _) f3 (by decide) 0 _) f4 (by decide) 1 _,
    Kd.R_set (Kd.R_set (Kd.R_set (Kd.R_set (Kd.R_set h.rules g0 (by decide) 0 _) g1 (by decide) 1 _) g2 (by decide) 2 _) f3 (by decide) 0 _) f4 (by decide) 1 _,
    Kd.R_set (Kd.R_set (Kd.R_set (Kd.R_set (Kd.R_set h.alts g0 (by decide) 0 _) g1 (by decide) 1 _) g2 (by decide) 2 _) f3 (by decide) 0 _) f4 (by decide) 1 _,
    below_set (below_set (below_set (below_set (below_set h.below (Nat.le_refl _) _ _) (Nat.le_refl _) _ _) (Nat.le_refl _) _ _) (by omega) _ _) (by omega) _ _⟩
end
theorem app_rule {ops : Array Oper} {rest : List Oper} {o : Oper} {a : Act} {Q : Exit → Act → World → Prop} {w0 W : World} {base : Nat} {v : Value} {s x : Operand} {xs : List Rule} {p : Rule} {u : Value} {ok : Nat → Prop} (hgd : o.guard = none) (ho : o.op = .call { callee:=.builtin .append,args:=#[s,x],argTypes:=#[23,23] })
    (HO : kRule.R 46 W base (fun _ => True) v xs) (HU : kInt.R 3 W base (fun q => some q ≠ v.ownBlock) u p.right) (HB : Below base w0 W) (hbase : base ≤ W.heap.size) (hl : xs.length + 1 ≤ 2000000000000) (hs : a.eval s = v) (hx : a.eval x = .slice (some ⟨W.heap.size,0,none⟩) 1 1)
    (h : ∀ v1 w1,Appd kRule 46 w0 W base (fun _ => True) v (xs ++ [p]) v1 w1 → wpList Try.prog ops Q rest (a.put o.dst v1) w1) :
    wpList Try.prog ops Q (o :: rest) a (W.alloc (.cells #[.int .i64 p.left,u] 46)) :=
  Kd.R_append kRule base hgd s x 23 46 _ 32 ho Try.underlying23 infoRule rfl (by decide) (by decide) v xs p [.int .i64 p.left,u] (fun _ => True) (fun q => some q ≠ v.ownBlock) hs hx (M_rule HU) (fun _ h => ⟨trivial,h⟩) (fun _ _ => trivial) HO HB hbase (by omega) (fun v1 w1 h1 h2 h3 h4 => h v1 w1 ⟨h1,h2,h3,h4⟩)
end Go.Proofs.Ytmkgcjhimajgiaa


set_option linter.unusedVariables false
set_option linter.unusedSimpArgs false
namespace Go.Proofs.Ytmkgcjhimajgiaa
open Go.RowKit Go.Proofs.YtmkgcjhimajgiaaW.PrintWords

def OfEnd (w : World) : Except (Int × Int) Gram → Ending → World → Prop
  | .error (a,p),e,w' => e = .returned (.tuple #[.agg #[.slice none 0 0,.slice none 0 0,.slice none 0 0],.agg #[.int .i64 a,.int .i64 p]])
  | .ok g,e,w' => ∃ A1 A2 A3 c1 c2 c3,e = .returned (.tuple #[.agg #[.slice A1 g.terms.length c1,.slice A2 g.names.length c2,.slice A3 g.rules.length c3],.agg #[.int .i64 0,.int .i64 0]]) ∧ RepG w' g A1 A2 A3 c1 c2 c3
def ofW (w : World) : World:=(w.alloc (.cells #[.slice none 0 0,.slice none 0 0,.slice none 0 0] 25 (0,0))).alloc (.cells #[.int .i64 0,.int .i64 0] 89 (0,0))
theorem ofW_p (w : World) : (ofW w).heap[w.heap.size]? = some (.cells #[.slice none 0 0,.slice none 0 0,.slice none 0 0] 25 (0,0)):=blk_alloc (blk_new w _) _
theorem ofW_q (w : World) : (ofW w).heap[w.heap.size + 1]? = some (.cells #[.int .i64 0,.int .i64 0] 89 (0,0)):=by
  have h:=blk_new (w.alloc (.cells #[.slice none 0 0,.slice none 0 0,.slice none 0 0] 25 (0,0))) (.cells #[.int .i64 0,.int .i64 0] 89 (0,0))
  rw [show (w.alloc (.cells #[.slice none 0 0,.slice none 0 0,.slice none 0 0] 25 (0,0))).heap.size = w.heap.size + 1 by simp] at h
  exact h
theorem ofW_below (w : World) : Below w.heap.size w (ofW w):=((Below.refl _ _).alloc (Nat.le_refl _) _).alloc (by simp) _
theorem ofW_size (w : World) : (ofW w).heap.size = w.heap.size + 2:=by simp [ofW]
theorem results_of {tmps : Array Value} {W : World} {g g' : Nat} {A1 A2 A3 : Option Addr} {n1 n2 n3 c1 c2 c3 : Nat} {x y : Int} (t2 : tmps.getD 2 undef = .pointer (some ⟨g,0,none⟩)) (t3 : tmps.getD 3 undef = .pointer (some ⟨g',0,none⟩))
    (h : W.heap[g]? = some (.cells #[.slice A1 n1 c1,.slice A2 n2 c2,.slice A3 n3 c3] 25 (0,0))) (h' : W.heap[g']? = some (.cells #[.int .i64 x,.int .i64 y] 89 (0,0))) :
    (results Try.f43 tmps).run Try.prog W = .ok (.tuple #[.agg #[.slice A1 n1 c1,.slice A2 n2 c2,.slice A3 n3 c3],.agg #[.int .i64 x,.int .i64 y]]) W:=by
  have d1:=blk_cell h 0
  have d4:=blk_cell h 1
  have d5:=blk_cell h 2
  have d2:=blk_cell h' 0
  have d3:=blk_cell h' 1
  simp only [List.getElem?_toArray,List.getElem?_cons_zero,List.getElem?_cons_succ] at d1 d2 d3 d4 d5
  simp only [Array.getD_eq_getD_getElem?] at t2 t3
  simp [results,Try.results43,go_sem,d1,d2,d3,d4,d5,t2,t3]
theorem of_thrown {w W : World} {a p : Int} {v1 v2 v3 : Value} {x y : Int} (hp : W.heap[w.heap.size]? = some (.cells #[v1,v2,v3] 25 (0,0))) (hq : W.heap[w.heap.size + 1]? = some (.cells #[.int .i64 x,.int .i64 y] 89 (0,0))) (hb : Below w.heap.size w W) :
    CallsD Try.prog 69 #[.pointer (some ⟨w.heap.size,0,none⟩),.pointer (some ⟨w.heap.size + 1,0,none⟩)] (.panicking (faultV a p)) W fun e u' w' =>
      e = .returned (.tuple #[]) ∧ u' = .panicking ({ v:=.iface 89 (.agg #[.int .i64 a,.int .i64 p]),recovered:=true } :: []) ∧ w'.heap[w.heap.size]? = some (.cells #[.slice none 0 0,.slice none 0 0,.slice none 0 0] 25 (0,0)) ∧ w'.heap[w.heap.size + 1]? = some (.cells #[.int .i64 a,.int .i64 p] 89 (0,0)) ∧ Below w.heap.size w w' :=
  ofRec_panicking _ _ _ _ _ _ _ _ _ [] _ w w.heap.size hp hq (by omega) (Nat.le_refl _) (by omega) hb

set_option maxRecDepth 100000 in
set_option maxHeartbeats 8000000 in
theorem of_c (s : ByteArray) (w : World) : Calls Try.prog 43 #[.string s] w fun e w' => OfEnd w (ofF s) e w' ∧ Below w.heap.size w w':=by
  have hmf : ∀ (fn : Fn) (first cap : Array Value) (w : World),(Instr.makeFunc fn first cap).run Try.prog w = .ok (.func fn first cap) w:=fun _ _ _ _ => rfl
  have HP:=Aside0.mk (ofW_p w)
  have HQ:=Aside0.mk (ofW_q w)
  have HB:=Aside0.mk (ofW_below w)
  have HZ:=Aside0.mk (ofW_size w)
  have HX:=Aside0.mk (lex_c s (ofW w))
  have hne : w.heap.size ≠ w.heap.size + 1:=by omega
  obtain ⟨RES,hRES⟩ : ∃ r,ofF s = r:=⟨_,rfl⟩
  rw [hRES]
  have HRES:=Aside0.mk hRES
  clear hRES
  cases hlex : lexE s with
  | error er =>
    obtain ⟨a,p⟩:=er
    have ha:=lexE_err hlex
    have hR : RES = .error (a,p):=by rw [← HRES.out,ofF,hlex]
    have HL:=Lib.hid hlex
    have HR:=Lib.hid hR
    have HA:=Aside0.mk ha
    clear hlex hR ha
    go_enter_defers Try.func43,Try.ntmps43
    go_wp2_with (first | (go_at_call 70;refine HX.out.mono ?_;rw [HL.out];rintro e w1 ⟨rfl,hb1⟩;have HP1:=Aside0.mk (blk_below HP.out hb1);have HQ1:=Aside0.mk (blk_below HQ.out hb1);have HB1:=Aside0.mk (below_then HB.out HB.out.size hb1);clear hb1;have c1:=blk_cell HQ1.out 0;have c2:=blk_cell HQ1.out 1;have c3:=blk_frozen HQ1.out 0;have c4:=blk_frozen HQ1.out 1;simp only [List.getElem?_toArray,List.getElem?_cons_zero,List.getElem?_cons_succ] at c1 c2) | (go_at_call 71;refine (check_bad _ _ HA.out _).mono ?_;rintro e w2 ⟨rfl,hb2⟩))
    have hP:=blk_below (blk_far (blk_far HP1.out hne _) hne _) hb2
    have hQ:=blk_below (blk_set (blk_set HQ1.out 0 _) 1 _) hb2
    have hB0:=below_set (below_set HB1.out (show w.heap.size ≤ w.heap.size + 1 by omega) 0 (.int .i64 a)) (show w.heap.size ≤ w.heap.size + 1 by omega) 1 (.int .i64 p)
    have hB:=below_then hB0 hB0.size hb2
    refine leaves_cons (f:=69) (args:=#[.pointer (some ⟨w.heap.size,0,none⟩),.pointer (some ⟨w.heap.size + 1,0,none⟩)]) (by simp) (by simp [go_sem]) ?_
    refine (of_thrown hP hQ hB).mono ?_
    rintro e u' w'' ⟨rfl,rfl,hP2,hQ2,hB2⟩
    refine ⟨_,results_of rfl rfl hP2 hQ2,?_,hB2⟩
    rw [HR.out]
    rfl
  | ok l =>
    have HLL:=Aside0.mk (lexE_len hlex)
    cases hread : readF s.size l with
    | error er =>
      obtain ⟨a,p⟩:=er
      have ha:=readF_err hread
      have hR : RES = .error (a,p):=by rw [← HRES.out,ofF,hlex];simp only [hread]
      have HL:=Lib.hid hlex
      have HR:=Lib.hid hR
      have HA:=Aside0.mk ha
      have HRD:=Lib.hid hread
      clear hlex hR ha hread
      go_enter_defers Try.func43,Try.ntmps43
      go_wp2_with (first | (go_at_call 70;refine HX.out.mono ?_;rw [HL.out];rintro e w1 ⟨⟨v,rfl,hr1⟩,hb1⟩;obtain ⟨Al,cl,rfl⟩:=Kd.R_slice hr1;have HP1:=Aside0.mk (blk_below HP.out hb1);have HQ1:=Aside0.mk (blk_below HQ.out hb1);have HB1:=Aside0.mk (below_then HB.out HB.out.size hb1);have HR1:=Aside0.mk hr1;clear hb1 hr1;have c1:=blk_cell HQ1.out 0;have c2:=blk_cell HQ1.out 1;have c3:=blk_frozen HQ1.out 0;have c4:=blk_frozen HQ1.out 1;simp only [List.getElem?_toArray,List.getElem?_cons_zero,List.getElem?_cons_succ] at c1 c2) | (go_at_call 71;have hq3:=HQ3.out;refine (check_bad _ _ HA.out _).mono ?_;rintro e w4 ⟨rfl,hb4⟩) | (go_at_call 71;refine (check_ok _ _).mono ?_;rintro e w2 ⟨rfl,hb2⟩;have HP2:=Aside0.mk (blk_below (blk_far (blk_far HP1.out hne _) hne _) hb2);have HQ2 : Aside0 (w2.heap[w.heap.size + 1]? = some (.cells #[.int .i64 0,.int .i64 0] 89 (0,0))):=⟨blk_below (blk_set (blk_set HQ1.out 0 _) 1 _) hb2⟩;have hB0:=below_set (below_set HB1.out (show w.heap.size ≤ w.heap.size + 1 by omega) 0 (.int .i64 0)) (show w.heap.size ≤ w.heap.size + 1 by omega) 1 (.int .i64 0);have HB2:=Aside0.mk (below_then hB0 hB0.size hb2);have HR2:=Aside0.mk (Kd.R_below (Kd.R_set (Kd.R_set HR1.out HQ1.out (by decide) 0 _) (blk_set HQ1.out 0 _) (by decide) 1 _) hb2);clear hb2 hB0 c1 c2 c3 c4) | (go_at_call 72;go_loud (refine (alts_c _ _ _ l _ (by have:=HLL.out;omega) (Kd.R_reads' HR2.out).2.1 (Kd.R_reads' HR2.out).2.2).mono ?_;rw [HRD.out];rintro e w3 ⟨rfl,hb3⟩;have HP3:=Aside0.mk (blk_below HP2.out hb3);have HQ3:=Aside0.mk (blk_below HQ2.out hb3);have HB3:=Aside0.mk (below_then HB2.out HB2.out.size hb3);clear hb3;have c1:=blk_cell HQ3.out 0;have c2:=blk_cell HQ3.out 1;have c3:=blk_frozen HQ3.out 0;have c4:=blk_frozen HQ3.out 1;simp only [List.getElem?_toArray,List.getElem?_cons_zero,List.getElem?_cons_succ] at c1 c2)))
      have hP:=blk_below (blk_far (blk_far HP3.out hne _) hne _) hb4
      have hQ:=blk_below (blk_set (blk_set HQ3.out 0 _) 1 _) hb4
      have hB0:=below_set (below_set HB3.out (show w.heap.size ≤ w.heap.size + 1 by omega) 0 (.int .i64 a)) (show w.heap.size ≤ w.heap.size + 1 by omega) 1 (.int .i64 p)
      have hB:=below_then hB0 hB0.size hb4
      refine leaves_cons (f:=69) (args:=#[.pointer (some ⟨w.heap.size,0,none⟩),.pointer (some ⟨w.heap.size + 1,0,none⟩)]) (by simp) (by simp [go_sem]) ?_
      refine (of_thrown hP hQ hB).mono ?_
      rintro e u' w'' ⟨rfl,rfl,hP2,hQ2,hB2⟩
      refine ⟨_,results_of rfl rfl hP2 hQ2,?_,hB2⟩
      rw [HR.out]
      rfl
    | ok alts =>
      have HSH:=Aside0.mk (readF_short hread)
      have hR : RES = grammF alts:=by rw [← HRES.out,ofF,hlex];simp only [hread]
      have HL:=Lib.hid hlex
      have HR:=Lib.hid hR
      have HRD:=Lib.hid hread
      clear hlex hR hread
      go_enter_defers Try.func43,Try.ntmps43
      go_wp2_with (first | (go_at_call 70;refine HX.out.mono ?_;rw [HL.out];rintro e w1 ⟨⟨v,rfl,hr1⟩,hb1⟩;obtain ⟨Al,cl,rfl⟩:=Kd.R_slice hr1;have HP1:=Aside0.mk (blk_below HP.out hb1);have HQ1:=Aside0.mk (blk_below HQ.out hb1);have HB1:=Aside0.mk (below_then HB.out HB.out.size hb1);have HR1:=Aside0.mk hr1;clear hb1 hr1;have c1:=blk_cell HQ1.out 0;have c2:=blk_cell HQ1.out 1;have c3:=blk_frozen HQ1.out 0;have c4:=blk_frozen HQ1.out 1;simp only [List.getElem?_toArray,List.getElem?_cons_zero,List.getElem?_cons_succ] at c1 c2) | (go_at_call 71;have hq3:=HQ3.out;refine (check_ok _ _).mono ?_;rintro e w4 ⟨rfl,hb4⟩;have HP4:=Aside0.mk (blk_below (blk_far (blk_far HP3.out hne _) hne _) hb4);have HQ4 : Aside0 (w4.heap[w.heap.size + 1]? = some (.cells #[.int .i64 0,.int .i64 0] 89 (0,0))):=⟨blk_below (blk_set (blk_set HQ3.out 0 _) 1 _) hb4⟩;have hB0:=below_set (below_set HB3.out (show w.heap.size ≤ w.heap.size + 1 by omega) 0 (.int .i64 0)) (show w.heap.size ≤ w.heap.size + 1 by omega) 1 (.int .i64 0);have HB4:=Aside0.mk (below_then hB0 hB0.size hb4);have HR4:=Aside0.mk (Kd.R_below (Kd.R_set (Kd.R_set HR3.out HQ3.out (by decide) 0 _) (blk_set HQ3.out 0 _) (by decide) 1 _) hb4);clear hb4 hB0 hq3 c1 c2 c3 c4) | (go_at_call 71;refine (check_ok _ _).mono ?_;rintro e w2 ⟨rfl,hb2⟩;have HP2:=Aside0.mk (blk_below (blk_far (blk_far HP1.out hne _) hne _) hb2);have HQ2 : Aside0 (w2.heap[w.heap.size + 1]? = some (.cells #[.int .i64 0,.int .i64 0] 89 (0,0))):=⟨blk_below (blk_set (blk_set HQ1.out 0 _) 1 _) hb2⟩;have hB0:=below_set (below_set HB1.out (show w.heap.size ≤ w.heap.size + 1 by omega) 0 (.int .i64 0)) (show w.heap.size ≤ w.heap.size + 1 by omega) 1 (.int .i64 0);have HB2:=Aside0.mk (below_then hB0 hB0.size hb2);have HR2:=Aside0.mk (Kd.R_below (Kd.R_set (Kd.R_set HR1.out HQ1.out (by decide) 0 _) (blk_set HQ1.out 0 _) (by decide) 1 _) hb2);clear hb2 hB0 c1 c2 c3 c4) | (go_at_call 72;go_loud (refine (alts_c _ _ _ l _ (by have:=HLL.out;omega) (Kd.R_reads' HR2.out).2.1 (Kd.R_reads' HR2.out).2.2).mono ?_;rw [HRD.out];rintro e w3 ⟨⟨va,rfl,hr3⟩,hb3⟩;obtain ⟨Ava,cva,rfl⟩:=Kd.R_slice hr3;have HP3:=Aside0.mk (blk_below HP2.out hb3);have HQ3:=Aside0.mk (blk_below HQ2.out hb3);have HR3:=Aside0.mk (Kd.R_lower hr3 (base':=w.heap.size) HB2.out.size);have HB3:=Aside0.mk (below_then HB2.out HB2.out.size hb3);clear hb3 hr3;have c1:=blk_cell HQ3.out 0;have c2:=blk_cell HQ3.out 1;have c3:=blk_frozen HQ3.out 0;have c4:=blk_frozen HQ3.out 1;simp only [List.getElem?_toArray,List.getElem?_cons_zero,List.getElem?_cons_succ] at c1 c2)))
      have HSt : Aside0 (OfSt w w4 [] [] [] (.slice none 0 0) (.slice none 0 0) (.slice none 0 0) (.slice Ava alts.length cva) alts):=⟨⟨HP4.out,HQ4.out,Kd.R_nil _ _ _ _ _,Kd.R_nil _ _ _ _ _,Kd.R_nil _ _ _ _ _,HR4.out,HB4.out⟩⟩
      clear HP4 HQ4 HR4 HB4 HP1 HQ1 HR1 HB1 HP2 HQ2 HR2 HB2 HP3 HQ3 HR3 HB3 HL HRD HX HP HQ HB HZ HRES HLL
      obtain ⟨GA,hGA⟩ : ∃ x,gatherF alts [] [] = x:=⟨_,rfl⟩
      have HGA:=Aside0.mk hGA
      have hr2 : RES = grammF alts:=HR.out
      unfold grammF at hr2
      rw [hGA] at hr2
      have HRR:=Lib.hid hr2
      have HGL:=gatherF_len alts [] [] HSH.out.1
      rw [hGA] at HGL
      have HGLL:=Aside0.mk HGL
      clear hGA hr2 HR HGL
      have hal : alts.length ≤ 60:=HSH.out.2
      go_loopw [32] (fun i wr => ∃ (k : Nat) (ts ns : List ByteArray) (v1 v2 : Value),k ≤ alts.length ∧ i = .int .i64 k ∧ Aside0 (gatherF (alts.drop k) ts ns = GA) ∧ Aside0 (ts.length ≤ 8 * k ∧ ns.length ≤ k) ∧ Aside0 (OfSt w wr ts ns [] v1 v2 (.slice none 0 0) (.slice Ava alts.length cva) alts)) (fun i _ => alts.length - (intOf i).toNat)
      case atStart => exact ⟨0,[],[],.slice none 0 0,.slice none 0 0,Nat.zero_le _,rfl,HGA,⟨by simp⟩,HSt⟩
      case round =>
        clear HSt HGA
        obtain ⟨k,ts,ns,v1,v2,hk,rfl,HGA,HLN,HSt⟩:=hrel
        obtain ⟨At,ct,rfl⟩:=Kd.R_slice HSt.out.terms
        obtain ⟨An,cn,rfl⟩:=Kd.R_slice HSt.out.names
        by_cases hlt : k < alts.length
        · obtain ⟨ad,Ar,cr,ead,hx1,hx2,hx3,hx4,hRt⟩:=at_altR HSt.out.alts k hlt
          cases ead
          obtain ⟨a,ha⟩ : ∃ a,a = alts[k]'hlt:=⟨_,rfl⟩
          have hd:=List.drop_eq_getElem_cons hlt
          have hsh:=HSH.out.1 (alts[k]'hlt) (List.getElem_mem _)
          rw [← ha] at hx1 hx2 hx3 hx4 hRt hd hsh
          have hg:=HGA.out
          rw [hd,gatherF] at hg
          obtain ⟨⟨lk,lx,lp⟩,right⟩:=a
          dsimp only at hx1 hx2 hx3 hx4 hRt hsh hg
          have HG2:=Aside0.mk hg
          have HSH2:=Aside0.mk hsh
          have HS1:=Aside0.mk (HSt.out.step_ (below_alloc (Below.refl _ _) (.cells #[.int .i64 lk,.string lx,.int .i64 lp,.slice Ar right.length cr] 140 (0,0))))
          have HT1:=Aside0.mk (Kd.R_alloc hRt (.cells #[.int .i64 lk,.string lx,.int .i64 lp,.slice Ar right.length cr] 140 (0,0)))
          have J7:=Aside0.mk (blk_new wr (.cells #[.int .i64 lk,.string lx,.int .i64 lp,.slice Ar right.length cr] 140 (0,0)))
          have hbw : w.heap.size < wr.heap.size:=blk_lt HSt.out.cellG
          have c1:=blk_cell HS1.out.cellG 1
          simp only [List.getElem?_toArray,List.getElem?_cons_zero,List.getElem?_cons_succ] at c1
          clear hg hd ha hRt hsh HGA
          go_wp2_with (go_at_call 73;go_loud (refine (added_c w _ w.heap.size _ _ ns lx HS1.out.names HS1.out.below HS1.out.below.size (by have:=HLN.out;have:=HSH.out;omega) (fresh_ne HS1.out.terms)).mono ?_;rintro e w5 ⟨v',rfl,A5⟩;obtain ⟨Av',cv',rfl⟩:=Kd.R_slice A5.row;have HS2:=Aside0.mk (HS1.out.addName A5);have HT2:=Aside0.mk (HS1.out.toks HS1.out.names HT1.out A5.grown 1 (v':=.slice Av' (addF ns lx).length cv'));have G5:=blk_grown HS1.out.cellG A5.grown (Kd.R_ne HS1.out.names HS1.out.cellG (by decide));have d1:=blk_cell G5 1;have d2:=blk_frozen G5 1;have J8:=blk_far (p:=⟨w.heap.size,1,none⟩) (blk_grown J7.out A5.grown (Kd.R_ne HS1.out.names J7.out (by decide))) (by show wr.heap.size ≠ w.heap.size;omega) (.slice Av' (addF ns lx).length cv');have d3:=blk_cell J8 3;clear A5 G5 J8;simp only [List.getElem?_toArray,List.getElem?_cons_zero,List.getElem?_cons_succ] at d1 d3))
          clear c1 d1 d2 d3 hx1 hx2 hx3 hx4
          have HGQ : Aside0 (∃ q,quotesF right ts = q):=⟨_,rfl⟩
          obtain ⟨QT,hQT⟩:=HGQ.out
          have hg:=HG2.out
          rw [hQT] at hg
          have HG3:=Aside0.mk hg
          have HQT:=Aside0.mk hQT
          have HNL:=Aside0.mk (show (addF ns lx).length ≤ k + 1 by have h1:=addF_le ns lx;have:=HLN.out;omega)
          have HTL:=Aside0.mk (show ts.length ≤ 8 * k + 0 by have:=HLN.out;omega)
          clear hQT hg HGQ HG2 HLN hbw HS1 HT1 J7 HSt
          have hrl : right.length ≤ 8:=HSH2.out
          obtain ⟨wo,hwo⟩ : ∃ wo : World,wo = wr:=⟨_,rfl⟩
          rw [← hwo] at *
          clear hwo
          go_loopw [46] (fun i wi => ∃ (m : Nat) (ts' : List ByteArray) (v1' : Value),m ≤ right.length ∧ i = .int .i64 m ∧ Aside0 (quotesF (right.drop m) ts' = QT) ∧ Aside0 (ts'.length ≤ 8 * k + m) ∧ Aside0 (OfSt w wi ts' (addF ns lx) [] v1' (.slice Av' (addF ns lx).length cv') (.slice none 0 0) (.slice (some ad) alts.length cva) alts) ∧ Aside0 (kTok.R 138 wi w.heap.size (fun _ => True) (.slice Ar right.length cr) right)) (fun i _ => right.length - (intOf i).toNat)
          case atStart => exact ⟨0,ts,_,Nat.zero_le _,rfl,HQT,HTL,HS2,HT2⟩
          case round =>
            clear HS2 HT2 HQT HTL
            obtain ⟨m,ts',v1',hm,rfl,HQT,HTL,HS2,HT2⟩:=hrel
            obtain ⟨At',ct',rfl⟩:=Kd.R_slice HS2.out.terms
            by_cases hmlt : m < right.length
            · obtain ⟨bd,ebd,hx,hy,hz⟩:=at_tok (Kd.R_reads' HT2.out).2.2 m hmlt
              cases ebd
              obtain ⟨t,ht⟩ : ∃ t,t = right[m]'hmlt:=⟨_,rfl⟩
              have hd:=List.drop_eq_getElem_cons hmlt
              rw [← ht] at hx hy hz hd
              have hq:=HQT.out
              rw [hd,quotesF] at hq
              obtain ⟨tk,tx,tp⟩:=t
              dsimp only at hx hy hz hq
              by_cases h2 : tk = 2
              · subst h2
                rw [if_pos rfl] at hq
                have HQ2:=Aside0.mk hq
                have HS3:=Aside0.mk (HS2.out.step_ (below_alloc (Below.refl _ _) (.cells #[.int .i64 2,.string tx,.int .i64 tp] 138 (0,0))))
                have HT3:=Aside0.mk (Kd.R_alloc HT2.out (.cells #[.int .i64 2,.string tx,.int .i64 tp] 138 (0,0)))
                have c1:=blk_cell HS3.out.cellG 0
                have hbw : w.heap.size < wr.heap.size:=blk_lt HS2.out.cellG
                simp only [List.getElem?_toArray,List.getElem?_cons_zero,List.getElem?_cons_succ] at c1
                clear hq hd ht HQT
                go_wp2_with (go_at_call 73;go_loud (refine (added_c w _ w.heap.size _ _ ts' tx HS3.out.terms HS3.out.below HS3.out.below.size (by have:=HTL.out;have:=HSH.out;omega) (fresh_ne HS3.out.names)).mono ?_;rintro e w6 ⟨v',rfl,A6⟩;obtain ⟨Aw',cw',rfl⟩:=Kd.R_slice A6.row;have HS4:=Aside0.mk (HS3.out.addTerm A6);have HT4:=Aside0.mk (HS3.out.toks HS3.out.terms HT3.out A6.grown 0 (v':=.slice Aw' (addF ts' tx).length cw'));have G6:=blk_grown HS3.out.cellG A6.grown (Kd.R_ne HS3.out.terms HS3.out.cellG (by decide));have d1:=blk_cell G6 0;have d2:=blk_frozen G6 0;clear A6 G6;simp only [List.getElem?_toArray,List.getElem?_cons_zero,List.getElem?_cons_succ] at d1))
                go_roundw
                case rel => exact ⟨m + 1,addF ts' tx,_,by omega,by go_num,HQ2,⟨by have h1:=addF_le ts' tx;have:=HTL.out;omega⟩,HS4,HT4⟩
                case measure => simp [intOf];omega
              · rw [if_neg h2] at hq
                have HQ2:=Aside0.mk hq
                have HS3:=Aside0.mk (HS2.out.step_ (below_alloc (Below.refl _ _) (.cells #[.int .i64 tk,.string tx,.int .i64 tp] 138 (0,0))))
                have HT3:=Aside0.mk (Kd.R_alloc HT2.out (.cells #[.int .i64 tk,.string tx,.int .i64 tp] 138 (0,0)))
                clear hq hd ht HQT
                go_wp2
                go_roundw
                case rel => exact ⟨m + 1,ts',_,by omega,by go_num,HQ2,⟨by have:=HTL.out;omega⟩,HS3,HT3⟩
                case measure => simp [intOf];omega
            · have hq:=HQT.out
              rw [List.drop_eq_nil_of_le (by omega)] at hq
              have hq2 : ts' = QT:=hq
              subst hq2
              go_wp2
              go_roundw
              case rel => exact ⟨k + 1,ts',addF ns lx,_,_,by omega,by go_num,HG3,⟨by have:=HTL.out;have:=HNL.out;have:=HSH2.out;omega⟩,HS2⟩
              case measure => simp [intOf];omega
        · have hq:=HGA.out
          rw [List.drop_eq_nil_of_le (by omega)] at hq
          have hq2 : GA = (ts,ns):=hq.symm
          subst hq2
          have HF0 : Aside0 (∃ q,rulesF ts ns alts [] = q):=⟨_,rfl⟩
          obtain ⟨RF,hRF⟩:=HF0.out
          have hr:=HRR.out
          dsimp only at hr
          rw [hRF] at hr
          have HRS:=Lib.hid hr
          have HRF:=Aside0.mk hRF
          have hgl:=HGLL.out
          dsimp only [List.length_nil] at hgl
          have htl : ts.length ≤ 480:=by omega
          have hnl : ns.length ≤ 60:=by omega
          clear hr hRF HF0 hq HGA HRR hgl HGLL
          go_wp2
          obtain ⟨wo,hwo⟩ : ∃ wo : World,wo = wr:=⟨_,rfl⟩
          subst hwo
          go_loopw [63] (fun i wr => ∃ (m : Nat) (rs : List Rule) (v3 : Value),m ≤ alts.length ∧ i = .int .i64 m ∧ Aside0 (rulesF ts ns (alts.drop m) rs = RF) ∧ Aside0 (rs.length ≤ m) ∧ Aside0 (OfSt w wr ts ns rs (.slice At ts.length ct) (.slice An ns.length cn) v3 (.slice Ava alts.length cva) alts)) (fun i _ => alts.length - (intOf i).toNat)
          case atStart => exact ⟨0,[],_,Nat.zero_le _,rfl,HRF,⟨Nat.le_refl _⟩,HSt⟩
          case round =>
            clear HSt HRF
            obtain ⟨m,rs,v3,hm,rfl,HRF,HRL,HSt⟩:=hrel
            obtain ⟨A3,c3,rfl⟩:=Kd.R_slice HSt.out.rules
            by_cases hmlt : m < alts.length
            · obtain ⟨ad,Ar,cr,ead,hx1,hx2,hx3,hx4,hRt⟩:=at_altR HSt.out.alts m hmlt
              cases ead
              obtain ⟨a,ha⟩ : ∃ a,a = alts[m]'hmlt:=⟨_,rfl⟩
              have hd:=List.drop_eq_getElem_cons hmlt
              have hsh:=HSH.out.1 (alts[m]'hmlt) (List.getElem_mem _)
              rw [← ha] at hx1 hx2 hx3 hx4 hRt hd hsh
              have hg:=HRF.out
              rw [hd,rulesF] at hg
              obtain ⟨⟨lk,lx,lp⟩,right⟩:=a
              dsimp only at hx1 hx2 hx3 hx4 hRt hsh
              have HS1:=Aside0.mk (HSt.out.step_ (below_alloc (Below.refl _ _) (.cells #[.int .i64 lk,.string lx,.int .i64 lp,.slice Ar right.length cr] 140 (0,0))))
              have HT1:=Aside0.mk (Kd.R_alloc hRt (.cells #[.int .i64 lk,.string lx,.int .i64 lp,.slice Ar right.length cr] 140 (0,0)))
              have HC1:=Aside0.mk (HS1.out.rep.2.2.2)
              have c1:=blk_cell HS1.out.cellG 0
              have c2:=blk_cell HS1.out.cellG 1
              have c3':=blk_cell HS1.out.cellG 2
              simp only [List.getElem?_toArray,List.getElem?_cons_zero,List.getElem?_cons_succ] at c1 c2 c3'
              cases hnum : numF ts ns ⟨⟨lk,lx,lp⟩,right⟩ with
              | error er =>
                obtain ⟨a,p⟩:=er
                rw [hnum] at hg
                have hR : RES = .error (a,p):=by rw [HRS.out,← hg]
                have HR:=Lib.hid hR
                have HN:=Lib.hid hnum
                clear hR hnum hg hd ha HRF
                go_wp2_with (go_at_call 74;go_loud (refine (numbered_c _ ts ns At An A3 Ar ct cn rs.length c3 cr ⟨⟨lk,lx,lp⟩,right⟩ HC1.out.terms HC1.out.names (Kd.R_reads' HT1.out).2.2 (by show right.length ≤ 4000;omega) (by omega) (by omega)).mono ?_;rw [HN.out];rintro e w5 ⟨rfl,hb5⟩))
                have hP:=blk_below HS1.out.cellG hb5
                have hQ:=blk_below HS1.out.cellF hb5
                have hB:=below_then HS1.out.below HS1.out.below.size hb5
                refine leaves_cons (f:=69) (args:=#[.pointer (some ⟨w.heap.size,0,none⟩),.pointer (some ⟨w.heap.size + 1,0,none⟩)]) (by simp) (by simp [go_sem]) ?_
                refine (of_thrown hP hQ hB).mono ?_
                rintro e u' w'' ⟨rfl,rfl,hP2,hQ2,hB2⟩
                refine ⟨_,results_of rfl rfl hP2 hQ2,?_,hB2⟩
                rw [HR.out]
                rfl
              | ok x =>
                rw [hnum] at hg
                obtain ⟨xl,xr⟩:=x
                have HG2:=Aside0.mk hg
                have HN:=Lib.hid hnum
                clear hnum hg hd ha HRF
                cases hany : rs.any (fun y => decide (y = ⟨xl,xr⟩)) with
                | true =>
                  go_wp2_with (first | (have _hq:=HS2.out;go_at_call 75;go_loud (refine (has_c A3 Bx c3 dx rs.length rs ⟨xl,xr⟩ _ HS2.out.rep.2.2.2.rules HV2.out.2.1 HV2.out.2.2).mono ?_;rw [hany];rintro e w6 ⟨rfl,hb6⟩;have HS3:=Aside0.mk (HS2.out.step_ hb6);clear hb6)) | (go_at_call 74;go_loud (refine (numbered_c _ ts ns At An A3 Ar ct cn rs.length c3 cr ⟨⟨lk,lx,lp⟩,right⟩ HC1.out.terms HC1.out.names (Kd.R_reads' HT1.out).2.2 (by show right.length ≤ 4000;omega) (by omega) (by omega)).mono ?_;rw [HN.out];rintro e w5 ⟨⟨vx,rfl,hx⟩,hb5⟩;obtain ⟨Bx,dx,rfl⟩:=Kd.R_slice hx;dsimp only at hx;have HS2:=Aside0.mk ((HS1.out.step_ hb5).step_ (below_alloc (Below.refl _ _) (.cells #[.int .i64 xl,.slice Bx xr.length dx] 46 (0,0))));have HV2:=Aside0.mk (Kd.R_reads' (Kd.R_alloc hx (.cells #[.int .i64 xl,.slice Bx xr.length dx] 46 (0,0))));have d1:=blk_cell HS2.out.cellG 2;clear hb5 hx;simp only [List.getElem?_toArray,List.getElem?_cons_zero,List.getElem?_cons_succ] at d1)))
                  go_roundw
                  case rel => exact ⟨m + 1,rs,_,by omega,by go_num,⟨by have h:=HG2.out;unfold pushF at h;rw [hany,if_pos rfl] at h;exact h⟩,⟨by have:=HRL.out;omega⟩,HS3⟩
                  case measure => simp [intOf];omega
                | false =>
                  go_wp2_with (first | (have _hq:=HS3.out;at_builtin;go_loud (refine app_rule (w0:=w) (base:=w.heap.size) (xs:=rs) (p:=⟨xl,xr⟩) (ok:=fun _ => True) rfl rfl HS3.out.rules (Kd.R_mono (Kd.R_apartR HV3.out HS3.out.rules (by decide)) (fun _ h => h.2)) HS3.out.below HS3.out.below.size (by have:=HRL.out;omega) rfl (by simp [Act.eval]) ?_;intro v7 w7 A7;obtain ⟨Av7,cv7,rfl⟩:=A7.shape;have HS4:=Aside0.mk (HS3.out.addRule A7);have G7:=blk_grown HS3.out.cellG A7.grown (Kd.R_ne HS3.out.rules HS3.out.cellG (by decide));have e1:=blk_cell G7 2;have e2:=blk_frozen G7 2;clear A7 G7;simp only [List.getElem?_toArray,List.getElem?_cons_zero,List.getElem?_cons_succ] at e1)) | (have _hq:=HS2.out;go_at_call 75;go_loud (refine (has_c A3 Bx c3 dx rs.length rs ⟨xl,xr⟩ _ HS2.out.rep.2.2.2.rules HV2.out.2.1 HV2.out.2.2).mono ?_;rw [hany];rintro e w6 ⟨rfl,hb6⟩;have HS3:=Aside0.mk (HS2.out.step_ hb6);have HV3:=Aside0.mk (Kd.R_below HX2.out hb6);have HJ3:=Aside0.mk (blk_below HJ2.out hb6);clear hb6;have f1:=blk_cell HS3.out.cellG 2;have f2:=blk_cell HJ3.out 0;have f3:=blk_cell HJ3.out 1;simp only [List.getElem?_toArray,List.getElem?_cons_zero,List.getElem?_cons_succ] at f1 f2 f3)) | (go_at_call 74;go_loud (refine (numbered_c _ ts ns At An A3 Ar ct cn rs.length c3 cr ⟨⟨lk,lx,lp⟩,right⟩ HC1.out.terms HC1.out.names (Kd.R_reads' HT1.out).2.2 (by show right.length ≤ 4000;omega) (by omega) (by omega)).mono ?_;rw [HN.out];rintro e w5 ⟨⟨vx,rfl,hx⟩,hb5⟩;obtain ⟨Bx,dx,rfl⟩:=Kd.R_slice hx;dsimp only at hx;have HS2:=Aside0.mk ((HS1.out.step_ hb5).step_ (below_alloc (Below.refl _ _) (.cells #[.int .i64 xl,.slice Bx xr.length dx] 46 (0,0))));have HV2:=Aside0.mk (Kd.R_reads' (Kd.R_alloc hx (.cells #[.int .i64 xl,.slice Bx xr.length dx] 46 (0,0))));have HX2:=Aside0.mk (Kd.R_lower (Kd.R_alloc hx (.cells #[.int .i64 xl,.slice Bx xr.length dx] 46 (0,0))) (base':=w.heap.size) HS1.out.below.size);have HJ2:=Aside0.mk (blk_new w5 (.cells #[.int .i64 xl,.slice Bx xr.length dx] 46 (0,0)));have d1:=blk_cell HS2.out.cellG 2;clear hb5 hx;simp only [List.getElem?_toArray,List.getElem?_cons_zero,List.getElem?_cons_succ] at d1)))
                  go_roundw
                  case rel => exact ⟨m + 1,rs ++ [⟨xl,xr⟩],_,by omega,by go_num,⟨by have h:=HG2.out;unfold pushF at h;rw [hany,if_neg (by simp)] at h;exact h⟩,⟨by have:=HRL.out;simp;omega⟩,HS4⟩
                  case measure => simp [intOf];omega
            · have hq:=HRF.out
              rw [List.drop_eq_nil_of_le (by omega)] at hq
              have hq2 : RF = .ok rs:=hq.symm
              subst hq2
              have hr:=HRS.out
              dsimp only at hr
              have c1:=blk_cell HSt.out.cellG 0
              have c2:=blk_cell HSt.out.cellG 1
              have c4:=blk_cell HSt.out.cellG 2
              have d1:=blk_cell HSt.out.cellF 0
              have d2:=blk_cell HSt.out.cellF 1
              have f1:=blk_frozen HSt.out.cellG 0
              have f2:=blk_frozen HSt.out.cellG 1
              have f3:=blk_frozen HSt.out.cellG 2
              have f4:=blk_frozen HSt.out.cellF 0
              have f5:=blk_frozen HSt.out.cellF 1
              simp only [List.getElem?_toArray,List.getElem?_cons_zero,List.getElem?_cons_succ] at c1 c2 c4 d1 d2
              have n1 : ¬ w.heap.size = w.heap.size + 1:=by omega
              have n2 : ¬ w.heap.size + 1 = w.heap.size:=by omega
              by_cases hbig : 40 < ns.length ∨ 40 < ts.length
              · rw [if_pos hbig] at hr
                have HR:=Lib.hid hr
                clear hr
                by_cases hb1 : 40 < ns.length
                · go_wp2_with (go_at_call 71;go_loud (refine (check_bad 14 0 (by decide) _).mono ?_;rintro e w6 ⟨rfl,hb6⟩))
                  have hP:=blk_below HSt.out.cellG hb6
                  have hQ:=blk_below HSt.out.cellF hb6
                  have hB:=below_then HSt.out.below HSt.out.below.size hb6
                  refine leaves_cons (f:=69) (args:=#[.pointer (some ⟨w.heap.size,0,none⟩),.pointer (some ⟨w.heap.size + 1,0,none⟩)]) (by simp) (by simp [go_sem]) ?_
                  refine (of_thrown hP hQ hB).mono ?_
                  rintro e u' w'' ⟨rfl,rfl,hP2,hQ2,hB2⟩
                  refine ⟨_,results_of rfl rfl hP2 hQ2,?_,hB2⟩
                  rw [HR.out]
                  rfl
                · have hb2 : 40 < ts.length:=by omega
                  go_wp2_with (go_at_call 71;go_loud (refine (check_bad 14 0 (by decide) _).mono ?_;rintro e w6 ⟨rfl,hb6⟩))
                  have hP:=blk_below HSt.out.cellG hb6
                  have hQ:=blk_below HSt.out.cellF hb6
                  have hB:=below_then HSt.out.below HSt.out.below.size hb6
                  refine leaves_cons (f:=69) (args:=#[.pointer (some ⟨w.heap.size,0,none⟩),.pointer (some ⟨w.heap.size + 1,0,none⟩)]) (by simp) (by simp [go_sem]) ?_
                  refine (of_thrown hP hQ hB).mono ?_
                  rintro e u' w'' ⟨rfl,rfl,hP2,hQ2,hB2⟩
                  refine ⟨_,results_of rfl rfl hP2 hQ2,?_,hB2⟩
                  rw [HR.out]
                  rfl
              · rw [if_neg hbig] at hr
                have HR:=Lib.hid hr
                have hb1 : ¬ 40 < ns.length:=by omega
                have hb2 : ¬ 40 < ts.length:=by omega
                clear hr hbig
                go_wp2
                refine leaves_cons (f:=69) (args:=#[.pointer (some ⟨w.heap.size,0,none⟩),.pointer (some ⟨w.heap.size + 1,0,none⟩)]) (by simp) (by simp [go_sem]) ?_
                refine (ofRec_idle _ _ _).mono ?_
                rintro e u' w'' ⟨rfl,rfl,rfl⟩
                have HF:=HSt.out.final
                refine ⟨_,results_of rfl rfl HF.cellG HF.cellF,?_,HF.below⟩
                rw [HR.out]
                exact ⟨At,An,A3,ct,cn,c3,rfl,HF.rep.2.2.2⟩
end Go.Proofs.Ytmkgcjhimajgiaa


set_option linter.unusedVariables false
set_option linter.unusedSimpArgs false
namespace Go.Proofs.Ytmkgcjhimajgiaa
open Go.RowKit Go.Proofs.YtmkgcjhimajgiaaW.PrintWords

end Go.Proofs.Ytmkgcjhimajgiaa


set_option linter.unusedVariables false
set_option linter.unusedSimpArgs false
namespace Go.Proofs.Ytmkgcjhimajgiaa
open Go.RowKit Go.Proofs.YtmkgcjhimajgiaaW.PrintWords

/-- So many truth values,told as a number. -/
def lb (n k : Nat) : Array Bool:=((List.range n).map fun i => Nat.testBit k i).toArray

theorem letter1_c (c : Int) (w : World) : Calls Try.prog 84 #[.int .u8 c] w fun e w' => e = .returned (.bool (letterB c)) ∧ w = w':=by
  by_cases h1 : 97 ≤ c <;> by_cases h2 : c ≤ 122 <;> by_cases h3 : 65 ≤ c <;> by_cases h4 : c ≤ 90 <;> try omega
  all_goals
    go_enter Try.func84,Try.ntmps84
    go_wp2
    go_ret
    exact ⟨ret_bool (by simp [letterB, *] <;> omega),rfl⟩
theorem more1_c (c : Int) (w : World) : Calls Try.prog 83 #[.int .u8 c] w fun e w' => e = .returned (.bool (innerB c)) ∧ w = w':=by
  by_cases h0 : letterB c = true <;> by_cases h3 : 48 ≤ c <;> by_cases h4 : c ≤ 57 <;> try omega
  all_goals
    go_enter Try.func83,Try.ntmps83
    go_wp2_with (go_at_call 84;refine (letter1_c _ _).mono ?_;rintro e w' ⟨rfl,rfl⟩)
    go_ret
    exact ⟨ret_bool (by simp [innerB, *] <;> try omega),rfl⟩
theorem all_of {s : ByteArray} {p : Int → Bool} (h : ∀ j (hj : j < (bsl s).length),p (bsl s)[j].toNat = true) : ((bsl s).all fun c => p c.toNat) = true:=by
  rw [List.all_eq_true]
  intro x hx
  obtain ⟨j,hj,rfl⟩:=List.mem_iff_getElem.1 hx
  exact h j hj
theorem all_no {s : ByteArray} {p : Int → Bool} {k : Nat} (hk : k < (bsl s).length) (h : p (bsl s)[k].toNat = false) : ((bsl s).all fun c => p c.toNat) = false:=by
  rw [List.all_eq_false]
  exact ⟨_,List.getElem_mem hk,by rw [h];decide⟩
set_option maxRecDepth 100000 in
set_option maxHeartbeats 2000000 in
theorem isName1_c (s : ByteArray) (w : World) (hs : s.size ≤ maxLen) : Calls Try.prog 54 #[.string s] w fun e w' => e = .returned (.bool (isNameF (bsl s))) ∧ w = w':=by
  unfold maxLen at hs
  have hl:=size_data s
  go_enter Try.func54,Try.ntmps54
  go_wp2
  go_loop [3] (fun i => ∃ k : Nat,k ≤ s.size ∧ i = .int .i64 k ∧ Aside0 (∀ j (hj : j < (bsl s).length),j < k → innerB (bsl s)[j].toNat = true)) (fun i => s.size - (intOf i).toNat)
  case atStart => exact ⟨0,Nat.zero_le _,rfl,⟨by simp⟩⟩
  case round =>
    obtain ⟨k,hk,rfl,HI⟩:=hrel
    by_cases hlt : k < s.size
    · have hlk : k < (bsl s).length:=by omega
      cases hpk : innerB (s[k]'hlt).toNat
      · go_wp2_with (go_at_call 83;refine (more1_c _ _).mono ?_;rintro e w' ⟨rfl,rfl⟩)
        go_ret
        exact ⟨ret_bool (by unfold isNameF;rw [all_no hlk (by exact hpk)];simp),rfl⟩
      · go_wp2_with (go_at_call 83;refine (more1_c _ _).mono ?_;rintro e w' ⟨rfl,rfl⟩)
        go_round
        case rel => exact ⟨k + 1,by omega,by go_num,⟨fun j hj hjk => by
          rcases Nat.lt_or_ge j k with h | h
          · exact HI.out j hj h
          · obtain rfl : j = k:=by omega
            exact hpk⟩⟩
        case measure => simp [intOf];omega
    · have ha:=all_of (fun j hj => HI.out j hj (by omega))
      have HA:=Aside0.mk ha
      clear ha
      by_cases h1 : 1 ≤ s.size
      · have h0 : 0 < s.size:=h1
        by_cases h2 : s.size ≤ 16
        · have hc : bsl s = s[0] :: (bsl s).tail:=by
            have h : bsl s = (bsl s)[0]'(by omega) :: (bsl s).tail:=by simpa using List.drop_eq_getElem_cons (l:=bsl s) (i:=0) (by omega)
            exact h
          have HE : Aside0 (isNameF (bsl s) = letterB s[0].toNat):=⟨by
            unfold isNameF
            rw [HA.out,decide_eq_true (by omega : (bsl s).length ≤ 16),Bool.true_and,Bool.and_true]
            rw [hc]⟩
          clear hc
          go_wp2_with (go_at_call 84;refine (letter1_c _ _).mono ?_;rintro e w' ⟨rfl,rfl⟩)
          go_ret
          exact ⟨ret_bool HE.out.symm,rfl⟩
        · go_wp2
          go_ret
          exact ⟨ret_bool (by unfold isNameF;rw [decide_eq_false (by omega)];rfl),rfl⟩
      · go_wp2
        go_ret
        exact ⟨ret_bool (by
          have : bsl s = []:=List.eq_nil_of_length_eq_zero (by omega)
          rw [this];rfl),rfl⟩
set_option maxRecDepth 100000 in
set_option maxHeartbeats 2000000 in
theorem isTerm1_c (s : ByteArray) (w : World) (hs : s.size ≤ maxLen) : Calls Try.prog 56 #[.string s] w fun e w' => e = .returned (.bool (isTermF (bsl s))) ∧ w = w':=by
  unfold maxLen at hs
  have hl:=size_data s
  go_enter Try.func56,Try.ntmps56
  go_wp2
  go_loop [3] (fun i => ∃ k : Nat,k ≤ s.size ∧ i = .int .i64 k ∧ Aside0 (∀ j (hj : j < (bsl s).length),j < k → insideB (bsl s)[j].toNat = true)) (fun i => s.size - (intOf i).toNat)
  case atStart => exact ⟨0,Nat.zero_le _,rfl,⟨by simp⟩⟩
  case round =>
    obtain ⟨k,hk,rfl,HI⟩:=hrel
    by_cases hlt : k < s.size
    · have hlk : k < (bsl s).length:=by omega
      have hbv : (bsl s)[k]'hlk = s[k]'hlt:=rfl
      by_cases g1 : ((s[k]'hlt).toNat : Int) < 32
      · go_wp2
        go_ret
        exact ⟨ret_bool (by unfold isTermF;rw [all_no (p:=insideB) hlk (by rw [hbv];unfold insideB;rw [decide_eq_false (by omega)];rfl)];simp),rfl⟩
      · by_cases g2 : (126 : Int) < (s[k]'hlt).toNat
        · go_wp2
          go_ret
          exact ⟨ret_bool (by unfold isTermF;rw [all_no (p:=insideB) hlk (by rw [hbv];unfold insideB;rw [decide_eq_false (by omega)];rfl)];simp),rfl⟩
        · by_cases g3 : (s[k]'hlt).toNat = 39
          · have b3 : (((s[k]'hlt).toNat : Int) == 39) = true:=by rw [g3];rfl
            go_wp2
            go_ret
            exact ⟨ret_bool (by unfold isTermF;rw [all_no (p:=insideB) hlk (by rw [hbv,g3];rfl)];simp),rfl⟩
          · have hin : insideB (s[k]'hlt).toNat = true:=by
              unfold insideB
              rw [decide_eq_true (by omega),Bool.true_and,bne_iff_ne]
              omega
            have b3 : (((s[k]'hlt).toNat : Int) == 39) = false:=by rw [beq_eq_false_iff_ne];omega
            have HIN:=Aside0.mk hin
            clear g3 hin
            go_wp2
            go_round
            case rel => exact ⟨k + 1,by omega,by go_num,⟨fun j hj hjk => by
              rcases Nat.lt_or_ge j k with h | h
              · exact HI.out j hj h
              · obtain rfl : j = k:=by omega
                exact HIN.out⟩⟩
            case measure => simp [intOf];omega
    · have ha:=all_of (fun j hj => HI.out j hj (by omega))
      have HA:=Aside0.mk ha
      clear ha
      by_cases h1 : 1 ≤ s.size
      · by_cases h2 : s.size ≤ 16
        · go_wp2
          go_ret
          exact ⟨ret_bool (by unfold isTermF;rw [HA.out,decide_eq_true (by omega : 1 ≤ (bsl s).length),decide_eq_true (by omega : (bsl s).length ≤ 16)];simp only [Bool.and_true];exact decide_eq_true (by omega)),rfl⟩
        · go_wp2
          go_ret
          exact ⟨ret_bool (by unfold isTermF;rw [decide_eq_false (by omega : ¬ (bsl s).length ≤ 16)];simp only [Bool.and_false,Bool.false_and];exact decide_eq_false (by omega)),rfl⟩
      · go_wp2
        go_ret
        exact ⟨ret_bool (by unfold isTermF;rw [decide_eq_false (by omega : ¬ 1 ≤ (bsl s).length)];rfl),rfl⟩
end Go.Proofs.Ytmkgcjhimajgiaa

