/- The contract of a rule's numbers. -/
import Derived.Test.YtphmmppmhphgeaaC5
import Derived.Test.YtphmmppmhphgeaaWLast
set_option linter.unusedVariables false
set_option linter.unusedSimpArgs false
namespace Go.Proofs.Ytphmmppmhphgeaa
open Go.RowKit Go.Proofs.YtphmmppmhphgeaaW.PrintWords Go.Proofs.YtphmmppmhphgeaaW.PrintLast

def idxF (l : List ByteArray) (s : ByteArray) : Int := posF (fun y => decide (s = y)) l 0
def symF (terms names : List ByteArray) (t : Tok) : Except (Int × Int) Int :=
  if t.kind = 2 then .ok (idxF terms t.text) else if idxF names t.text < 0 then .error (13, t.pos) else .ok (terms.length + idxF names t.text)
def rightF (terms names : List ByteArray) : List Tok → List Int → Except (Int × Int) (List Int)
  | [], acc => .ok acc
  | t :: r, acc => match symF terms names t with
    | .error e => .error e
    | .ok i => rightF terms names r (acc ++ [i])
def numF (terms names : List ByteArray) (a : Alt) : Except (Int × Int) Rule :=
  match rightF terms names a.right [] with
  | .error e => .error e
  | .ok r => .ok ⟨terms.length + idxF names a.left.text, r⟩
theorem idxF_ge (l : List ByteArray) (s : ByteArray) : idxF l s = -1 ∨ 0 ≤ idxF l s ∧ idxF l s < l.length := by
  have := posF_ge (fun y => decide (s = y)) l 0
  unfold idxF
  omega
def NumEnd (w : World) : Except (Int × Int) Rule → Ending → World → Prop
  | .error (a, p), e, w' => e = .panicked (faultV a p)
  | .ok r, e, w' => ∃ v, e = .returned (.agg #[.int .i64 r.left, v]) ∧ kInt.R 3 w' w.heap.size (fun _ => True) v r.right

theorem app_int_step {ops : Array Oper} {o : Oper} {a : Act} {Q : Exit → Act → World → Prop} {Kc : Act → World → Prop} {base : Nat} {w0 W : World} {v : Value} {ok : Nat → Prop} {s x : Operand} {xs : List Int} {p : Int} (hw : Region.wanted o (yielded ops a.tmps) = true) (ho : o.op = .call { callee := .builtin .append, args := #[s, x], argTypes := #[54, 54] })
    (HO : kInt.R 3 W base ok v xs) (HB : Below base w0 W) (hbase : base ≤ W.heap.size) (hl : xs.length + 1 ≤ 4000000000000) (hfresh : ∀ k, W.heap.size ≤ k → ok k) (hs : a.eval s = v) (hx : a.eval x = .slice (some ⟨W.heap.size, 0, none⟩) 1 1)
    (h : ∀ v1 w1, Appd kInt 3 w0 W base ok v (xs ++ [p]) v1 w1 → Kc (a.put o.dst v1) w1) :
    if Region.wanted o (yielded ops a.tmps) = true then Oper.wp Try.prog o a (W.alloc (.cells #[.int .i64 p] 3)) Kc Q else Kc (a.put o.dst undef) (W.alloc (.cells #[.int .i64 p] 3)) :=
  Kd.R_append_step kInt base hw s x 54 3 _ 8 ho Try.underlying54 infoInt rfl (by decide) (by decide) v xs p [.int .i64 p] ok (fun _ => False) hs hx rfl (fun _ h => h.elim) hfresh HO HB hbase (by omega) (fun v1 w1 h1 h2 h3 h4 => h v1 w1 ⟨h1, h2, h3, h4⟩)

theorem results_num {tmps : Array Value} {W : World} {g : Nat} {A : Option Addr} {n c : Nat} {x : Int} (t4 : tmps.getD 4 undef = .pointer (some ⟨g, 0, none⟩))
    (h : W.heap[g]? = some (.cells #[.int .i64 x, .slice A n c] 56 (0, 0))) :
    (results Try.f48 tmps).run Try.prog W = .ok (.agg #[.int .i64 x, .slice A n c]) W := by
  have d1 := blk_cell h 0
  have d2 := blk_cell h 1
  simp only [List.getElem?_toArray, List.getElem?_cons_zero, List.getElem?_cons_succ] at d1 d2
  simp only [Array.getD_eq_getD_getElem?] at t4
  simp [results, Try.results48, go_sem, d1, d2, t4]
set_option maxRecDepth 100000 in
set_option maxHeartbeats 4000000 in
theorem numbered_c (W : World) (terms names : List ByteArray) (A1 A2 A3 Ar : Option Addr) (c1 c2 n3 c3 cr : Nat) (a : Alt) (h1 : kStr.C W A1 terms.length terms) (h2 : kStr.C W A2 names.length names) (hr : kTok.C W Ar a.right.length a.right) (hl : a.right.length ≤ 4000) (ht : terms.length ≤ 4000) (hn : names.length ≤ 4000) :
    Calls Try.prog 48 #[.agg #[.slice A1 terms.length c1, .slice A2 names.length c2, .slice A3 n3 c3], .agg #[.int .i64 a.left.kind, .string a.left.text, .int .i64 a.left.pos, .slice Ar a.right.length cr]] W fun e w' => NumEnd W (numF terms names a) e w' ∧ Below W.heap.size W w' := by
  obtain ⟨G2, hG2⟩ : ∃ o : Obj, o = .cells #[.slice A1 terms.length c1, .slice A2 names.length c2, .slice A3 n3 c3] 25 (0, 0) := ⟨_, rfl⟩
  have k2 := blk_alloc (blk_alloc (blk_new W (.cells #[.slice A1 terms.length c1, .slice A2 names.length c2, .slice A3 n3 c3] 25 (0, 0))) (.cells #[.int .i64 a.left.kind, .string a.left.text, .int .i64 a.left.pos, .slice Ar a.right.length cr] 74 (0, 0))) (.cells #[.int .i64 0, .slice none 0 0] 56 (0, 0))
  have k3 := blk_alloc (blk_new (W.alloc (.cells #[.slice A1 terms.length c1, .slice A2 names.length c2, .slice A3 n3 c3] 25 (0, 0))) (.cells #[.int .i64 a.left.kind, .string a.left.text, .int .i64 a.left.pos, .slice Ar a.right.length cr] 74 (0, 0))) (.cells #[.int .i64 0, .slice none 0 0] 56 (0, 0))
  rw [show (W.alloc (.cells #[.slice A1 terms.length c1, .slice A2 names.length c2, .slice A3 n3 c3] 25 (0, 0))).heap.size = W.heap.size + 1 by simp] at k3
  have K2 := Aside0.mk k2
  have K3 := Aside0.mk k3
  have HT := Aside0.mk h1
  have HN := Aside0.mk h2
  have HR := Aside0.mk hr
  have HB := Aside0.mk ((((Below.refl W.heap.size W).alloc (Nat.le_refl _) (.cells #[.slice A1 terms.length c1, .slice A2 names.length c2, .slice A3 n3 c3] 25 (0, 0))).alloc (by simp) (.cells #[.int .i64 a.left.kind, .string a.left.text, .int .i64 a.left.pos, .slice Ar a.right.length cr] 74 (0, 0))).alloc (by simp; omega) (.cells #[.int .i64 0, .slice none 0 0] 56 (0, 0)))
  have hw1 : IntKind.i64.wrap (terms.length + posF (fun y => decide (a.left.text = y)) names 0) = terms.length + posF (fun y => decide (a.left.text = y)) names 0 := by
    have := idxF_ge names a.left.text
    unfold idxF at this
    rw [IntKind.wrap_i64]
    omega
  clear k2 k3 h1 h2 hr
  go_enter Try.func48, Try.ntmps48
  go_wp2
  refine start_ (n := 13) (S := fun w' => w'.heap[W.heap.size]? = some (.cells #[.slice A1 terms.length c1, .slice A2 names.length c2, .slice A3 n3 c3] 25 (0, 0)) ∧ w'.heap[W.heap.size + 1]? = some (.cells #[.int .i64 a.left.kind, .string a.left.text, .int .i64 a.left.pos, .slice Ar a.right.length cr] 74 (0, 0))) (ds := [12]) #[false, false, false, false, false, false, false, false, false, false, false, false, false] (by kernel_rfl) rfl rfl (⟨blk_drew K2.out, blk_drew K3.out⟩) (fun hHeld => ?_)
  refine pure_ (i := 0) (N := (some 9)) (v := ?_) (a' := ?_) #[true, false, false, false, false, false, false, false, false, false, false, false, false] rfl rfl (by kernel_rfl) (fun _ _ _ h => h) (Or.inl ⟨by rfl, ?_⟩) ?_ ?_
  rotate_left
  · (intro w'; go_simp; with_reducible rfl)
  rotate_left
  · (simp only [Act.put, List.setIfInBounds_toArray, List.set_cons_zero, List.set_cons_succ]; rfl)
  refine pure_ (i := 3) (N := (some 12)) (v := ?_) (a' := ?_) #[true, false, false, true, false, false, false, false, false, false, false, false, false] rfl rfl (by kernel_rfl) (fun _ _ _ h => h) (Or.inl ⟨by rfl, ?_⟩) ?_ ?_
  rotate_left
  · (intro w'; go_simp; with_reducible rfl)
  rotate_left
  · (simp only [Act.put, List.setIfInBounds_toArray, List.set_cons_zero, List.set_cons_succ]; rfl)
  refine pure_ (i := 5) (N := (some 14)) (v := ?_) (a' := ?_) #[true, false, false, true, false, true, false, false, false, false, false, false, false] rfl rfl (by kernel_rfl) (fun _ _ _ h => h) (Or.inl ⟨by rfl, ?_⟩) ?_ ?_
  rotate_left
  · (intro w'; go_simp; with_reducible rfl)
  rotate_left
  · (simp only [Act.put, List.setIfInBounds_toArray, List.set_cons_zero, List.set_cons_succ]; rfl)
  refine pure_ (i := 6) (N := (some 15)) (v := ?_) (a' := ?_) #[true, false, false, true, false, true, true, false, false, false, false, false, false] rfl rfl (by kernel_rfl) (fun _ _ _ h => h) (Or.inl ⟨by rfl, ?_⟩) ?_ ?_
  rotate_left
  · (intro w'; go_simp; with_reducible rfl)
  rotate_left
  · (simp only [Act.put, List.setIfInBounds_toArray, List.set_cons_zero, List.set_cons_succ]; rfl)
  refine take_ (i := 1) (N := (some 10)) (v := ?_) (a' := ?_) #[true, true, false, true, false, true, true, false, false, false, false, false, false] rfl rfl (by kernel_rfl) (fun _ _ _ h => h) (Or.inl ⟨by rfl, ?_⟩) hHeld ?_ ?_
  rotate_left
  · (rintro w' ⟨s0, s1⟩; have d0 := blk_cell s0 0; have d1 := blk_cell s0 1; have d2 := blk_cell s1 1; simp only [List.getElem?_toArray, List.getElem?_cons_zero, List.getElem?_cons_succ] at d0 d1 d2; go_simp; with_reducible rfl)
  rotate_left
  · (simp only [Act.put, List.setIfInBounds_toArray, List.set_cons_zero, List.set_cons_succ]; rfl)
  refine pure_ (i := 2) (N := (some 11)) (v := ?_) (a' := ?_) #[true, true, true, true, false, true, true, false, false, false, false, false, false] rfl rfl (by kernel_rfl) (fun _ _ _ h => h) (Or.inl ⟨by rfl, ?_⟩) ?_ ?_
  rotate_left
  · (intro w'; go_simp; with_reducible rfl)
  rotate_left
  · (simp only [Act.put, List.setIfInBounds_toArray, List.set_cons_zero, List.set_cons_succ]; rfl)
  refine take_ (i := 4) (N := (some 13)) (v := ?_) (a' := ?_) #[true, true, true, true, true, true, true, false, false, false, false, false, false] rfl rfl (by kernel_rfl) (fun _ _ _ h => h) (Or.inl ⟨by rfl, ?_⟩) hHeld ?_ ?_
  rotate_left
  · (rintro w' ⟨s0, s1⟩; have d0 := blk_cell s0 0; have d1 := blk_cell s0 1; have d2 := blk_cell s1 1; simp only [List.getElem?_toArray, List.getElem?_cons_zero, List.getElem?_cons_succ] at d0 d1 d2; go_simp; with_reducible rfl)
  rotate_left
  · (simp only [Act.put, List.setIfInBounds_toArray, List.set_cons_zero, List.set_cons_succ]; rfl)
  refine take_ (i := 7) (N := (some 16)) (v := ?_) (a' := ?_) #[true, true, true, true, true, true, true, true, false, false, false, false, false] rfl rfl (by kernel_rfl) (fun _ _ _ h => h) (Or.inl ⟨by rfl, ?_⟩) hHeld ?_ ?_
  rotate_left
  · (rintro w' ⟨s0, s1⟩; have d0 := blk_cell s0 0; have d1 := blk_cell s0 1; have d2 := blk_cell s1 1; simp only [List.getElem?_toArray, List.getElem?_cons_zero, List.getElem?_cons_succ] at d0 d1 d2; go_simp; with_reducible rfl)
  rotate_left
  · (simp only [Act.put, List.setIfInBounds_toArray, List.set_cons_zero, List.set_cons_succ]; rfl)
  refine join_ (σ := Unit) 1 #[true, true, true, true, true, true, true, true, true, true, true, true, false] (fun _ => [(17, .int .i64 (posF (fun y => decide (a.left.text = y)) names 0)), (5, .pointer (some ⟨W.heap.size + 1 + 1 + 1, 0, none⟩)), (18, .int .i64 (terms.length + posF (fun y => decide (a.left.text = y)) names 0)), (19, .agg #[.int .i64 (terms.length + posF (fun y => decide (a.left.text = y)) names 0), .slice none 0 0])]) (fun _ w' => w' = ((((W.alloc (.cells #[.slice A1 terms.length c1, .slice A2 names.length c2, .slice A3 n3 c3] 25 (0, 0))).alloc (.cells #[.int .i64 a.left.kind, .string a.left.text, .int .i64 a.left.pos, .slice Ar a.right.length cr] 74 (0, 0))).alloc (.cells #[.int .i64 0, .slice none 0 0] 56 (0, 0))).drew.alloc (.cells #[.int .i64 0, .slice none 0 0] 56 (0, 0)))) ?_ ?_
  rotate_left
  · intro hrest
    simp only [putAll, Act.put, List.setIfInBounds_toArray, List.set_cons_zero, List.set_cons_succ] at hrest
    refine two_ (i := 8) (j := 11) (Ni := (some 17)) (Nj := (some 5)) #[true, true, true, true, true, true, true, true, true, false, false, false, false] #[true, true, true, true, true, true, true, true, false, false, false, true, false] rfl rfl rfl rfl (by kernel_rfl) (by decide) (by decide) (fun K hK => ?_) (fun K hK => ?_)
    · (refine goes_ Try.func76 (by kernel_rfl) rfl #[.slice A2 names.length c2, .string a.left.text] (by rfl) rfl rfl (by simp [Act.eval]) ?_; refine (indexStr_c _ _ _ _ _ (Kd.C_below HN.out (by first | exact HB.out.drew | exact HB.out.drew.alloc HB.out.drew.size _))).mono ?_; rintro e w' ⟨rfl, rfl⟩; refine ⟨_, rfl, ?_⟩; refine hK.out _ _ hHeld (fun hHeld => ?_))
      clear hK K
      refine norm_ (a' := ?_) ?_ ?_
      rotate_left
      · (show Act.put _ (some 17) _ = _; simp only [Act.put, List.setIfInBounds_toArray, List.set_cons_zero, List.set_cons_succ]; rfl)
      refine pure_ (i := 9) (N := (some 18)) (v := ?_) (a' := ?_) #[true, true, true, true, true, true, true, true, true, true, false, false, false] rfl rfl (by kernel_rfl) (fun _ _ _ h => h) (Or.inl ⟨by rfl, ?_⟩) ?_ ?_
      rotate_left
      · (intro w'; go_simp; with_reducible rfl)
      rotate_left
      · (simp only [Act.put, List.setIfInBounds_toArray, List.set_cons_zero, List.set_cons_succ]; rfl)
      refine pure_ (i := 10) (N := (some 19)) (v := ?_) (a' := ?_) #[true, true, true, true, true, true, true, true, true, true, true, false, false] rfl rfl (by kernel_rfl) (fun _ _ _ h => h) (Or.inl ⟨by rfl, ?_⟩) ?_ ?_
      rotate_left
      · (intro w'; go_simp; with_reducible rfl)
      rotate_left
      · (simp only [Act.put, List.setIfInBounds_toArray, List.set_cons_zero, List.set_cons_succ]; rfl)
      refine one_ (i := 11) (N := (some 5)) #[true, true, true, true, true, true, true, true, true, true, true, true, false] rfl rfl (by kernel_rfl) (by decide) (fun K hK => ?_)
      refine value_ (w1 := ?_) (v := ?_) (by rfl) rfl ?_ ?_
      rotate_left 2
      · (go_simp; constructor; rfl; rfl)
      refine hK.out _ _ (⟨blk_alloc hHeld.1 _, blk_alloc hHeld.2 _⟩) (fun hHeld => ?_)
      clear hK K
      refine norm_ (a' := ?_) ?_ ?_
      rotate_left
      · (show Act.put _ (some 5) _ = _; simp only [Act.put, List.setIfInBounds_toArray, List.set_cons_zero, List.set_cons_succ]; rfl)
      exact hrest () _ rfl
    · refine value_ (w1 := ?_) (v := ?_) (by rfl) rfl ?_ ?_
      rotate_left 2
      · (go_simp; constructor; rfl; rfl)
      refine hK.out _ _ (⟨blk_alloc hHeld.1 _, blk_alloc hHeld.2 _⟩) (fun hHeld => ?_)
      clear hK K
      refine norm_ (a' := ?_) ?_ ?_
      rotate_left
      · (show Act.put _ (some 5) _ = _; simp only [Act.put, List.setIfInBounds_toArray, List.set_cons_zero, List.set_cons_succ]; rfl)
      refine one_ (i := 8) (N := (some 17)) #[true, true, true, true, true, true, true, true, true, false, false, true, false] rfl rfl (by kernel_rfl) (by decide) (fun K hK => ?_)
      (refine goes_ Try.func76 (by kernel_rfl) rfl #[.slice A2 names.length c2, .string a.left.text] (by rfl) rfl rfl (by simp [Act.eval]) ?_; refine (indexStr_c _ _ _ _ _ (Kd.C_below HN.out (by first | exact HB.out.drew | exact HB.out.drew.alloc HB.out.drew.size _))).mono ?_; rintro e w' ⟨rfl, rfl⟩; refine ⟨_, rfl, ?_⟩; refine hK.out _ _ hHeld (fun hHeld => ?_))
      clear hK K
      refine norm_ (a' := ?_) ?_ ?_
      rotate_left
      · (show Act.put _ (some 17) _ = _; simp only [Act.put, List.setIfInBounds_toArray, List.set_cons_zero, List.set_cons_succ]; rfl)
      refine pure_ (i := 9) (N := (some 18)) (v := ?_) (a' := ?_) #[true, true, true, true, true, true, true, true, true, true, false, true, false] rfl rfl (by kernel_rfl) (fun _ _ _ h => h) (Or.inl ⟨by rfl, ?_⟩) ?_ ?_
      rotate_left
      · (intro w'; go_simp; with_reducible rfl)
      rotate_left
      · (simp only [Act.put, List.setIfInBounds_toArray, List.set_cons_zero, List.set_cons_succ]; rfl)
      refine pure_ (i := 10) (N := (some 19)) (v := ?_) (a' := ?_) #[true, true, true, true, true, true, true, true, true, true, true, true, false] rfl rfl (by kernel_rfl) (fun _ _ _ h => h) (Or.inl ⟨by rfl, ?_⟩) ?_ ?_
      rotate_left
      · (intro w'; go_simp; with_reducible rfl)
      rotate_left
      · (simp only [Act.put, List.setIfInBounds_toArray, List.set_cons_zero, List.set_cons_succ]; rfl)
      exact hrest () _ rfl
  rintro _ w' rfl
  skip
  skip
  refine norm_ (a' := ?_) ?_ ?_
  rotate_left
  · (simp only [putAll, Act.put, List.setIfInBounds_toArray, List.set_cons_zero, List.set_cons_succ]; rfl)
  refine last_ (i := 12) (N := none) #[true, true, true, true, true, true, true, true, true, true, true, true, true] rfl rfl (by kernel_rfl) (by decide) (fun K hK => ?_)
  skip
  refine skip_ (w1 := ?_) (by rfl) rfl ?_ ?_
  rotate_left
  · (go_simp; rfl)
  refine hK.out _ _ ?_
  clear hK K
  refine done_ (by kernel_rfl) ?_
  go_wp2
  have K4 := Aside0.mk (blk_alloc (blk_new ((W.alloc (.cells #[.slice A1 terms.length c1, .slice A2 names.length c2, .slice A3 n3 c3] 25 (0, 0))).alloc (.cells #[.int .i64 a.left.kind, .string a.left.text, .int .i64 a.left.pos, .slice Ar a.right.length cr] 74 (0, 0))) (.cells #[.int .i64 0, .slice none 0 0] 56 (0, 0))) (.cells #[.int .i64 (terms.length + posF (fun y => decide (a.left.text = y)) names 0), .slice none 0 0] 56 (0, 0)))
  have K5 := Aside0.mk (blk_new (((W.alloc (.cells #[.slice A1 terms.length c1, .slice A2 names.length c2, .slice A3 n3 c3] 25 (0, 0))).alloc (.cells #[.int .i64 a.left.kind, .string a.left.text, .int .i64 a.left.pos, .slice Ar a.right.length cr] 74 (0, 0))).alloc (.cells #[.int .i64 0, .slice none 0 0] 56 (0, 0))) (.cells #[.int .i64 (terms.length + posF (fun y => decide (a.left.text = y)) names 0), .slice none 0 0] 56 (0, 0)))
  obtain ⟨L, hLeft⟩ : ∃ L : Int, L = (terms.length + posF (fun y => decide (a.left.text = y)) names 0) := ⟨_, rfl⟩
  rw [← hLeft] at K4 K5
  have HLeft := Lib.hid hLeft
  have hw0 : IntKind.i64.wrap ((terms.length : Int) + 0) = terms.length := by rw [IntKind.wrap_i64]; omega
  simp only [← hLeft]
  clear hLeft hw1 hw0
  obtain ⟨RES, hRES⟩ : ∃ r, rightF terms names a.right [] = r := ⟨_, rfl⟩
  have HRES := Aside0.mk hRES
  have HR0 := Lib.hid hRES
  clear hRES
  go_loopw [23] (fun i wr => ∃ (k : Nat) (acc : List Int) (u : Value), k ≤ a.right.length ∧ i = .int .i64 k ∧ Aside0 (rightF terms names (a.right.drop k) acc = RES) ∧ Aside0 (acc.length ≤ k) ∧ Aside0 (wr.heap[W.heap.size]? = some (.cells #[.slice A1 terms.length c1, .slice A2 names.length c2, .slice A3 n3 c3] 25 (0, 0))) ∧ Aside0 (wr.heap[W.heap.size + 1 + 1]? = some (.cells #[.int .i64 0, .slice none 0 0] 56 (0, 0))) ∧ Aside0 (wr.heap[W.heap.size + 1 + 1 + 1]? = some (.cells #[.int .i64 L, u] 56 (0, 0))) ∧ Aside0 (kInt.R 3 wr W.heap.size (fun _ => True) u acc) ∧ Aside0 (Below W.heap.size W wr)) (fun i _ => a.right.length - (intOf i).toNat)
  case atStart =>
    refine ⟨0, [], .slice none 0 0, Nat.zero_le _, rfl, HRES, ⟨Nat.le_refl _⟩, ⟨blk_alloc K2.out _⟩, ⟨?_⟩, ⟨?_⟩, ⟨Kd.R_nil _ _ _ _ _⟩, ⟨below_drew1 (HB.out.alloc HB.out.size _)⟩⟩
    · have h := K4.out
      rw [show ((W.alloc (.cells #[.slice A1 terms.length c1, .slice A2 names.length c2, .slice A3 n3 c3] 25 (0, 0))).alloc (.cells #[.int .i64 a.left.kind, .string a.left.text, .int .i64 a.left.pos, .slice Ar a.right.length cr] 74 (0, 0))).heap.size = W.heap.size + 1 + 1 by simp] at h
      exact blk_drew h
    · have h := K5.out
      rw [show (((W.alloc (.cells #[.slice A1 terms.length c1, .slice A2 names.length c2, .slice A3 n3 c3] 25 (0, 0))).alloc (.cells #[.int .i64 a.left.kind, .string a.left.text, .int .i64 a.left.pos, .slice Ar a.right.length cr] 74 (0, 0))).alloc (.cells #[.int .i64 0, .slice none 0 0] 56 (0, 0))).heap.size = W.heap.size + 1 + 1 + 1 by simp] at h
      exact blk_drew h
  case round =>
    clear K2 K3 K4 K5 HRES HB
    obtain ⟨k, acc, u, hk, rfl, HE, HA, K2, K4, K5, HU, HB⟩ := hrel
    obtain ⟨Au, cu, rfl⟩ := Kd.R_slice HU.out
    by_cases hlt : k < a.right.length
    · obtain ⟨ad, ead, hx, hy, hz⟩ := at_tok (Kd.C_below HR.out HB.out) k hlt
      cases ead
      obtain ⟨t, ht⟩ : ∃ t, t = a.right[k]'hlt := ⟨_, rfl⟩
      rw [← ht] at hx hy hz
      have hd := List.drop_eq_getElem_cons hlt
      rw [← ht] at hd
      have he := HE.out
      rw [hd, rightF] at he
      obtain ⟨tk, tx, tp⟩ := t
      have HS := Lib.hid he
      clear he hd ht HE
      have hltw : W.heap.size + 1 + 1 + 1 < wr.heap.size := blk_lt K5.out
      have HT1 := Aside0.mk (Kd.C_below HT.out (HB.out.alloc HB.out.size (.cells #[.int .i64 tk, .string tx, .int .i64 tp] 49 (0, 0))))
      have HN1 := Aside0.mk (Kd.C_below HN.out (HB.out.alloc HB.out.size (.cells #[.int .i64 tk, .string tx, .int .i64 tp] 49 (0, 0))))
      have J2 := Aside0.mk (blk_alloc K2.out (.cells #[.int .i64 tk, .string tx, .int .i64 tp] 49 (0, 0)))
      have J4 := Aside0.mk (blk_alloc K4.out (.cells #[.int .i64 tk, .string tx, .int .i64 tp] 49 (0, 0)))
      have J5 := Aside0.mk (blk_alloc K5.out (.cells #[.int .i64 tk, .string tx, .int .i64 tp] 49 (0, 0)))
      have J7 := Aside0.mk (blk_new wr (.cells #[.int .i64 tk, .string tx, .int .i64 tp] 49 (0, 0)))
      have JB := Aside0.mk (HB.out.alloc HB.out.size (.cells #[.int .i64 tk, .string tx, .int .i64 tp] 49 (0, 0)))
      have JU := Aside0.mk (Kd.R_alloc HU.out (.cells #[.int .i64 tk, .string tx, .int .i64 tp] 49 (0, 0)))
      have j1 := blk_cell J2.out 0
      have j2 := blk_cell J2.out 1
      have j3 := blk_cell J5.out 1
      have j4 := blk_frozen J5.out 1
      simp only [List.getElem?_toArray, List.getElem?_cons_zero, List.getElem?_cons_succ] at j1 j2 j3
      by_cases hq : tk = 2
      · subst hq
        have hs2 : symF terms names ⟨2, tx, tp⟩ = .ok (idxF terms tx) := rfl
        have HS2 := HS.out
        rw [hs2] at HS2
        have HS3 := Aside0.mk HS2
        clear HS2 HS hs2
        go_wp2
        refine start_ (n := 11) (S := fun w' => w'.heap[W.heap.size]? = some (.cells #[.slice A1 terms.length c1, .slice A2 names.length c2, .slice A3 n3 c3] 25 (0, 0)) ∧ w'.heap[W.heap.size + 1 + 1 + 1]? = some (.cells #[.int .i64 L, .slice Au acc.length cu] 56 (0, 0)) ∧ w'.heap[wr.heap.size]? = some (.cells #[.int .i64 2, .string tx, .int .i64 tp] 49 (0, 0))) (ds := [8, 10]) #[false, false, false, false, false, false, false, false, false, false, false] (by kernel_rfl) rfl rfl (⟨blk_drew J2.out, blk_drew J5.out, blk_drew J7.out⟩) (fun hHeld => ?_)
        refine pure_ (i := 0) (N := (some 30)) (v := ?_) (a' := ?_) #[true, false, false, false, false, false, false, false, false, false, false] rfl rfl (by kernel_rfl) (fun _ _ _ h => h) (Or.inl ⟨by rfl, ?_⟩) ?_ ?_
        rotate_left
        · (intro w'; go_simp; with_reducible rfl)
        rotate_left
        · (simp only [Act.put, List.setIfInBounds_toArray, List.set_cons_zero, List.set_cons_succ]; rfl)
        refine pure_ (i := 2) (N := (some 32)) (v := ?_) (a' := ?_) #[true, false, true, false, false, false, false, false, false, false, false] rfl rfl (by kernel_rfl) (fun _ _ _ h => h) (Or.inl ⟨by rfl, ?_⟩) ?_ ?_
        rotate_left
        · (intro w'; go_simp; with_reducible rfl)
        rotate_left
        · (simp only [Act.put, List.setIfInBounds_toArray, List.set_cons_zero, List.set_cons_succ]; rfl)
        refine pure_ (i := 4) (N := (some 34)) (v := ?_) (a' := ?_) #[true, false, true, false, true, false, false, false, false, false, false] rfl rfl (by kernel_rfl) (fun _ _ _ h => h) (Or.inl ⟨by rfl, ?_⟩) ?_ ?_
        rotate_left
        · (intro w'; go_simp; with_reducible rfl)
        rotate_left
        · (simp only [Act.put, List.setIfInBounds_toArray, List.set_cons_zero, List.set_cons_succ]; rfl)
        refine take_ (i := 1) (N := (some 31)) (v := ?_) (a' := ?_) #[true, true, true, false, true, false, false, false, false, false, false] rfl rfl (by kernel_rfl) (fun _ _ _ h => h) (Or.inl ⟨by rfl, ?_⟩) hHeld ?_ ?_
        rotate_left
        · (rintro w' ⟨s0, s1, s2⟩; have d0 := blk_cell s0 0; have d1 := blk_cell s1 1; have d2 := blk_cell s2 1; simp only [List.getElem?_toArray, List.getElem?_cons_zero, List.getElem?_cons_succ] at d0 d1 d2; go_simp; with_reducible rfl)
        rotate_left
        · (simp only [Act.put, List.setIfInBounds_toArray, List.set_cons_zero, List.set_cons_succ]; rfl)
        refine take_ (i := 3) (N := (some 33)) (v := ?_) (a' := ?_) #[true, true, true, true, true, false, false, false, false, false, false] rfl rfl (by kernel_rfl) (fun _ _ _ h => h) (Or.inl ⟨by rfl, ?_⟩) hHeld ?_ ?_
        rotate_left
        · (rintro w' ⟨s0, s1, s2⟩; have d0 := blk_cell s0 0; have d1 := blk_cell s1 1; have d2 := blk_cell s2 1; simp only [List.getElem?_toArray, List.getElem?_cons_zero, List.getElem?_cons_succ] at d0 d1 d2; go_simp; with_reducible rfl)
        rotate_left
        · (simp only [Act.put, List.setIfInBounds_toArray, List.set_cons_zero, List.set_cons_succ]; rfl)
        refine take_ (i := 5) (N := (some 35)) (v := ?_) (a' := ?_) #[true, true, true, true, true, true, false, false, false, false, false] rfl rfl (by kernel_rfl) (fun _ _ _ h => h) (Or.inl ⟨by rfl, ?_⟩) hHeld ?_ ?_
        rotate_left
        · (rintro w' ⟨s0, s1, s2⟩; have d0 := blk_cell s0 0; have d1 := blk_cell s1 1; have d2 := blk_cell s2 1; simp only [List.getElem?_toArray, List.getElem?_cons_zero, List.getElem?_cons_succ] at d0 d1 d2; go_simp; with_reducible rfl)
        rotate_left
        · (simp only [Act.put, List.setIfInBounds_toArray, List.set_cons_zero, List.set_cons_succ]; rfl)
        refine one_ (i := 6) (N := (some 36)) #[true, true, true, true, true, true, true, false, false, false, false] rfl rfl (by kernel_rfl) (by decide) (fun K hK => ?_)
        (refine goes_ Try.func76 (by kernel_rfl) rfl #[.slice A1 terms.length c1, .string tx] (by rfl) rfl rfl (by simp [Act.eval]) ?_; refine (indexStr_c _ _ _ _ _ (Kd.C_below HT1.out (below_drew1 (Below.refl _ _)))).mono ?_; rintro e w' ⟨rfl, rfl⟩; refine ⟨_, rfl, ?_⟩; refine hK.out _ _ hHeld (fun hHeld => ?_))
        skip
        clear hK K
        refine norm_ (a' := ?_) ?_ ?_
        rotate_left
        · (show Act.put _ (some 36) _ = _; simp only [Act.put, List.setIfInBounds_toArray, List.set_cons_zero, List.set_cons_succ]; rfl)
        refine one_ (i := 7) (N := (some 37)) #[true, true, true, true, true, true, true, true, false, false, false] rfl rfl (by kernel_rfl) (by decide) (fun K hK => ?_)
        refine value_ (w1 := ?_) (v := ?_) (by rfl) rfl ?_ ?_
        rotate_left 2
        · (go_simp; constructor; rfl; rfl)
        refine hK.out _ _ (⟨blk_alloc hHeld.1 _, blk_alloc hHeld.2.1 _, blk_alloc hHeld.2.2 _⟩) (fun hHeld => ?_)
        clear hK K
        refine norm_ (a' := ?_) ?_ ?_
        rotate_left
        · (show Act.put _ (some 37) _ = _; simp only [Act.put, List.setIfInBounds_toArray, List.set_cons_zero, List.set_cons_succ]; rfl)
        refine last_ (i := 8) (N := (some 38)) #[true, true, true, true, true, true, true, true, true, false, false] rfl rfl (by kernel_rfl) (by decide) (fun K hK => ?_)
        (refine app_int_step (w0 := W) (base := W.heap.size) (ok := fun _ => True) (xs := acc) (p := posF (fun y => decide (tx = y)) terms 0) (by rfl) rfl (Kd.R_drew JU.out) (below_drew1 JB.out) JB.out.size (by have := HA.out; omega) (fun _ _ => trivial) (by simp [Act.eval]) (by simp [Act.eval]) ?_; intro v3 w3 A3; obtain ⟨Av3, cv3, rfl⟩ := A3.shape; have e1 := blk_grown (blk_drew J5.out) A3.grown (Kd.R_ne (Kd.R_drew JU.out) (blk_drew J5.out) (by decide)); have E1 := Aside0.mk e1; have E2 := Aside0.mk (blk_grown (blk_drew J2.out) A3.grown (Kd.R_ne (Kd.R_drew JU.out) (blk_drew J2.out) (by decide))); have E4 := Aside0.mk (blk_grown (blk_drew J4.out) A3.grown (Kd.R_ne (Kd.R_drew JU.out) (blk_drew J4.out) (by decide))); have e4 := blk_cell e1 1; have e5 := blk_frozen e1 1; simp only [List.getElem?_toArray, List.getElem?_cons_zero, List.getElem?_cons_succ] at e4; have A3' := Aside0.mk A3; clear A3 e1)
        refine hK.out _ _ ?_
        clear hK K
        refine norm_ (a' := ?_) ?_ ?_
        rotate_left
        · (show Act.put _ (some 38) _ = _; simp only [Act.put, List.setIfInBounds_toArray, List.set_cons_zero, List.set_cons_succ]; rfl)
        refine pure_ (i := 9) (N := (some 39)) (v := ?_) (a' := ?_) #[true, true, true, true, true, true, true, true, true, true, false] rfl rfl (by kernel_rfl) (fun _ _ _ h => h) (Or.inl ⟨by rfl, ?_⟩) ?_ ?_
        rotate_left
        · (intro w'; go_simp; with_reducible rfl)
        rotate_left
        · (simp only [Act.put, List.setIfInBounds_toArray, List.set_cons_zero, List.set_cons_succ]; rfl)
        refine last_ (i := 10) (N := none) #[true, true, true, true, true, true, true, true, true, true, true] rfl rfl (by kernel_rfl) (by decide) (fun K hK => ?_)
        skip
        refine skip_ (w1 := ?_) (by rfl) rfl ?_ ?_
        rotate_left
        · (go_simp; rfl)
        refine hK.out _ _ ?_
        clear hK K
        refine done_ (by kernel_rfl) ?_
        go_wp2
        go_roundw
        case rel =>
          refine ⟨k + 1, acc ++ [idxF terms tx], _, by omega, by go_num, HS3, ⟨by have := HA.out; simp; omega⟩, ⟨blk_far E2.out (by show W.heap.size ≠ W.heap.size + 1 + 1 + 1; omega) _⟩, ⟨blk_far E4.out (by show W.heap.size + 1 + 1 ≠ W.heap.size + 1 + 1 + 1; omega) _⟩, ⟨blk_set E1.out 1 _⟩, ⟨Kd.R_set A3'.out.row E1.out (by decide) 1 _⟩, ⟨below_set A3'.out.below (by omega) _ _⟩⟩
        case measure => simp [intOf]; omega
      · have j5 := blk_cell J7.out 0
        have j6 := blk_cell J7.out 1
        have j7 := blk_cell J7.out 2
        simp only [List.getElem?_toArray, List.getElem?_cons_zero, List.getElem?_cons_succ] at j5 j6 j7
        have hge := idxF_ge names tx
        by_cases hneg : idxF names tx < 0
        · have hs2 : symF terms names ⟨tk, tx, tp⟩ = .error (13, tp) := by unfold symF; rw [if_neg hq, if_pos hneg]
          have HS2 := HS.out
          rw [hs2] at HS2
          have HS3 := Lib.hid HS2
          clear HS2 HS hs2 hge
          unfold idxF at hneg
          go_wp2_with (go_at_call 76; refine (indexStr_c _ _ _ _ _ HN1.out).mono ?_; rintro e w' ⟨rfl, rfl⟩)
          refine ⟨rfl, ?_, JB.out⟩
          unfold numF
          rw [HR0.out, ← HS3.out]
          rfl
        · have hs2 : symF terms names ⟨tk, tx, tp⟩ = .ok (terms.length + idxF names tx) := by unfold symF; rw [if_neg hq, if_neg hneg]
          have HS2 := HS.out
          rw [hs2] at HS2
          have HS3 := Aside0.mk HS2
          clear HS2 HS hs2
          have hw2 : IntKind.i64.wrap ((terms.length : Int) + posF (fun y => decide (tx = y)) names 0) = (terms.length : Int) + posF (fun y => decide (tx = y)) names 0 := by
            have h2 := idxF_ge names tx
            unfold idxF at h2
            rw [IntKind.wrap_i64]
            omega
          unfold idxF at hneg
          clear hge
          go_wp2_with (first | (go_at_call 76; refine (indexStr_c _ _ _ _ _ HN1.out).mono ?_; rintro e w' ⟨rfl, rfl⟩) | (at_builtin; refine app_int (w0 := W) (base := W.heap.size) (ok := fun _ => True) (xs := acc) (p := (terms.length : Int) + posF (fun y => decide (tx = y)) names 0) rfl rfl JU.out JB.out JB.out.size (by have := HA.out; omega) (fun _ _ => trivial) (by simp [Act.eval]) (by simp [Act.eval]) ?_; intro v3 w3 A3; obtain ⟨Av3, cv3, rfl⟩ := A3.shape; have e1 := blk_grown J5.out A3.grown (Kd.R_ne JU.out J5.out (by decide)); have E1 := Aside0.mk e1; have E2 := Aside0.mk (blk_grown J2.out A3.grown (Kd.R_ne JU.out J2.out (by decide))); have E4 := Aside0.mk (blk_grown J4.out A3.grown (Kd.R_ne JU.out J4.out (by decide))); have e4 := blk_cell e1 1; have e5 := blk_frozen e1 1; simp only [List.getElem?_toArray, List.getElem?_cons_zero, List.getElem?_cons_succ] at e4; have A3' := Aside0.mk A3; clear A3 e1))
          go_roundw
          case rel =>
            refine ⟨k + 1, acc ++ [(terms.length : Int) + idxF names tx], _, by omega, by go_num, HS3, ⟨by have := HA.out; simp; omega⟩, ⟨blk_far E2.out (by show W.heap.size ≠ W.heap.size + 1 + 1 + 1; omega) _⟩, ⟨blk_far E4.out (by show W.heap.size + 1 + 1 ≠ W.heap.size + 1 + 1 + 1; omega) _⟩, ⟨blk_set E1.out 1 _⟩, ⟨Kd.R_set A3'.out.row E1.out (by decide) 1 _⟩, ⟨below_set A3'.out.below (by omega) _ _⟩⟩
          case measure => simp [intOf]; omega
    · have j1 := blk_cell K5.out 0
      have j2 := blk_cell K5.out 1
      have j3 := blk_cell K4.out 0
      have j4 := blk_cell K4.out 1
      have j5 := blk_frozen K4.out 0
      have j6 := blk_frozen K4.out 1
      simp only [List.getElem?_toArray, List.getElem?_cons_zero, List.getElem?_cons_succ] at j1 j2 j3 j4
      go_wp2
      have hR : RES = .ok acc := by rw [← HE.out, List.drop_eq_nil_of_le (by omega)]; rfl
      refine bodyPost_ret (results_num rfl (blk_set (blk_set K4.out 0 _) 1 _)) rfl ⟨?_, below_set (below_set HB.out (by omega) _ _) (by omega) _ _⟩
      unfold numF
      rw [HR0.out, hR]
      refine ⟨_, by rw [HLeft.out]; rfl, ?_⟩
      exact Kd.R_set (Kd.R_set HU.out K4.out (by decide) _ _) (blk_set K4.out 0 _) (by decide) _ _
end Go.Proofs.Ytphmmppmhphgeaa
