/- The contract of keep.Own: a grammar of one's own. -/
import Derived.Test.YtphmmppmhphgeaaY1
set_option linter.unusedVariables false
set_option linter.unusedSimpArgs false
namespace Go.Proofs.Ytphmmppmhphgeaa
open Go.RowKit Go.Proofs.YtphmmppmhphgeaaW.PrintWords Go.Proofs.YtphmmppmhphgeaaW.PrintLast

theorem OF.fresh {w W : World} {g : Gram} {A1 A2 A3 : Option Addr} {c1 c2 c3 : Nat} {v u : Value} {xs ys : List ByteArray} {ob : Option Nat} (h : OF w W g A1 A2 A3 c1 c2 c3 v xs u ys ob) : ∀ k, W.heap.size ≤ k → some k ≠ ob ∧ some k ≠ u.ownBlock := by
  intro k hk
  refine ⟨fun e => ?_, fresh_ne h.ru k hk⟩
  have := blk_lt (h.cell k e.symm).2
  omega
/-- A grammar of the call's own. -/
structure OwnG (W : World) (base : Nat) (g : Gram) (v1 v2 v3 : Value) : Prop where
  terms : kStr.R 9 W base (fun k => True ∧ some k ≠ v2.ownBlock) v1 g.terms
  names : kStr.R 9 W base (fun k => True ∧ some k ≠ v1.ownBlock) v2 g.names
  rules : kRule.R 56 W base (fun _ => True) v3 g.rules

/-- While its rules are made. -/
structure OwSt (w W : World) (b : Nat) (g : Gram) (A1 A2 A3 : Option Addr) (c1 c2 c3 : Nat) (v1 v2 v3 : Value) (k : Nat) : Prop where
  below : Below w.heap.size w W
  p : W.heap[w.heap.size]? = some (.cells #[.slice A1 g.terms.length c1, .slice A2 g.names.length c2, .slice A3 g.rules.length c3] 25 (0, 0))
  r : W.heap[w.heap.size + 1]? = some (.cells #[.slice none 0 0, .slice none 0 0, .slice none 0 0] 25 (0, 0))
  h : W.heap[b]? = some (.cells #[v1, v2, v3] 25 (0, 0))
  hb : w.heap.size + 1 < b
  R1 : kStr.R 9 W w.heap.size (fun k => True ∧ some k ≠ v2.ownBlock) v1 g.terms
  R2 : kStr.R 9 W w.heap.size (fun k => True ∧ some k ≠ v1.ownBlock) v2 g.names
  R3 : kRule.R 56 W w.heap.size (fun _ => True) v3 (g.rules.take k)
section
variable {w W W1 : World} {b k : Nat} {g : Gram} {A1 A2 A3 : Option Addr} {c1 c2 c3 : Nat} {v1 v2 v3 : Value}
theorem OwSt.start (h : OF w W g A1 A2 A3 c1 c2 c3 v1 g.terms v2 g.names (some b)) : OwSt w (((W.setCell ⟨b, 0, none⟩ v1).setCell ⟨b, 1, none⟩ v2).setCell ⟨b, 2, none⟩ (.slice none 0 0)) b g A1 A2 A3 c1 c2 c3 v1 v2 (.slice none 0 0) 0 := by
  obtain ⟨hbl, hbh⟩ := h.cell b rfl
  have h1 := blk_set hbh 0 v1
  have h2 := blk_set h1 1 v2
  have h3 := blk_set h2 2 (.slice none 0 0)
  have n1 : w.heap.size ≠ b := by omega
  have n2 : w.heap.size + 1 ≠ b := by omega
  have hb : w.heap.size ≤ b := by omega
  refine ⟨below_set (below_set (below_set h.below hb _ _) hb _ _) hb _ _, blk_far (blk_far (blk_far h.p n1 _) n1 _) n1 _, blk_far (blk_far (blk_far h.r n2 _) n2 _) n2 _, h3, hbl, ?_, ?_, Kd.R_nil _ _ _ _ _⟩
  · exact Kd.R_mono (Kd.R_set (Kd.R_set (Kd.R_set h.rv hbh (by decide) 0 _) h1 (by decide) 1 _) h2 (by decide) 2 _) (fun k hk => ⟨trivial, hk.2⟩)
  · exact Kd.R_mono (Kd.R_set (Kd.R_set (Kd.R_set h.ru hbh (by decide) 0 _) h1 (by decide) 1 _) h2 (by decide) 2 _) (fun k hk => ⟨trivial, hk.2⟩)
theorem OwSt.below_ (h : OwSt w W b g A1 A2 A3 c1 c2 c3 v1 v2 v3 k) (hb : Below W.heap.size W W1) : OwSt w W1 b g A1 A2 A3 c1 c2 c3 v1 v2 v3 k :=
  ⟨below_then h.below h.below.size hb, blk_below h.p hb, blk_below h.r hb, blk_below h.h hb, h.hb, Kd.R_below h.R1 hb, Kd.R_below h.R2 hb, Kd.R_below h.R3 hb⟩
theorem OwSt.drew_ (h : OwSt w W b g A1 A2 A3 c1 c2 c3 v1 v2 v3 k) : OwSt w W.drew b g A1 A2 A3 c1 c2 c3 v1 v2 v3 k := h.below_ (below_drew1 (Below.refl _ _))
theorem OwSt.alloc_ (h : OwSt w W b g A1 A2 A3 c1 c2 c3 v1 v2 v3 k) (o : Obj) : OwSt w (W.alloc o) b g A1 A2 A3 c1 c2 c3 v1 v2 v3 k := h.below_ (below_alloc (Below.refl _ _) o)
/-- A row that none of these is has grown. -/
theorem OwSt.other (h : OwSt w W b g A1 A2 A3 c1 c2 c3 v1 v2 v3 k) {q : Nat} (hq : W.heap.size ≤ q) {W2 : World} {o : Obj} (hb : Below w.heap.size w W2) (hg : (W.alloc o).grownBy W2 (some q)) : OwSt w W2 b g A1 A2 A3 c1 c2 c3 v1 v2 v3 k := by
  have ha := h.alloc_ o
  have nq : ∀ {i : Nat} {c : Array Value} {t : Nat}, W.heap[i]? = some (.cells c t (0, 0)) → some i ≠ some q := fun hi e => by have := blk_lt hi; injection e with e; omega
  have mv : ∀ {α : Type} {d : Kd α} {e : Nat} {ok : Nat → Prop} {v : Value} {xs : List α}, d.R e W w.heap.size ok v xs → d.R e W2 w.heap.size ok v xs := fun hr =>
    Kd.R_mono (Kd.R_grown (Kd.R_alloc (Kd.R_bound hr) o) hg (fun k hk e => by have := hk.2.2.1; injection e with e; omega)) (fun k hk => hk.1)
  exact ⟨hb, blk_grown ha.p hg (nq h.p), blk_grown ha.r hg (nq h.r), blk_grown ha.h hg (nq h.h), h.hb, mv h.R1, mv h.R2, mv h.R3⟩
/-- A rule more. -/
theorem OwSt.more (h : OwSt w W b g A1 A2 A3 c1 c2 c3 v1 v2 v3 k) {x : Rule} {v4 : Value} (hk : k < g.rules.length) (hx : x = g.rules[k]'hk) (a : Appd kRule 56 w W w.heap.size (fun _ => True) v3 (g.rules.take k ++ [x]) v4 W1) : OwSt w (W1.setCell ⟨b, 2, none⟩ v4) b g A1 A2 A3 c1 c2 c3 v1 v2 v4 (k + 1) := by
  have e1 : g.rules.take k ++ [x] = g.rules.take (k + 1) := by rw [List.take_succ_eq_append_getElem hk, hx]
  have hh := blk_grown h.h a.grown (Kd.R_ne h.R3 h.h (by decide))
  have hb := h.hb
  refine ⟨below_set a.below (show w.heap.size ≤ b by omega) _ _, blk_far (blk_grown h.p a.grown (Kd.R_ne h.R3 h.p (by decide))) (by show w.heap.size ≠ b; omega) _, blk_far (blk_grown h.r a.grown (Kd.R_ne h.R3 h.r (by decide))) (by show w.heap.size + 1 ≠ b; omega) _, blk_set hh 2 _, h.hb, Kd.R_set (Kd.R_over h.R1 h.R3 (by decide) a.grown) hh (by decide) 2 _, Kd.R_set (Kd.R_over h.R2 h.R3 (by decide) a.grown) hh (by decide) 2 _, ?_⟩
  rw [← e1]
  exact Kd.R_set a.row hh (by decide) 2 _
theorem OwSt.final (h : OwSt w W b g A1 A2 A3 c1 c2 c3 v1 v2 v3 g.rules.length) (u1 u2 u3 : Value) : OwnG (((W.setCell ⟨w.heap.size + 1, 0, none⟩ u1).setCell ⟨w.heap.size + 1, 1, none⟩ u2).setCell ⟨w.heap.size + 1, 2, none⟩ u3) w.heap.size g v1 v2 v3 ∧ Below w.heap.size w (((W.setCell ⟨w.heap.size + 1, 0, none⟩ u1).setCell ⟨w.heap.size + 1, 1, none⟩ u2).setCell ⟨w.heap.size + 1, 2, none⟩ u3) := by
  have h1 := blk_set h.r 0 u1
  have h2 := blk_set h1 1 u2
  have hb : w.heap.size ≤ w.heap.size + 1 := by omega
  have h3 := h.R3
  rw [List.take_length] at h3
  exact ⟨⟨Kd.R_set (Kd.R_set (Kd.R_set h.R1 h.r (by decide) 0 _) h1 (by decide) 1 _) h2 (by decide) 2 _, Kd.R_set (Kd.R_set (Kd.R_set h.R2 h.r (by decide) 0 _) h1 (by decide) 1 _) h2 (by decide) 2 _, Kd.R_set (Kd.R_set (Kd.R_set h3 h.r (by decide) 0 _) h1 (by decide) 1 _) h2 (by decide) 2 _⟩, below_set (below_set (below_set h.below hb _ _) hb _ _) hb _ _⟩
end
theorem results_own {tmps : Array Value} {W : World} {q : Nat} {A1 A2 A3 : Option Addr} {n1 n2 n3 c1 c2 c3 : Nat} (t2 : tmps.getD 2 undef = .pointer (some ⟨q, 0, none⟩))
    (h : W.heap[q]? = some (.cells #[.slice A1 n1 c1, .slice A2 n2 c2, .slice A3 n3 c3] 25 (0, 0))) :
    (results Try.f19 tmps).run Try.prog W = .ok (.agg #[.slice A1 n1 c1, .slice A2 n2 c2, .slice A3 n3 c3]) W := by
  have d1 := blk_cell h 0
  have d4 := blk_cell h 1
  have d5 := blk_cell h 2
  simp only [List.getElem?_toArray, List.getElem?_cons_zero, List.getElem?_cons_succ] at d1 d4 d5
  simp only [Array.getD_eq_getD_getElem?] at t2
  simp [results, Try.results19, go_sem, d1, d4, d5, t2]
theorem cell_lt {w : World} {p : Addr} {v : Value} (h : w.cell? p = some v) : p.block < w.heap.size := by
  unfold World.cell? at h
  split at h
  · rename_i hb; exact blk_lt hb
  · cases h
theorem cell_keep {w W : World} {p : Addr} {v : Value} (hb : Below w.heap.size w W) (h : w.cell? p = some v) : W.cell? p = w.cell? p := Below.cell hb (cell_lt h)
/-- What a round reads. -/
structure OS (w : World) (b : Nat) (g : Gram) (A1 A2 A3 : Option Addr) (c1 c2 c3 : Nat) (v1 v2 v3 : Value) (ad : Addr) (k : Nat) (x : Rule) (R : Option Addr) (cr : Nat) (W : World) : Prop where
  below : Below w.heap.size w W
  p : W.heap[w.heap.size]? = some (.cells #[.slice A1 g.terms.length c1, .slice A2 g.names.length c2, .slice A3 g.rules.length c3] 25 (0, 0))
  h : W.heap[b]? = some (.cells #[v1, v2, v3] 25 (0, 0))
  x1 : W.cell? (ad.add (k * 2)) = some (.int .i64 x.left)
  x2 : W.cell? ⟨(ad.add (k * 2)).block, (ad.add (k * 2)).off + 1, none⟩ = some (.slice R x.right.length cr)
theorem OS.mk' {w W : World} {b k k0 : Nat} {g : Gram} {A1 A2 A3 : Option Addr} {c1 c2 c3 : Nat} {v1 v2 v3 : Value} {ad : Addr} {x : Rule} {R : Option Addr} {cr : Nat} (h : OwSt w W b g A1 A2 A3 c1 c2 c3 v1 v2 v3 k0) (h1 : w.cell? (ad.add (k * 2)) = some (.int .i64 x.left)) (h2 : w.cell? ⟨(ad.add (k * 2)).block, (ad.add (k * 2)).off + 1, none⟩ = some (.slice R x.right.length cr)) : OS w b g A1 A2 A3 c1 c2 c3 v1 v2 v3 ad k x R cr W :=
  ⟨h.below, h.p, h.h, (cell_keep h.below h1).trans h1, (cell_keep h.below h2).trans h2⟩
theorem OS.alloc_ {w W : World} {b k : Nat} {g : Gram} {A1 A2 A3 : Option Addr} {c1 c2 c3 : Nat} {v1 v2 v3 : Value} {ad : Addr} {x : Rule} {R : Option Addr} {cr : Nat} (h : OS w b g A1 A2 A3 c1 c2 c3 v1 v2 v3 ad k x R cr W) (o : Obj) : OS w b g A1 A2 A3 c1 c2 c3 v1 v2 v3 ad k x R cr (W.alloc o) := by
  have hb := below_alloc (Below.refl W.heap.size W) o
  exact ⟨below_then h.below h.below.size hb, blk_below h.p hb, blk_below h.h hb, (cell_keep hb h.x1).trans h.x1, (cell_keep hb h.x2).trans h.x2⟩
theorem ints_new (W : World) (base : Nat) (hb : base ≤ W.heap.size) (ok : Nat → Prop) (hok : ok W.heap.size) : kInt.R 3 (W.alloc (.cells #[] 3)) base ok (.slice (some ⟨W.heap.size, 0, none⟩) 0 0) [] := by
  have h := own_lit W base 3 .i64 [] hb (by simp)
  exact Kd.R_of_own h (fun k hk => by
    have : W.heap.size = k := by simpa [Value.ownBlock] using hk
    subst this
    exact hok)
/-- Numbers behind numbers. -/
theorem app_ints_step {ops : Array Oper} {o : Oper} {a : Act} {Q : Exit → Act → World → Prop} {Kc : Act → World → Prop} {base : Nat} {w0 W : World} {ok : Nat → Prop} {v : Value} {s x : Operand} {xs ys : List Int} {A : Option Addr} {c : Nat} (hw : Region.wanted o (yielded ops a.tmps) = true) (ho : o.op = .call { callee := .builtin .append, args := #[s, x], argTypes := #[54, 54] })
    (HO : kInt.R 3 W base ok v xs) (HB : Below base w0 W) (hbase : base ≤ W.heap.size) (hl : xs.length + ys.length ≤ 1000000000000) (hfresh : ∀ k, W.heap.size ≤ k → ok k) (hs : a.eval s = v) (hx : a.eval x = .slice A ys.length c) (HC : kInt.C W A ys.length ys)
    (h : ∀ v1 w1, kInt.R 3 w1 base ok v1 (xs ++ ys) → Below base w0 w1 → W.grownBy w1 v.ownBlock → (v1.ownBlock = v.ownBlock ∨ ∃ b, v1.ownBlock = some b ∧ W.heap.size ≤ b) → Kc (a.put o.dst v1) w1) :
    if Region.wanted o (yielded ops a.tmps) = true then Oper.wp Try.prog o a W Kc Q else Kc (a.put o.dst undef) W :=
  Kd.R_append_rows_step kInt base hw s x 54 3 _ 8 ho Try.underlying54 infoInt rfl (by decide) (by decide) v xs ys A ys.length c ok (fun _ => False) hs hx HO HC (fun x cs h => h) (fun _ h => h.elim) hfresh HB hbase (by omega) h
theorem app_rule_step {ops : Array Oper} {o : Oper} {a : Act} {Q : Exit → Act → World → Prop} {Kc : Act → World → Prop} {w0 W : World} {v u : Value} {s x : Operand} {xs : List Rule} {p : Rule} (hw : Region.wanted o (yielded ops a.tmps) = true) (ho : o.op = .call { callee := .builtin .append, args := #[s, x], argTypes := #[23, 23] })
    (HO : kRule.R 56 W w0.heap.size (fun _ => True) v xs) (HU : kInt.R 3 W w0.heap.size (fun q => some q ≠ v.ownBlock) u p.right) (HB : Below w0.heap.size w0 W) (hl : xs.length + 1 ≤ 2000000000000) (hs : a.eval s = v) (hx : a.eval x = .slice (some ⟨W.heap.size, 0, none⟩) 1 1)
    (h : ∀ v1 w1, Appd kRule 56 w0 W w0.heap.size (fun _ => True) v (xs ++ [p]) v1 w1 → Kc (a.put o.dst v1) w1) :
    if Region.wanted o (yielded ops a.tmps) = true then Oper.wp Try.prog o a (W.alloc (.cells #[.int .i64 p.left, u] 56)) Kc Q else Kc (a.put o.dst undef) (W.alloc (.cells #[.int .i64 p.left, u] 56)) :=
  Kd.R_append_step kRule w0.heap.size hw s x 23 56 _ 32 ho Try.underlying23 infoRule rfl (by decide) (by decide) v xs p [.int .i64 p.left, u] (fun _ => True) (fun q => some q ≠ v.ownBlock) hs hx (M_rule HU) (fun _ h => ⟨trivial, h⟩) (fun _ _ => trivial) HO HB HB.size (by omega) (fun v1 w1 h1 h2 h3 h4 => h v1 w1 ⟨h1, h2, h3, h4⟩)

set_option maxRecDepth 100000 in
set_option maxHeartbeats 8000000 in
theorem own_c (g : Gram) (A1 A2 A3 : Option Addr) (c1 c2 c3 : Nat) (w : World) (hg : RepG w g A1 A2 A3 c1 c2 c3) (hsm : g.terms.length ≤ 100000 ∧ g.names.length ≤ 100000 ∧ g.rules.length ≤ 100000 ∧ ∀ r ∈ g.rules, r.right.length ≤ 100000) :
    Calls Try.prog 19 #[.agg #[.slice A1 g.terms.length c1, .slice A2 g.names.length c2, .slice A3 g.rules.length c3]] w fun e w' => (∃ B1 B2 B3 d1 d2 d3, e = .returned (.agg #[.slice B1 g.terms.length d1, .slice B2 g.names.length d2, .slice B3 g.rules.length d3]) ∧ OwnG w' w.heap.size g (.slice B1 g.terms.length d1) (.slice B2 g.names.length d2) (.slice B3 g.rules.length d3)) ∧ Below w.heap.size w w' := by
  have HF0 : Aside0 (OF w ((w.alloc (.cells #[.slice A1 g.terms.length c1, .slice A2 g.names.length c2, .slice A3 g.rules.length c3] 25 (0, 0))).alloc (.cells #[.slice none 0 0, .slice none 0 0, .slice none 0 0] 25 (0, 0))).drew g A1 A2 A3 c1 c2 c3 (.slice none 0 0) [] (.slice none 0 0) [] none) :=
    ⟨⟨below_drew1 (((Below.refl w.heap.size w).alloc (Nat.le_refl _) _).alloc (by simp) _), blk_drew (blk_alloc (blk_new w _) _), blk_drew (by have h := blk_new (w.alloc (.cells #[.slice A1 g.terms.length c1, .slice A2 g.names.length c2, .slice A3 g.rules.length c3] 25 (0, 0))) (.cells #[.slice none 0 0, .slice none 0 0, .slice none 0 0] 25 (0, 0)); rw [show (w.alloc (.cells #[.slice A1 g.terms.length c1, .slice A2 g.names.length c2, .slice A3 g.rules.length c3] 25 (0, 0))).heap.size = w.heap.size + 1 by simp] at h; exact h), Kd.R_nil _ _ _ _ _, Kd.R_nil _ _ _ _ _, fun b e => by cases e⟩⟩
  have HG := Aside0.mk hg
  have HSM := Aside0.mk hsm
  clear hg hsm
  go_enter Try.func19, Try.ntmps19
  go_wp2
  obtain ⟨W0, hW0⟩ : ∃ W0 : World, W0 = ((w.alloc (.cells #[.slice A1 g.terms.length c1, .slice A2 g.names.length c2, .slice A3 g.rules.length c3] 25 (0, 0))).alloc (.cells #[.slice none 0 0, .slice none 0 0, .slice none 0 0] 25 (0, 0))) := ⟨_, rfl⟩
  rw [← hW0] at HF0
  simp only [← hW0]
  clear hW0
  refine start_ (n := 11) (S := fun w' => Below w.heap.size w w' ∧ w'.heap[w.heap.size]? = some (.cells #[.slice A1 g.terms.length c1, .slice A2 g.names.length c2, .slice A3 g.rules.length c3] 25 (0, 0)) ∧ w'.heap[w.heap.size + 1]? = some (.cells #[.slice none 0 0, .slice none 0 0, .slice none 0 0] 25 (0, 0))) (ds := [10]) #[false, false, false, false, false, false, false, false, false, false, false] (by kernel_rfl) rfl rfl (⟨HF0.out.below, HF0.out.p, HF0.out.r⟩) (fun hHeld => ?_)
  refine pure_ (i := 1) (N := (some 6)) (v := ?_) (a' := ?_) #[false, true, false, false, false, false, false, false, false, false, false] rfl rfl (by kernel_rfl) (fun _ _ _ h => h) (Or.inl ⟨by rfl, ?_⟩) ?_ ?_
  rotate_left
  · (intro w'; go_simp; with_reducible rfl)
  rotate_left
  · (simp only [Act.put, List.setIfInBounds_toArray, List.set_cons_zero, List.set_cons_succ]; rfl)
  refine pure_ (i := 5) (N := (some 10)) (v := ?_) (a' := ?_) #[false, true, false, false, false, true, false, false, false, false, false] rfl rfl (by kernel_rfl) (fun _ _ _ h => h) (Or.inl ⟨by rfl, ?_⟩) ?_ ?_
  rotate_left
  · (intro w'; go_simp; with_reducible rfl)
  rotate_left
  · (simp only [Act.put, List.setIfInBounds_toArray, List.set_cons_zero, List.set_cons_succ]; rfl)
  refine take_ (i := 2) (N := (some 7)) (v := ?_) (a' := ?_) #[false, true, true, false, false, true, false, false, false, false, false] rfl rfl (by kernel_rfl) (fun _ _ _ h => h) (Or.inl ⟨by rfl, ?_⟩) hHeld ?_ ?_
  rotate_left
  · (rintro w' ⟨_, s0, _⟩; have d0 : w'.cell? ⟨w.heap.size, 0, none⟩ = some (.slice A1 g.terms.length c1) := (blk_cell s0 0).trans rfl; have d1 : w'.cell? ⟨w.heap.size, 1, none⟩ = some (.slice A2 g.names.length c2) := (blk_cell s0 1).trans rfl; go_simp; with_reducible rfl)
  rotate_left
  · (simp only [Act.put, List.setIfInBounds_toArray, List.set_cons_zero, List.set_cons_succ]; rfl)
  refine take_ (i := 6) (N := (some 11)) (v := ?_) (a' := ?_) #[false, true, true, false, false, true, true, false, false, false, false] rfl rfl (by kernel_rfl) (fun _ _ _ h => h) (Or.inl ⟨by rfl, ?_⟩) hHeld ?_ ?_
  rotate_left
  · (rintro w' ⟨_, s0, _⟩; have d0 : w'.cell? ⟨w.heap.size, 0, none⟩ = some (.slice A1 g.terms.length c1) := (blk_cell s0 0).trans rfl; have d1 : w'.cell? ⟨w.heap.size, 1, none⟩ = some (.slice A2 g.names.length c2) := (blk_cell s0 1).trans rfl; go_simp; with_reducible rfl)
  rotate_left
  · (simp only [Act.put, List.setIfInBounds_toArray, List.set_cons_zero, List.set_cons_succ]; rfl)
  refine join_ (σ := Value × Option Addr × Nat × Value × Option Addr × Nat × Nat) 1 #[true, true, true, true, true, true, true, true, true, true, false] (fun s => [(5, s.1), (8, (.slice s.2.1 g.terms.length s.2.2.1)), (9, s.2.2.2.1), (12, (.slice s.2.2.2.2.1 g.names.length s.2.2.2.2.2.1)), (13, .agg #[(.slice s.2.1 g.terms.length s.2.2.1), (.slice s.2.2.2.2.1 g.names.length s.2.2.2.2.2.1), .slice none 0 0]), (3, .pointer (some ⟨s.2.2.2.2.2.2, 0, none⟩))]) (fun s w' => OF w w' g A1 A2 A3 c1 c2 c3 (.slice s.2.1 g.terms.length s.2.2.1) g.terms (.slice s.2.2.2.2.1 g.names.length s.2.2.2.2.2.1) g.names (some s.2.2.2.2.2.2)) ?_ ?_
  · rintro ⟨v5, A8, c8, v9, A12, c12, b⟩ W' hF
    refine norm_ (a' := ?_) ?_ ?_
    rotate_left
    · (simp only [putAll, Act.put, List.setIfInBounds_toArray, List.set_cons_zero, List.set_cons_succ]; rfl)
    try dsimp only at hF
    have HF := Aside0.mk hF
    clear hF
    obtain ⟨hbl, hbh⟩ := HF.out.cell b rfl
    have c1' := blk_cell hbh 0
    have c2' := blk_cell hbh 1
    have c3' := blk_cell hbh 2
    have f1' := blk_frozen hbh 0
    have f2' := blk_frozen hbh 1
    have f3' := blk_frozen hbh 2
    simp only [List.getElem?_toArray, List.getElem?_cons_zero, List.getElem?_cons_succ] at c1' c2' c3'
    have HO0 := Aside0.mk (OwSt.start HF.out)
    clear hbh
    refine last_ (i := 10) (N := none) #[true, true, true, true, true, true, true, true, true, true, true] rfl rfl (by kernel_rfl) (by decide) (fun K hK => ?_)
    refine skip_ (w1 := ?_) (by rfl) rfl ?_ ?_
    rotate_left
    · (go_simp; rfl)
    refine hK.out _ _ ?_
    clear hK K
    refine done_ (by kernel_rfl) ?_
    clear HF HF0 c1' c2' c3' f1' f2' f3'
    go_wp2
    go_loopw [4] (fun i wr => ∃ (k : Nat) (A9 : Option Addr) (c9 : Nat), k ≤ g.rules.length ∧ i = .int .i64 k ∧ Aside0 (OwSt w wr b g A1 A2 A3 c1 c2 c3 (.slice A8 g.terms.length c8) (.slice A12 g.names.length c12) (.slice A9 k c9) k)) (fun i _ => g.rules.length - (intOf i).toNat)
    case atStart => exact ⟨0, none, 0, Nat.zero_le _, rfl, HO0⟩
    case round =>
      clear HO0
      obtain ⟨k, A9, c9, hk, rfl, HO⟩ := hrel
      have z3 := (blk_cell HO.out.p 2).trans rfl
      by_cases hlt : k < g.rules.length
      · have hm := C_max HG.out.rules
        obtain ⟨ad, R, cr, eA, hx1, hx2, hcr, hR⟩ := at_rule HG.out.rules k hlt
        subst eA
        obtain ⟨x, hx⟩ : ∃ x, x = g.rules[k]'hlt := ⟨_, rfl⟩
        have hxl : x.right.length ≤ 100000 := by rw [hx]; exact HSM.out.2.2.2 _ (List.getElem_mem hlt)
        rw [← hx] at hx1 hx2 hcr hR
        have HX := Aside0.mk hx
        have HXR := Aside0.mk hR
        have HS0 : Aside0 (OS w b g A1 A2 (some ad) c1 c2 c3 (.slice A8 g.terms.length c8) (.slice A12 g.names.length c12) (.slice A9 k c9) ad k x R cr wr.drew) := ⟨OS.mk' HO.out.drew_ hx1 hx2⟩
        have HX1 := Aside0.mk hx1
        have HX2 := Aside0.mk hx2
        have j1 : (0 : Int) ≤ (k : Int) := by omega
        have j2 : (k : Int) < (g.rules.length : Int) := by omega
        clear hx hR hx1 hx2
        go_wp2
        refine start_ (n := 21) (S := OS w b g A1 A2 (some ad) c1 c2 c3 (.slice A8 g.terms.length c8) (.slice A12 g.names.length c12) (.slice A9 k c9) ad k x R cr) (ds := [20]) #[false, false, false, false, false, false, false, false, false, false, false, false, false, false, false, false, false, false, false, false, false] (by kernel_rfl) rfl rfl (HS0.out) (fun hHeld => ?_)
        refine pure_ (i := 0) (N := (some 21)) (v := ?_) (a' := ?_) #[true, false, false, false, false, false, false, false, false, false, false, false, false, false, false, false, false, false, false, false, false] rfl rfl (by kernel_rfl) (fun _ _ _ h => h) (Or.inl ⟨by rfl, ?_⟩) ?_ ?_
        rotate_left
        · (intro w'; go_simp; with_reducible rfl)
        rotate_left
        · (simp only [Act.put, List.setIfInBounds_toArray, List.set_cons_zero, List.set_cons_succ]; rfl)
        refine pure_ (i := 2) (N := (some 23)) (v := ?_) (a' := ?_) #[true, false, true, false, false, false, false, false, false, false, false, false, false, false, false, false, false, false, false, false, false] rfl rfl (by kernel_rfl) (fun _ _ _ h => h) (Or.inl ⟨by rfl, ?_⟩) ?_ ?_
        rotate_left
        · (intro w'; go_simp; with_reducible rfl)
        rotate_left
        · (simp only [Act.put, List.setIfInBounds_toArray, List.set_cons_zero, List.set_cons_succ]; rfl)
        refine pure_ (i := 4) (N := (some 25)) (v := ?_) (a' := ?_) #[true, false, true, false, true, false, false, false, false, false, false, false, false, false, false, false, false, false, false, false, false] rfl rfl (by kernel_rfl) (fun _ _ _ h => h) (Or.inl ⟨by rfl, ?_⟩) ?_ ?_
        rotate_left
        · (intro w'; go_simp; with_reducible rfl)
        rotate_left
        · (simp only [Act.put, List.setIfInBounds_toArray, List.set_cons_zero, List.set_cons_succ]; rfl)
        refine pure_ (i := 9) (N := (some 30)) (v := ?_) (a' := ?_) #[true, false, true, false, true, false, false, false, false, true, false, false, false, false, false, false, false, false, false, false, false] rfl rfl (by kernel_rfl) (fun _ _ _ h => h) (Or.inl ⟨by rfl, ?_⟩) ?_ ?_
        rotate_left
        · (intro w'; go_simp; with_reducible rfl)
        rotate_left
        · (simp only [Act.put, List.setIfInBounds_toArray, List.set_cons_zero, List.set_cons_succ]; rfl)
        refine pure_ (i := 11) (N := (some 32)) (v := ?_) (a' := ?_) #[true, false, true, false, true, false, false, false, false, true, false, true, false, false, false, false, false, false, false, false, false] rfl rfl (by kernel_rfl) (fun _ _ _ h => h) (Or.inl ⟨by rfl, ?_⟩) ?_ ?_
        rotate_left
        · (intro w'; go_simp; with_reducible rfl)
        rotate_left
        · (simp only [Act.put, List.setIfInBounds_toArray, List.set_cons_zero, List.set_cons_succ]; rfl)
        refine take_ (i := 1) (N := (some 22)) (v := ?_) (a' := ?_) #[true, true, true, false, true, false, false, false, false, true, false, true, false, false, false, false, false, false, false, false, false] rfl rfl (by kernel_rfl) (fun _ _ _ h => h) (Or.inl ⟨by rfl, ?_⟩) hHeld ?_ ?_
        rotate_left
        · (rintro w' ⟨_, s0, s1, s2, s3⟩; have d0 : w'.cell? ⟨w.heap.size, 2, none⟩ = some (.slice (some ad) g.rules.length c3) := (blk_cell s0 2).trans rfl; have d1 : w'.cell? ⟨b, 2, none⟩ = some (.slice A9 k c9) := (blk_cell s1 2).trans rfl; go_simp; with_reducible rfl)
        rotate_left
        · (simp only [Act.put, List.setIfInBounds_toArray, List.set_cons_zero, List.set_cons_succ]; rfl)
        refine take_ (i := 3) (N := (some 24)) (v := ?_) (a' := ?_) #[true, true, true, true, true, false, false, false, false, true, false, true, false, false, false, false, false, false, false, false, false] rfl rfl (by kernel_rfl) (fun _ _ _ h => h) (Or.inl ⟨by rfl, ?_⟩) hHeld ?_ ?_
        rotate_left
        · (rintro w' ⟨_, s0, s1, s2, s3⟩; have d0 : w'.cell? ⟨w.heap.size, 2, none⟩ = some (.slice (some ad) g.rules.length c3) := (blk_cell s0 2).trans rfl; have d1 : w'.cell? ⟨b, 2, none⟩ = some (.slice A9 k c9) := (blk_cell s1 2).trans rfl; go_simp; with_reducible rfl)
        rotate_left
        · (simp only [Act.put, List.setIfInBounds_toArray, List.set_cons_zero, List.set_cons_succ]; rfl)
        refine pure_ (i := 5) (N := (some 26)) (v := ?_) (a' := ?_) #[true, true, true, true, true, true, false, false, false, true, false, true, false, false, false, false, false, false, false, false, false] rfl rfl (by kernel_rfl) (fun _ _ _ h => h) (Or.inl ⟨by rfl, ?_⟩) ?_ ?_
        rotate_left
        · (intro w'; go_simp; with_reducible rfl)
        rotate_left
        · (simp only [Act.put, List.setIfInBounds_toArray, List.set_cons_zero, List.set_cons_succ]; rfl)
        refine pure_ (i := 6) (N := (some 27)) (v := ?_) (a' := ?_) #[true, true, true, true, true, true, true, false, false, true, false, true, false, false, false, false, false, false, false, false, false] rfl rfl (by kernel_rfl) (fun _ _ _ h => h) (Or.inl ⟨by rfl, ?_⟩) ?_ ?_
        rotate_left
        · (intro w'; go_simp; with_reducible rfl)
        rotate_left
        · (simp only [Act.put, List.setIfInBounds_toArray, List.set_cons_zero, List.set_cons_succ]; rfl)
        refine take_ (i := 7) (N := (some 28)) (v := ?_) (a' := ?_) #[true, true, true, true, true, true, true, true, false, true, false, true, false, false, false, false, false, false, false, false, false] rfl rfl (by kernel_rfl) (fun _ _ _ h => h) (Or.inl ⟨by rfl, ?_⟩) hHeld ?_ ?_
        rotate_left
        · (rintro w' ⟨_, s0, s1, s2, s3⟩; have d0 : w'.cell? ⟨w.heap.size, 2, none⟩ = some (.slice (some ad) g.rules.length c3) := (blk_cell s0 2).trans rfl; have d1 : w'.cell? ⟨b, 2, none⟩ = some (.slice A9 k c9) := (blk_cell s1 2).trans rfl; go_simp; with_reducible rfl)
        rotate_left
        · (simp only [Act.put, List.setIfInBounds_toArray, List.set_cons_zero, List.set_cons_succ]; rfl)
        refine take_ (i := 10) (N := (some 31)) (v := ?_) (a' := ?_) #[true, true, true, true, true, true, true, true, false, true, true, true, false, false, false, false, false, false, false, false, false] rfl rfl (by kernel_rfl) (fun _ _ _ h => h) (Or.inl ⟨by rfl, ?_⟩) hHeld ?_ ?_
        rotate_left
        · (rintro w' ⟨_, s0, s1, s2, s3⟩; have d0 : w'.cell? ⟨w.heap.size, 2, none⟩ = some (.slice (some ad) g.rules.length c3) := (blk_cell s0 2).trans rfl; have d1 : w'.cell? ⟨b, 2, none⟩ = some (.slice A9 k c9) := (blk_cell s1 2).trans rfl; go_simp; with_reducible rfl)
        rotate_left
        · (simp only [Act.put, List.setIfInBounds_toArray, List.set_cons_zero, List.set_cons_succ]; rfl)
        refine pure_ (i := 12) (N := (some 33)) (v := ?_) (a' := ?_) #[true, true, true, true, true, true, true, true, false, true, true, true, true, false, false, false, false, false, false, false, false] rfl rfl (by kernel_rfl) (fun _ _ _ h => h) (Or.inl ⟨by rfl, ?_⟩) ?_ ?_
        rotate_left
        · (intro w'; go_simp; with_reducible rfl)
        rotate_left
        · (simp only [Act.put, List.setIfInBounds_toArray, List.set_cons_zero, List.set_cons_succ]; rfl)
        refine pure_ (i := 13) (N := (some 34)) (v := ?_) (a' := ?_) #[true, true, true, true, true, true, true, true, false, true, true, true, true, true, false, false, false, false, false, false, false] rfl rfl (by kernel_rfl) (fun _ _ _ h => h) (Or.inl ⟨by rfl, ?_⟩) ?_ ?_
        rotate_left
        · (intro w'; go_simp; with_reducible rfl)
        rotate_left
        · (simp only [Act.put, List.setIfInBounds_toArray, List.set_cons_zero, List.set_cons_succ]; rfl)
        refine take_ (i := 14) (N := (some 35)) (v := ?_) (a' := ?_) #[true, true, true, true, true, true, true, true, false, true, true, true, true, true, true, false, false, false, false, false, false] rfl rfl (by kernel_rfl) (fun _ _ _ h => h) (Or.inl ⟨by rfl, ?_⟩) hHeld ?_ ?_
        rotate_left
        · (rintro w' ⟨_, s0, s1, s2, s3⟩; have d0 : w'.cell? ⟨w.heap.size, 2, none⟩ = some (.slice (some ad) g.rules.length c3) := (blk_cell s0 2).trans rfl; have d1 : w'.cell? ⟨b, 2, none⟩ = some (.slice A9 k c9) := (blk_cell s1 2).trans rfl; go_simp; with_reducible rfl)
        rotate_left
        · (simp only [Act.put, List.setIfInBounds_toArray, List.set_cons_zero, List.set_cons_succ]; rfl)
        refine one_ (i := 8) (N := (some 29)) #[true, true, true, true, true, true, true, true, true, true, true, true, true, true, true, false, false, false, false, false, false] rfl rfl (by kernel_rfl) (by decide) (fun K hK => ?_)
        refine value_ (w1 := ?_) (v := ?_) (by rfl) rfl ?_ ?_
        rotate_left 2
        · (go_simp; constructor; rfl; rfl)
        refine hK.out _ _ (hHeld.alloc_ _) (fun hHeld => ?_)
        clear hK K
        refine norm_ (a' := ?_) ?_ ?_
        rotate_left
        · (show Act.put _ (some 29) _ = _; simp only [Act.put, List.setIfInBounds_toArray, List.set_cons_zero, List.set_cons_succ]; rfl)
        refine one_ (i := 15) (N := (some 36)) #[true, true, true, true, true, true, true, true, true, true, true, true, true, true, true, true, false, false, false, false, false] rfl rfl (by kernel_rfl) (by decide) (fun K hK => ?_)
        (refine app_ints_step (w0 := w) (base := w.heap.size) (A := R) (c := cr) (ok := fun q => some q ≠ (Value.slice A9 k c9).ownBlock) (by rfl) rfl (ints_new wr.drew w.heap.size HO.out.below.size _ (fresh_ne HO.out.drew_.R3 _ (Nat.le_refl _))) hHeld.below hHeld.below.size (by simp only [List.length_nil]; omega) (fun q hq => fresh_ne (HO.out.drew_.alloc_ _).R3 q hq) (by simp [Act.eval]) (by simp [Act.eval]) (Kd.C_below HXR.out hHeld.below) ?_; intro v1 W1 hr1 hb1 hg1 ha1; rw [List.nil_append] at hr1; obtain ⟨Av1, cv1, rfl⟩ := Kd.R_slice hr1; have HO1 := Aside0.mk (OwSt.other HO.out.drew_ (Nat.le_refl _) hb1 hg1); have HU1 := Aside0.mk hr1; have HS1 := Aside0.mk (OS.mk' HO1.out HX1.out HX2.out); clear hr1 hb1 hg1 ha1; refine hK.out _ _ HS1.out (fun hHeld => ?_))
        skip
        clear hK K
        refine norm_ (a' := ?_) ?_ ?_
        rotate_left
        · (show Act.put _ (some 36) _ = _; simp only [Act.put, List.setIfInBounds_toArray, List.set_cons_zero, List.set_cons_succ]; rfl)
        refine pure_ (i := 16) (N := (some 37)) (v := ?_) (a' := ?_) #[true, true, true, true, true, true, true, true, true, true, true, true, true, true, true, true, true, false, false, false, false] rfl rfl (by kernel_rfl) (fun _ _ _ h => h) (Or.inl ⟨by rfl, ?_⟩) ?_ ?_
        rotate_left
        · (intro w'; go_simp; with_reducible rfl)
        rotate_left
        · (simp only [Act.put, List.setIfInBounds_toArray, List.set_cons_zero, List.set_cons_succ]; rfl)
        refine one_ (i := 17) (N := (some 38)) #[true, true, true, true, true, true, true, true, true, true, true, true, true, true, true, true, true, true, false, false, false] rfl rfl (by kernel_rfl) (by decide) (fun K hK => ?_)
        refine value_ (w1 := ?_) (v := ?_) (by rfl) rfl ?_ ?_
        rotate_left 2
        · (go_simp; constructor; rfl; rfl)
        refine hK.out _ _ (hHeld.alloc_ _) (fun hHeld => ?_)
        clear hK K
        refine norm_ (a' := ?_) ?_ ?_
        rotate_left
        · (show Act.put _ (some 38) _ = _; simp only [Act.put, List.setIfInBounds_toArray, List.set_cons_zero, List.set_cons_succ]; rfl)
        refine one_ (i := 18) (N := (some 39)) #[true, true, true, true, true, true, true, true, true, true, true, true, true, true, true, true, true, true, true, false, false] rfl rfl (by kernel_rfl) (by decide) (fun K hK => ?_)
        (refine app_rule_step (w0 := w) (p := x) (by rfl) rfl HO1.out.R3 HU1.out HO1.out.below (by rw [List.length_take]; have := HSM.out; omega) (by simp [Act.eval]) (by simp [Act.eval]) ?_; intro v1 W1 A1'; obtain ⟨Av2, cv2, hv2⟩ := A1'.shape; rw [List.length_take, Nat.min_eq_left (Nat.le_of_lt hlt)] at hv2; subst hv2; have HO2 := Aside0.mk (OwSt.more HO1.out hlt HX.out A1'); have hh := blk_grown HO1.out.h A1'.grown (Kd.R_ne HO1.out.R3 HO1.out.h (by decide)); have d3 := blk_cell hh 2; have d4 := blk_frozen hh 2; simp only [List.getElem?_toArray, List.getElem?_cons_zero, List.getElem?_cons_succ] at d3; have HS2 := Aside0.mk (OS.mk (x := x) A1'.below (blk_grown HO1.out.p A1'.grown (Kd.R_ne HO1.out.R3 HO1.out.p (by decide))) hh ((cell_keep A1'.below HX1.out).trans HX1.out) ((cell_keep A1'.below HX2.out).trans HX2.out)); clear A1' hh; refine hK.out _ _ HS2.out (fun hHeld => ?_))
        skip
        clear hK K
        refine norm_ (a' := ?_) ?_ ?_
        rotate_left
        · (show Act.put _ (some 39) _ = _; simp only [Act.put, List.setIfInBounds_toArray, List.set_cons_zero, List.set_cons_succ]; rfl)
        refine pure_ (i := 19) (N := (some 40)) (v := ?_) (a' := ?_) #[true, true, true, true, true, true, true, true, true, true, true, true, true, true, true, true, true, true, true, true, false] rfl rfl (by kernel_rfl) (fun _ _ _ h => h) (Or.inl ⟨by rfl, ?_⟩) ?_ ?_
        rotate_left
        · (intro w'; go_simp; with_reducible rfl)
        rotate_left
        · (simp only [Act.put, List.setIfInBounds_toArray, List.set_cons_zero, List.set_cons_succ]; rfl)
        refine last_ (i := 20) (N := none) #[true, true, true, true, true, true, true, true, true, true, true, true, true, true, true, true, true, true, true, true, true] rfl rfl (by kernel_rfl) (by decide) (fun K hK => ?_)
        skip
        refine skip_ (w1 := ?_) (by rfl) rfl ?_ ?_
        rotate_left
        · (go_simp; rfl)
        refine hK.out _ _ ?_
        clear hK K
        refine done_ (by kernel_rfl) ?_
        go_wp2
        go_roundw
        case rel => exact ⟨k + 1, Av2, cv2, by omega, by go_num, HO2⟩
        case measure => simp [intOf]; omega
      · obtain rfl : k = g.rules.length := by omega
        have e0 := (blk_cell HO.out.h 0).trans rfl
        have e1 := (blk_cell HO.out.h 1).trans rfl
        have e2 := (blk_cell HO.out.h 2).trans rfl
        have r0 := (blk_cell HO.out.r 0).trans rfl
        have r1 := (blk_cell HO.out.r 1).trans rfl
        have r2 := (blk_cell HO.out.r 2).trans rfl
        have f0 := blk_frozen HO.out.r 0
        have f1 := blk_frozen HO.out.r 1
        have f2 := blk_frozen HO.out.r 2
        go_wp2
        have hfin := OwSt.final HO.out (.slice A8 g.terms.length c8) (.slice A12 g.names.length c12) (.slice A9 g.rules.length c9)
        exact bodyPost_ret (results_own rfl (blk_set (blk_set (blk_set HO.out.r 0 _) 1 _) 2 _)) rfl ⟨⟨_, _, _, _, _, _, rfl, hfin.1⟩, hfin.2⟩
  intro h221
  simp only [putAll, Act.put, List.setIfInBounds_toArray, List.set_cons_zero, List.set_cons_succ] at h221
  refine join_ (σ := Value × Option Addr × Nat × Value × Option Addr × Nat × Nat) 3 #[true, true, true, true, true, true, true, false, false, true, false] (fun s => [(5, s.1), (8, (.slice s.2.1 g.terms.length s.2.2.1)), (9, s.2.2.2.1), (3, .pointer (some ⟨s.2.2.2.2.2.2, 0, none⟩))]) (fun s w' => OF w w' g A1 A2 A3 c1 c2 c3 (.slice s.2.1 g.terms.length s.2.2.1) g.terms s.2.2.2.1 [] (some s.2.2.2.2.2.2)) ?_ ?_
  · rintro ⟨v5, A8, c8, v9, A12, c12, b⟩ W' hF
    refine norm_ (a' := ?_) ?_ ?_
    rotate_left
    · (simp only [putAll, Act.put, List.setIfInBounds_toArray, List.set_cons_zero, List.set_cons_succ]; rfl)
    try dsimp only at hF
    have HF := Aside0.mk hF
    clear hF
    refine one_ (i := 7) (N := (some 12)) #[true, true, true, true, true, true, true, true, false, true, false] rfl rfl (by kernel_rfl) (by decide) (fun K hK => ?_)
    refine app_strs_step (A := A2) (c := c2) (w0 := w) (base := w.heap.size) (by rfl) rfl HF.out.swap.rv HF.out.below HF.out.below.size (by simp only [List.length_nil]; have := HSM.out; omega) (OF.fresh HF.out.swap) (by simp [Act.eval]) (by simp [Act.eval]) (Kd.C_below HG.out.names HF.out.below) ?_; intro v1 W1 hr1 hb1 hg1 ha1; rw [List.nil_append] at hr1; obtain ⟨Av1, cv1, rfl⟩ := Kd.R_slice hr1; have HN := Aside0.mk (HF.out.swap.appV hr1 hb1 hg1 ha1); clear hr1 hb1 hg1 ha1; refine hK.out _ _ ⟨HN.out.below, HN.out.p, HN.out.r⟩ (fun _ => ?_)
    clear hK K
    refine norm_ (a' := ?_) ?_ ?_
    rotate_left
    · (show Act.put _ (some 12) _ = _; simp only [Act.put, List.setIfInBounds_toArray, List.set_cons_zero, List.set_cons_succ]; rfl)
    refine pure_ (i := 8) (N := (some 13)) (v := ?_) (a' := ?_) #[true, true, true, true, true, true, true, true, true, true, false] rfl rfl (by kernel_rfl) (fun _ _ _ h => h) (Or.inl ⟨by rfl, ?_⟩) ?_ ?_
    rotate_left
    · (intro w'; go_simp; with_reducible rfl)
    rotate_left
    · (simp only [Act.put, List.setIfInBounds_toArray, List.set_cons_zero, List.set_cons_succ]; rfl)
    exact h221 (v5, A8, c8, v9, Av1, cv1, b) _ HN.out.swap
  intro h211
  simp only [putAll, Act.put, List.setIfInBounds_toArray, List.set_cons_zero, List.set_cons_succ] at h211
  refine join_ (σ := Value × Option Addr × Nat × Value × Option Addr × Nat × Nat) 2 #[true, true, true, true, true, true, true, true, true, false, false] (fun s => [(5, s.1), (8, (.slice s.2.1 g.terms.length s.2.2.1)), (9, s.2.2.2.1), (12, (.slice s.2.2.2.2.1 g.names.length s.2.2.2.2.2.1)), (13, .agg #[(.slice s.2.1 g.terms.length s.2.2.1), (.slice s.2.2.2.2.1 g.names.length s.2.2.2.2.2.1), .slice none 0 0])]) (fun s w' => OF w w' g A1 A2 A3 c1 c2 c3 (.slice s.2.1 g.terms.length s.2.2.1) g.terms (.slice s.2.2.2.2.1 g.names.length s.2.2.2.2.2.1) g.names none) ?_ ?_
  · rintro ⟨v5, A8, c8, v9, A12, c12, b⟩ W' hF
    refine norm_ (a' := ?_) ?_ ?_
    rotate_left
    · (simp only [putAll, Act.put, List.setIfInBounds_toArray, List.set_cons_zero, List.set_cons_succ]; rfl)
    try dsimp only at hF
    have HF := Aside0.mk hF
    clear hF
    refine one_ (i := 9) (N := (some 3)) #[true, true, true, true, true, true, true, true, true, true, false] rfl rfl (by kernel_rfl) (by decide) (fun K hK => ?_)
    have HN := Aside0.mk HF.out.mkB; refine value_ (w1 := ?_) (v := ?_) (by rfl) rfl ?_ ?_; rotate_left 2; (go_simp; constructor; rfl; rfl); refine hK.out _ _ ⟨HN.out.below, HN.out.p, HN.out.r⟩ (fun _ => ?_)
    clear hK K
    refine norm_ (a' := ?_) ?_ ?_
    rotate_left
    · (show Act.put _ (some 3) _ = _; simp only [Act.put, List.setIfInBounds_toArray, List.set_cons_zero, List.set_cons_succ]; rfl)
    exact h221 (v5, A8, c8, v9, A12, c12, _) _ HN.out
  intro h220
  simp only [putAll, Act.put, List.setIfInBounds_toArray, List.set_cons_zero, List.set_cons_succ] at h220
  refine join_ (σ := Value × Option Addr × Nat × Value × Option Addr × Nat × Nat) 4 #[true, true, true, false, true, true, true, false, false, true, false] (fun s => [(5, s.1), (9, s.2.2.2.1), (3, .pointer (some ⟨s.2.2.2.2.2.2, 0, none⟩))]) (fun s w' => OF w w' g A1 A2 A3 c1 c2 c3 s.1 [] s.2.2.2.1 [] (some s.2.2.2.2.2.2)) ?_ ?_
  · rintro ⟨v5, A8, c8, v9, A12, c12, b⟩ W' hF
    refine norm_ (a' := ?_) ?_ ?_
    rotate_left
    · (simp only [putAll, Act.put, List.setIfInBounds_toArray, List.set_cons_zero, List.set_cons_succ]; rfl)
    try dsimp only at hF
    have HF := Aside0.mk hF
    clear hF
    refine one_ (i := 3) (N := (some 8)) #[true, true, true, true, true, true, true, false, false, true, false] rfl rfl (by kernel_rfl) (by decide) (fun K hK => ?_)
    refine app_strs_step (A := A1) (c := c1) (w0 := w) (base := w.heap.size) (by rfl) rfl HF.out.rv HF.out.below HF.out.below.size (by simp only [List.length_nil]; have := HSM.out; omega) (OF.fresh HF.out) (by simp [Act.eval]) (by simp [Act.eval]) (Kd.C_below HG.out.terms HF.out.below) ?_; intro v1 W1 hr1 hb1 hg1 ha1; rw [List.nil_append] at hr1; obtain ⟨Av1, cv1, rfl⟩ := Kd.R_slice hr1; have HN := Aside0.mk (HF.out.appV hr1 hb1 hg1 ha1); clear hr1 hb1 hg1 ha1; refine hK.out _ _ ⟨HN.out.below, HN.out.p, HN.out.r⟩ (fun _ => ?_)
    clear hK K
    refine norm_ (a' := ?_) ?_ ?_
    rotate_left
    · (show Act.put _ (some 8) _ = _; simp only [Act.put, List.setIfInBounds_toArray, List.set_cons_zero, List.set_cons_succ]; rfl)
    exact h211 (v5, Av1, cv1, v9, none, 0, b) _ HN.out
  intro h111
  simp only [putAll, Act.put, List.setIfInBounds_toArray, List.set_cons_zero, List.set_cons_succ] at h111
  refine join_ (σ := Value × Option Addr × Nat × Value × Option Addr × Nat × Nat) 4 #[true, true, true, true, false, true, true, false, false, true, false] (fun s => [(5, s.1), (8, (.slice s.2.1 g.terms.length s.2.2.1)), (3, .pointer (some ⟨s.2.2.2.2.2.2, 0, none⟩))]) (fun s w' => OF w w' g A1 A2 A3 c1 c2 c3 (.slice s.2.1 g.terms.length s.2.2.1) g.terms (.slice none 0 0) [] (some s.2.2.2.2.2.2)) ?_ ?_
  · rintro ⟨v5, A8, c8, v9, A12, c12, b⟩ W' hF
    refine norm_ (a' := ?_) ?_ ?_
    rotate_left
    · (simp only [putAll, Act.put, List.setIfInBounds_toArray, List.set_cons_zero, List.set_cons_succ]; rfl)
    try dsimp only at hF
    have HF := Aside0.mk hF
    clear hF
    refine one_ (i := 4) (N := (some 9)) #[true, true, true, true, true, true, true, false, false, true, false] rfl rfl (by kernel_rfl) (by decide) (fun K hK => ?_)
    refine mk_str_step (w0 := w) (base := w.heap.size) (ok := fun k => some k ≠ (some b) ∧ some k ≠ ((.slice A8 g.terms.length c8) : Value).ownBlock) (by rfl) rfl rfl HF.out.below HF.out.below.size (OF.fresh HF.out.swap _ (Nat.le_refl _)) ?_; intro v1 W1 hr1 hb1 hg1 ha1; have HN := Aside0.mk (HF.out.swap.mkV hr1 hb1 hg1 ha1); clear hr1 hb1 hg1 ha1; refine hK.out _ _ ⟨HN.out.below, HN.out.p, HN.out.r⟩ (fun _ => ?_)
    clear hK K
    refine norm_ (a' := ?_) ?_ ?_
    rotate_left
    · (show Act.put _ (some 9) _ = _; simp only [Act.put, List.setIfInBounds_toArray, List.set_cons_zero, List.set_cons_succ]; rfl)
    exact h211 (v5, A8, c8, v1, none, 0, b) _ HN.out.swap
  intro h201
  simp only [putAll, Act.put, List.setIfInBounds_toArray, List.set_cons_zero, List.set_cons_succ] at h201
  refine join_ (σ := Value × Option Addr × Nat × Value × Option Addr × Nat × Nat) 4 #[true, true, true, true, true, true, true, false, false, false, false] (fun s => [(5, s.1), (8, (.slice s.2.1 g.terms.length s.2.2.1)), (9, s.2.2.2.1)]) (fun s w' => OF w w' g A1 A2 A3 c1 c2 c3 (.slice s.2.1 g.terms.length s.2.2.1) g.terms s.2.2.2.1 [] none) ?_ ?_
  · rintro ⟨v5, A8, c8, v9, A12, c12, b⟩ W' hF
    refine norm_ (a' := ?_) ?_ ?_
    rotate_left
    · (simp only [putAll, Act.put, List.setIfInBounds_toArray, List.set_cons_zero, List.set_cons_succ]; rfl)
    try dsimp only at hF
    have HF := Aside0.mk hF
    clear hF
    refine two_ (i := 7) (j := 9) (Ni := (some 12)) (Nj := (some 3)) #[true, true, true, true, true, true, true, true, false, false, false] #[true, true, true, true, true, true, true, false, false, true, false] rfl rfl rfl rfl (by kernel_rfl) (by decide) (by decide) (fun K hK => ?_) (fun K hK => ?_)
    · refine app_strs_step (A := A2) (c := c2) (w0 := w) (base := w.heap.size) (by rfl) rfl HF.out.swap.rv HF.out.below HF.out.below.size (by simp only [List.length_nil]; have := HSM.out; omega) (OF.fresh HF.out.swap) (by simp [Act.eval]) (by simp [Act.eval]) (Kd.C_below HG.out.names HF.out.below) ?_; intro v1 W1 hr1 hb1 hg1 ha1; rw [List.nil_append] at hr1; obtain ⟨Av1, cv1, rfl⟩ := Kd.R_slice hr1; have HN := Aside0.mk (HF.out.swap.appV hr1 hb1 hg1 ha1); clear hr1 hb1 hg1 ha1; refine hK.out _ _ ⟨HN.out.below, HN.out.p, HN.out.r⟩ (fun _ => ?_)
      clear hK K
      refine norm_ (a' := ?_) ?_ ?_
      rotate_left
      · (show Act.put _ (some 12) _ = _; simp only [Act.put, List.setIfInBounds_toArray, List.set_cons_zero, List.set_cons_succ]; rfl)
      refine pure_ (i := 8) (N := (some 13)) (v := ?_) (a' := ?_) #[true, true, true, true, true, true, true, true, true, false, false] rfl rfl (by kernel_rfl) (fun _ _ _ h => h) (Or.inl ⟨by rfl, ?_⟩) ?_ ?_
      rotate_left
      · (intro w'; go_simp; with_reducible rfl)
      rotate_left
      · (simp only [Act.put, List.setIfInBounds_toArray, List.set_cons_zero, List.set_cons_succ]; rfl)
      exact h220 (v5, A8, c8, v9, Av1, cv1, 0) _ HN.out.swap
    · have HN := Aside0.mk HF.out.mkB; refine value_ (w1 := ?_) (v := ?_) (by rfl) rfl ?_ ?_; rotate_left 2; (go_simp; constructor; rfl; rfl); refine hK.out _ _ ⟨HN.out.below, HN.out.p, HN.out.r⟩ (fun _ => ?_)
      clear hK K
      refine norm_ (a' := ?_) ?_ ?_
      rotate_left
      · (show Act.put _ (some 3) _ = _; simp only [Act.put, List.setIfInBounds_toArray, List.set_cons_zero, List.set_cons_succ]; rfl)
      exact h211 (v5, A8, c8, v9, none, 0, _) _ HN.out
  intro h210
  simp only [putAll, Act.put, List.setIfInBounds_toArray, List.set_cons_zero, List.set_cons_succ] at h210
  refine join_ (σ := Value × Option Addr × Nat × Value × Option Addr × Nat × Nat) 5 #[false, true, true, false, true, true, true, false, false, true, false] (fun s => [(9, s.2.2.2.1), (3, .pointer (some ⟨s.2.2.2.2.2.2, 0, none⟩))]) (fun s w' => OF w w' g A1 A2 A3 c1 c2 c3 (.slice none 0 0) [] s.2.2.2.1 [] (some s.2.2.2.2.2.2)) ?_ ?_
  · rintro ⟨v5, A8, c8, v9, A12, c12, b⟩ W' hF
    refine norm_ (a' := ?_) ?_ ?_
    rotate_left
    · (simp only [putAll, Act.put, List.setIfInBounds_toArray, List.set_cons_zero, List.set_cons_succ]; rfl)
    try dsimp only at hF
    have HF := Aside0.mk hF
    clear hF
    refine one_ (i := 0) (N := (some 5)) #[true, true, true, false, true, true, true, false, false, true, false] rfl rfl (by kernel_rfl) (by decide) (fun K hK => ?_)
    refine mk_str_step (w0 := w) (base := w.heap.size) (ok := fun k => some k ≠ (some b) ∧ some k ≠ (v9 : Value).ownBlock) (by rfl) rfl rfl HF.out.below HF.out.below.size (OF.fresh HF.out _ (Nat.le_refl _)) ?_; intro v1 W1 hr1 hb1 hg1 ha1; have HN := Aside0.mk (HF.out.mkV hr1 hb1 hg1 ha1); clear hr1 hb1 hg1 ha1; refine hK.out _ _ ⟨HN.out.below, HN.out.p, HN.out.r⟩ (fun _ => ?_)
    clear hK K
    refine norm_ (a' := ?_) ?_ ?_
    rotate_left
    · (show Act.put _ (some 5) _ = _; simp only [Act.put, List.setIfInBounds_toArray, List.set_cons_zero, List.set_cons_succ]; rfl)
    exact h111 (v1, none, 0, v9, none, 0, b) _ HN.out
  intro h011
  simp only [putAll, Act.put, List.setIfInBounds_toArray, List.set_cons_zero, List.set_cons_succ] at h011
  refine join_ (σ := Value × Option Addr × Nat × Value × Option Addr × Nat × Nat) 5 #[true, true, true, false, false, true, true, false, false, true, false] (fun s => [(5, s.1), (3, .pointer (some ⟨s.2.2.2.2.2.2, 0, none⟩))]) (fun s w' => OF w w' g A1 A2 A3 c1 c2 c3 s.1 [] (.slice none 0 0) [] (some s.2.2.2.2.2.2)) ?_ ?_
  · rintro ⟨v5, A8, c8, v9, A12, c12, b⟩ W' hF
    refine norm_ (a' := ?_) ?_ ?_
    rotate_left
    · (simp only [putAll, Act.put, List.setIfInBounds_toArray, List.set_cons_zero, List.set_cons_succ]; rfl)
    try dsimp only at hF
    have HF := Aside0.mk hF
    clear hF
    refine two_ (i := 3) (j := 4) (Ni := (some 8)) (Nj := (some 9)) #[true, true, true, true, false, true, true, false, false, true, false] #[true, true, true, false, true, true, true, false, false, true, false] rfl rfl rfl rfl (by kernel_rfl) (by decide) (by decide) (fun K hK => ?_) (fun K hK => ?_)
    · refine app_strs_step (A := A1) (c := c1) (w0 := w) (base := w.heap.size) (by rfl) rfl HF.out.rv HF.out.below HF.out.below.size (by simp only [List.length_nil]; have := HSM.out; omega) (OF.fresh HF.out) (by simp [Act.eval]) (by simp [Act.eval]) (Kd.C_below HG.out.terms HF.out.below) ?_; intro v1 W1 hr1 hb1 hg1 ha1; rw [List.nil_append] at hr1; obtain ⟨Av1, cv1, rfl⟩ := Kd.R_slice hr1; have HN := Aside0.mk (HF.out.appV hr1 hb1 hg1 ha1); clear hr1 hb1 hg1 ha1; refine hK.out _ _ ⟨HN.out.below, HN.out.p, HN.out.r⟩ (fun _ => ?_)
      clear hK K
      refine norm_ (a' := ?_) ?_ ?_
      rotate_left
      · (show Act.put _ (some 8) _ = _; simp only [Act.put, List.setIfInBounds_toArray, List.set_cons_zero, List.set_cons_succ]; rfl)
      exact h201 (v5, Av1, cv1, undef, none, 0, b) _ HN.out
    · refine mk_str_step (w0 := w) (base := w.heap.size) (ok := fun k => some k ≠ (some b) ∧ some k ≠ (v5 : Value).ownBlock) (by rfl) rfl rfl HF.out.below HF.out.below.size (OF.fresh HF.out.swap _ (Nat.le_refl _)) ?_; intro v1 W1 hr1 hb1 hg1 ha1; have HN := Aside0.mk (HF.out.swap.mkV hr1 hb1 hg1 ha1); clear hr1 hb1 hg1 ha1; refine hK.out _ _ ⟨HN.out.below, HN.out.p, HN.out.r⟩ (fun _ => ?_)
      clear hK K
      refine norm_ (a' := ?_) ?_ ?_
      rotate_left
      · (show Act.put _ (some 9) _ = _; simp only [Act.put, List.setIfInBounds_toArray, List.set_cons_zero, List.set_cons_succ]; rfl)
      exact h111 (v5, none, 0, v1, none, 0, b) _ HN.out.swap
  intro h101
  simp only [putAll, Act.put, List.setIfInBounds_toArray, List.set_cons_zero, List.set_cons_succ] at h101
  refine join_ (σ := Value × Option Addr × Nat × Value × Option Addr × Nat × Nat) 5 #[true, true, true, false, true, true, true, false, false, false, false] (fun s => [(5, s.1), (9, s.2.2.2.1)]) (fun s w' => OF w w' g A1 A2 A3 c1 c2 c3 s.1 [] s.2.2.2.1 [] none) ?_ ?_
  · rintro ⟨v5, A8, c8, v9, A12, c12, b⟩ W' hF
    refine norm_ (a' := ?_) ?_ ?_
    rotate_left
    · (simp only [putAll, Act.put, List.setIfInBounds_toArray, List.set_cons_zero, List.set_cons_succ]; rfl)
    try dsimp only at hF
    have HF := Aside0.mk hF
    clear hF
    refine two_ (i := 3) (j := 9) (Ni := (some 8)) (Nj := (some 3)) #[true, true, true, true, true, true, true, false, false, false, false] #[true, true, true, false, true, true, true, false, false, true, false] rfl rfl rfl rfl (by kernel_rfl) (by decide) (by decide) (fun K hK => ?_) (fun K hK => ?_)
    · refine app_strs_step (A := A1) (c := c1) (w0 := w) (base := w.heap.size) (by rfl) rfl HF.out.rv HF.out.below HF.out.below.size (by simp only [List.length_nil]; have := HSM.out; omega) (OF.fresh HF.out) (by simp [Act.eval]) (by simp [Act.eval]) (Kd.C_below HG.out.terms HF.out.below) ?_; intro v1 W1 hr1 hb1 hg1 ha1; rw [List.nil_append] at hr1; obtain ⟨Av1, cv1, rfl⟩ := Kd.R_slice hr1; have HN := Aside0.mk (HF.out.appV hr1 hb1 hg1 ha1); clear hr1 hb1 hg1 ha1; refine hK.out _ _ ⟨HN.out.below, HN.out.p, HN.out.r⟩ (fun _ => ?_)
      clear hK K
      refine norm_ (a' := ?_) ?_ ?_
      rotate_left
      · (show Act.put _ (some 8) _ = _; simp only [Act.put, List.setIfInBounds_toArray, List.set_cons_zero, List.set_cons_succ]; rfl)
      exact h210 (v5, Av1, cv1, v9, none, 0, 0) _ HN.out
    · have HN := Aside0.mk HF.out.mkB; refine value_ (w1 := ?_) (v := ?_) (by rfl) rfl ?_ ?_; rotate_left 2; (go_simp; constructor; rfl; rfl); refine hK.out _ _ ⟨HN.out.below, HN.out.p, HN.out.r⟩ (fun _ => ?_)
      clear hK K
      refine norm_ (a' := ?_) ?_ ?_
      rotate_left
      · (show Act.put _ (some 3) _ = _; simp only [Act.put, List.setIfInBounds_toArray, List.set_cons_zero, List.set_cons_succ]; rfl)
      exact h111 (v5, none, 0, v9, none, 0, _) _ HN.out
  intro h110
  simp only [putAll, Act.put, List.setIfInBounds_toArray, List.set_cons_zero, List.set_cons_succ] at h110
  refine join_ (σ := Value × Option Addr × Nat × Value × Option Addr × Nat × Nat) 5 #[true, true, true, true, false, true, true, false, false, false, false] (fun s => [(5, s.1), (8, (.slice s.2.1 g.terms.length s.2.2.1))]) (fun s w' => OF w w' g A1 A2 A3 c1 c2 c3 (.slice s.2.1 g.terms.length s.2.2.1) g.terms (.slice none 0 0) [] none) ?_ ?_
  · rintro ⟨v5, A8, c8, v9, A12, c12, b⟩ W' hF
    refine norm_ (a' := ?_) ?_ ?_
    rotate_left
    · (simp only [putAll, Act.put, List.setIfInBounds_toArray, List.set_cons_zero, List.set_cons_succ]; rfl)
    try dsimp only at hF
    have HF := Aside0.mk hF
    clear hF
    refine two_ (i := 4) (j := 9) (Ni := (some 9)) (Nj := (some 3)) #[true, true, true, true, true, true, true, false, false, false, false] #[true, true, true, true, false, true, true, false, false, true, false] rfl rfl rfl rfl (by kernel_rfl) (by decide) (by decide) (fun K hK => ?_) (fun K hK => ?_)
    · refine mk_str_step (w0 := w) (base := w.heap.size) (ok := fun k => some k ≠ (none : Option Nat) ∧ some k ≠ ((.slice A8 g.terms.length c8) : Value).ownBlock) (by rfl) rfl rfl HF.out.below HF.out.below.size (OF.fresh HF.out.swap _ (Nat.le_refl _)) ?_; intro v1 W1 hr1 hb1 hg1 ha1; have HN := Aside0.mk (HF.out.swap.mkV hr1 hb1 hg1 ha1); clear hr1 hb1 hg1 ha1; refine hK.out _ _ ⟨HN.out.below, HN.out.p, HN.out.r⟩ (fun _ => ?_)
      clear hK K
      refine norm_ (a' := ?_) ?_ ?_
      rotate_left
      · (show Act.put _ (some 9) _ = _; simp only [Act.put, List.setIfInBounds_toArray, List.set_cons_zero, List.set_cons_succ]; rfl)
      exact h210 (v5, A8, c8, v1, none, 0, 0) _ HN.out.swap
    · have HN := Aside0.mk HF.out.mkB; refine value_ (w1 := ?_) (v := ?_) (by rfl) rfl ?_ ?_; rotate_left 2; (go_simp; constructor; rfl; rfl); refine hK.out _ _ ⟨HN.out.below, HN.out.p, HN.out.r⟩ (fun _ => ?_)
      clear hK K
      refine norm_ (a' := ?_) ?_ ?_
      rotate_left
      · (show Act.put _ (some 3) _ = _; simp only [Act.put, List.setIfInBounds_toArray, List.set_cons_zero, List.set_cons_succ]; rfl)
      exact h201 (v5, A8, c8, undef, none, 0, _) _ HN.out
  intro h200
  simp only [putAll, Act.put, List.setIfInBounds_toArray, List.set_cons_zero, List.set_cons_succ] at h200
  refine join_ (σ := Value × Option Addr × Nat × Value × Option Addr × Nat × Nat) 6 #[false, true, true, false, false, true, true, false, false, true, false] (fun s => [(3, .pointer (some ⟨s.2.2.2.2.2.2, 0, none⟩))]) (fun s w' => OF w w' g A1 A2 A3 c1 c2 c3 (.slice none 0 0) [] (.slice none 0 0) [] (some s.2.2.2.2.2.2)) ?_ ?_
  · rintro ⟨v5, A8, c8, v9, A12, c12, b⟩ W' hF
    refine norm_ (a' := ?_) ?_ ?_
    rotate_left
    · (simp only [putAll, Act.put, List.setIfInBounds_toArray, List.set_cons_zero, List.set_cons_succ]; rfl)
    try dsimp only at hF
    have HF := Aside0.mk hF
    clear hF
    refine two_ (i := 0) (j := 4) (Ni := (some 5)) (Nj := (some 9)) #[true, true, true, false, false, true, true, false, false, true, false] #[false, true, true, false, true, true, true, false, false, true, false] rfl rfl rfl rfl (by kernel_rfl) (by decide) (by decide) (fun K hK => ?_) (fun K hK => ?_)
    · refine mk_str_step (w0 := w) (base := w.heap.size) (ok := fun k => some k ≠ (some b) ∧ some k ≠ ((.slice none 0 0) : Value).ownBlock) (by rfl) rfl rfl HF.out.below HF.out.below.size (OF.fresh HF.out _ (Nat.le_refl _)) ?_; intro v1 W1 hr1 hb1 hg1 ha1; have HN := Aside0.mk (HF.out.mkV hr1 hb1 hg1 ha1); clear hr1 hb1 hg1 ha1; refine hK.out _ _ ⟨HN.out.below, HN.out.p, HN.out.r⟩ (fun _ => ?_)
      clear hK K
      refine norm_ (a' := ?_) ?_ ?_
      rotate_left
      · (show Act.put _ (some 5) _ = _; simp only [Act.put, List.setIfInBounds_toArray, List.set_cons_zero, List.set_cons_succ]; rfl)
      exact h101 (v1, none, 0, undef, none, 0, b) _ HN.out
    · refine mk_str_step (w0 := w) (base := w.heap.size) (ok := fun k => some k ≠ (some b) ∧ some k ≠ ((.slice none 0 0) : Value).ownBlock) (by rfl) rfl rfl HF.out.below HF.out.below.size (OF.fresh HF.out.swap _ (Nat.le_refl _)) ?_; intro v1 W1 hr1 hb1 hg1 ha1; have HN := Aside0.mk (HF.out.swap.mkV hr1 hb1 hg1 ha1); clear hr1 hb1 hg1 ha1; refine hK.out _ _ ⟨HN.out.below, HN.out.p, HN.out.r⟩ (fun _ => ?_)
      clear hK K
      refine norm_ (a' := ?_) ?_ ?_
      rotate_left
      · (show Act.put _ (some 9) _ = _; simp only [Act.put, List.setIfInBounds_toArray, List.set_cons_zero, List.set_cons_succ]; rfl)
      exact h011 (undef, none, 0, v1, none, 0, b) _ HN.out.swap
  intro h001
  simp only [putAll, Act.put, List.setIfInBounds_toArray, List.set_cons_zero, List.set_cons_succ] at h001
  refine join_ (σ := Value × Option Addr × Nat × Value × Option Addr × Nat × Nat) 6 #[false, true, true, false, true, true, true, false, false, false, false] (fun s => [(9, s.2.2.2.1)]) (fun s w' => OF w w' g A1 A2 A3 c1 c2 c3 (.slice none 0 0) [] s.2.2.2.1 [] none) ?_ ?_
  · rintro ⟨v5, A8, c8, v9, A12, c12, b⟩ W' hF
    refine norm_ (a' := ?_) ?_ ?_
    rotate_left
    · (simp only [putAll, Act.put, List.setIfInBounds_toArray, List.set_cons_zero, List.set_cons_succ]; rfl)
    try dsimp only at hF
    have HF := Aside0.mk hF
    clear hF
    refine two_ (i := 0) (j := 9) (Ni := (some 5)) (Nj := (some 3)) #[true, true, true, false, true, true, true, false, false, false, false] #[false, true, true, false, true, true, true, false, false, true, false] rfl rfl rfl rfl (by kernel_rfl) (by decide) (by decide) (fun K hK => ?_) (fun K hK => ?_)
    · refine mk_str_step (w0 := w) (base := w.heap.size) (ok := fun k => some k ≠ (none : Option Nat) ∧ some k ≠ (v9 : Value).ownBlock) (by rfl) rfl rfl HF.out.below HF.out.below.size (OF.fresh HF.out _ (Nat.le_refl _)) ?_; intro v1 W1 hr1 hb1 hg1 ha1; have HN := Aside0.mk (HF.out.mkV hr1 hb1 hg1 ha1); clear hr1 hb1 hg1 ha1; refine hK.out _ _ ⟨HN.out.below, HN.out.p, HN.out.r⟩ (fun _ => ?_)
      clear hK K
      refine norm_ (a' := ?_) ?_ ?_
      rotate_left
      · (show Act.put _ (some 5) _ = _; simp only [Act.put, List.setIfInBounds_toArray, List.set_cons_zero, List.set_cons_succ]; rfl)
      exact h110 (v1, none, 0, v9, none, 0, 0) _ HN.out
    · have HN := Aside0.mk HF.out.mkB; refine value_ (w1 := ?_) (v := ?_) (by rfl) rfl ?_ ?_; rotate_left 2; (go_simp; constructor; rfl; rfl); refine hK.out _ _ ⟨HN.out.below, HN.out.p, HN.out.r⟩ (fun _ => ?_)
      clear hK K
      refine norm_ (a' := ?_) ?_ ?_
      rotate_left
      · (show Act.put _ (some 3) _ = _; simp only [Act.put, List.setIfInBounds_toArray, List.set_cons_zero, List.set_cons_succ]; rfl)
      exact h011 (undef, none, 0, v9, none, 0, _) _ HN.out
  intro h010
  simp only [putAll, Act.put, List.setIfInBounds_toArray, List.set_cons_zero, List.set_cons_succ] at h010
  refine join_ (σ := Value × Option Addr × Nat × Value × Option Addr × Nat × Nat) 6 #[true, true, true, false, false, true, true, false, false, false, false] (fun s => [(5, s.1)]) (fun s w' => OF w w' g A1 A2 A3 c1 c2 c3 s.1 [] (.slice none 0 0) [] none) ?_ ?_
  · rintro ⟨v5, A8, c8, v9, A12, c12, b⟩ W' hF
    refine norm_ (a' := ?_) ?_ ?_
    rotate_left
    · (simp only [putAll, Act.put, List.setIfInBounds_toArray, List.set_cons_zero, List.set_cons_succ]; rfl)
    try dsimp only at hF
    have HF := Aside0.mk hF
    clear hF
    refine three_ (i := 3) (j := 4) (k := 9) (Ni := (some 8)) (Nj := (some 9)) (Nk := (some 3)) #[true, true, true, true, false, true, true, false, false, false, false] #[true, true, true, false, true, true, true, false, false, false, false] #[true, true, true, false, false, true, true, false, false, true, false] rfl rfl rfl rfl rfl rfl (by kernel_rfl) (by decide) (by decide) (by decide) (fun K hK => ?_) (fun K hK => ?_) (fun K hK => ?_)
    · refine app_strs_step (A := A1) (c := c1) (w0 := w) (base := w.heap.size) (by rfl) rfl HF.out.rv HF.out.below HF.out.below.size (by simp only [List.length_nil]; have := HSM.out; omega) (OF.fresh HF.out) (by simp [Act.eval]) (by simp [Act.eval]) (Kd.C_below HG.out.terms HF.out.below) ?_; intro v1 W1 hr1 hb1 hg1 ha1; rw [List.nil_append] at hr1; obtain ⟨Av1, cv1, rfl⟩ := Kd.R_slice hr1; have HN := Aside0.mk (HF.out.appV hr1 hb1 hg1 ha1); clear hr1 hb1 hg1 ha1; refine hK.out _ _ ⟨HN.out.below, HN.out.p, HN.out.r⟩ (fun _ => ?_)
      clear hK K
      refine norm_ (a' := ?_) ?_ ?_
      rotate_left
      · (show Act.put _ (some 8) _ = _; simp only [Act.put, List.setIfInBounds_toArray, List.set_cons_zero, List.set_cons_succ]; rfl)
      exact h200 (v5, Av1, cv1, undef, none, 0, 0) _ HN.out
    · refine mk_str_step (w0 := w) (base := w.heap.size) (ok := fun k => some k ≠ (none : Option Nat) ∧ some k ≠ (v5 : Value).ownBlock) (by rfl) rfl rfl HF.out.below HF.out.below.size (OF.fresh HF.out.swap _ (Nat.le_refl _)) ?_; intro v1 W1 hr1 hb1 hg1 ha1; have HN := Aside0.mk (HF.out.swap.mkV hr1 hb1 hg1 ha1); clear hr1 hb1 hg1 ha1; refine hK.out _ _ ⟨HN.out.below, HN.out.p, HN.out.r⟩ (fun _ => ?_)
      clear hK K
      refine norm_ (a' := ?_) ?_ ?_
      rotate_left
      · (show Act.put _ (some 9) _ = _; simp only [Act.put, List.setIfInBounds_toArray, List.set_cons_zero, List.set_cons_succ]; rfl)
      exact h110 (v5, none, 0, v1, none, 0, 0) _ HN.out.swap
    · have HN := Aside0.mk HF.out.mkB; refine value_ (w1 := ?_) (v := ?_) (by rfl) rfl ?_ ?_; rotate_left 2; (go_simp; constructor; rfl; rfl); refine hK.out _ _ ⟨HN.out.below, HN.out.p, HN.out.r⟩ (fun _ => ?_)
      clear hK K
      refine norm_ (a' := ?_) ?_ ?_
      rotate_left
      · (show Act.put _ (some 3) _ = _; simp only [Act.put, List.setIfInBounds_toArray, List.set_cons_zero, List.set_cons_succ]; rfl)
      exact h101 (v5, none, 0, undef, none, 0, _) _ HN.out
  intro h100
  simp only [putAll, Act.put, List.setIfInBounds_toArray, List.set_cons_zero, List.set_cons_succ] at h100
  refine three_ (i := 0) (j := 4) (k := 9) (Ni := (some 5)) (Nj := (some 9)) (Nk := (some 3)) #[true, true, true, false, false, true, true, false, false, false, false] #[false, true, true, false, true, true, true, false, false, false, false] #[false, true, true, false, false, true, true, false, false, true, false] rfl rfl rfl rfl rfl rfl (by kernel_rfl) (by decide) (by decide) (by decide) (fun K hK => ?_) (fun K hK => ?_) (fun K hK => ?_)
  · refine mk_str_step (w0 := w) (base := w.heap.size) (ok := fun k => some k ≠ (none : Option Nat) ∧ some k ≠ ((.slice none 0 0) : Value).ownBlock) (by rfl) rfl rfl HF0.out.below HF0.out.below.size (OF.fresh HF0.out _ (Nat.le_refl _)) ?_; intro v1 W1 hr1 hb1 hg1 ha1; have HN := Aside0.mk (HF0.out.mkV hr1 hb1 hg1 ha1); clear hr1 hb1 hg1 ha1; refine hK.out _ _ ⟨HN.out.below, HN.out.p, HN.out.r⟩ (fun _ => ?_)
    clear hK K
    refine norm_ (a' := ?_) ?_ ?_
    rotate_left
    · (show Act.put _ (some 5) _ = _; simp only [Act.put, List.setIfInBounds_toArray, List.set_cons_zero, List.set_cons_succ]; rfl)
    exact h100 (v1, none, 0, undef, none, 0, 0) _ HN.out
  · refine mk_str_step (w0 := w) (base := w.heap.size) (ok := fun k => some k ≠ (none : Option Nat) ∧ some k ≠ ((.slice none 0 0) : Value).ownBlock) (by rfl) rfl rfl HF0.out.below HF0.out.below.size (OF.fresh HF0.out.swap _ (Nat.le_refl _)) ?_; intro v1 W1 hr1 hb1 hg1 ha1; have HN := Aside0.mk (HF0.out.swap.mkV hr1 hb1 hg1 ha1); clear hr1 hb1 hg1 ha1; refine hK.out _ _ ⟨HN.out.below, HN.out.p, HN.out.r⟩ (fun _ => ?_)
    clear hK K
    refine norm_ (a' := ?_) ?_ ?_
    rotate_left
    · (show Act.put _ (some 9) _ = _; simp only [Act.put, List.setIfInBounds_toArray, List.set_cons_zero, List.set_cons_succ]; rfl)
    exact h010 (undef, none, 0, v1, none, 0, 0) _ HN.out.swap
  · have HN := Aside0.mk HF0.out.mkB; refine value_ (w1 := ?_) (v := ?_) (by rfl) rfl ?_ ?_; rotate_left 2; (go_simp; constructor; rfl; rfl); refine hK.out _ _ ⟨HN.out.below, HN.out.p, HN.out.r⟩ (fun _ => ?_)
    clear hK K
    refine norm_ (a' := ?_) ?_ ?_
    rotate_left
    · (show Act.put _ (some 3) _ = _; simp only [Act.put, List.setIfInBounds_toArray, List.set_cons_zero, List.set_cons_succ]; rfl)
    exact h001 (undef, none, 0, undef, none, 0, _) _ HN.out
end Go.Proofs.Ytphmmppmhphgeaa
