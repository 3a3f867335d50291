/- Texts Y2, X3, E3, S1, P3, P4, P5, E6, Q3, joined: contracts of functions of the program, and plain laws; each says what it proves. -/
import Derived.Test.YtphmmppmhphgeaaJR5d
import Derived.Test.YtphmmppmhphgeaaJR5b
import Derived.Test.YtphmmppmhphgeaaWLast
import Derived.Test.YtphmmppmhphgeaaJR5a
/- The contract of keep.Own: a grammar of one's own. -/
set_option linter.unusedVariables false
set_option linter.unusedSimpArgs false
namespace Go.Proofs.Ytphmmppmhphgeaa
open Go.RowKit Go.Proofs.YtphmmppmhphgeaaW.PrintWords Go.Proofs.YtphmmppmhphgeaaW.PrintLast

theorem OF.fresh {w W : World} {g : Gram} {A1 A2 A3 : Option Addr} {c1 c2 c3 : Nat} {v u : Value} {xs ys : List ByteArray} {ob : Option Nat} (h : OF w W g A1 A2 A3 c1 c2 c3 v xs u ys ob) : ∀ k, W.heap.size ≤ k → some k ≠ ob ∧ some k ≠ u.ownBlock := by
  intro k hk
  refine ⟨fun e => ?_, fresh_ne h.ru k hk⟩
  have := blk_lt (h.cell k e.symm).2
  omega
/-- A grammar of the call's own. -/
structure OwnG (W : World) (base : Nat) (g : Gram) (v1 v2 v3 : Value) : Prop where
  terms : kStr.R 9 W base (fun k => True ∧ some k ≠ v2.ownBlock) v1 g.terms
  names : kStr.R 9 W base (fun k => True ∧ some k ≠ v1.ownBlock) v2 g.names
  rules : kRule.R 56 W base (fun _ => True) v3 g.rules

/-- While its rules are made. -/
structure OwSt (w W : World) (b : Nat) (g : Gram) (A1 A2 A3 : Option Addr) (c1 c2 c3 : Nat) (v1 v2 v3 : Value) (k : Nat) : Prop where
  below : Below w.heap.size w W
  p : W.heap[w.heap.size]? = some (.cells #[.slice A1 g.terms.length c1, .slice A2 g.names.length c2, .slice A3 g.rules.length c3] 25 (0, 0))
  r : W.heap[w.heap.size + 1]? = some (.cells #[.slice none 0 0, .slice none 0 0, .slice none 0 0] 25 (0, 0))
  h : W.heap[b]? = some (.cells #[v1, v2, v3] 25 (0, 0))
  hb : w.heap.size + 1 < b
  R1 : kStr.R 9 W w.heap.size (fun k => True ∧ some k ≠ v2.ownBlock) v1 g.terms
  R2 : kStr.R 9 W w.heap.size (fun k => True ∧ some k ≠ v1.ownBlock) v2 g.names
  R3 : kRule.R 56 W w.heap.size (fun _ => True) v3 (g.rules.take k)
section
variable {w W W1 : World} {b k : Nat} {g : Gram} {A1 A2 A3 : Option Addr} {c1 c2 c3 : Nat} {v1 v2 v3 : Value}
theorem OwSt.start (h : OF w W g A1 A2 A3 c1 c2 c3 v1 g.terms v2 g.names (some b)) : OwSt w (((W.setCell ⟨b, 0, none⟩ v1).setCell ⟨b, 1, none⟩ v2).setCell ⟨b, 2, none⟩ (.slice none 0 0)) b g A1 A2 A3 c1 c2 c3 v1 v2 (.slice none 0 0) 0 := by
  obtain ⟨hbl, hbh⟩ := h.cell b rfl
  have h1 := blk_set hbh 0 v1
  have h2 := blk_set h1 1 v2
  have h3 := blk_set h2 2 (.slice none 0 0)
  have n1 : w.heap.size ≠ b := by omega
  have n2 : w.heap.size + 1 ≠ b := by omega
  have hb : w.heap.size ≤ b := by omega
  refine ⟨below_set (below_set (below_set h.below hb _ _) hb _ _) hb _ _, blk_far (blk_far (blk_far h.p n1 _) n1 _) n1 _, blk_far (blk_far (blk_far h.r n2 _) n2 _) n2 _, h3, hbl, ?_, ?_, Kd.R_nil _ _ _ _ _⟩
  · exact Kd.R_mono (Kd.R_set (Kd.R_set (Kd.R_set h.rv hbh (by decide) 0 _) h1 (by decide) 1 _) h2 (by decide) 2 _) (fun k hk => ⟨trivial, hk.2⟩)
  · exact Kd.R_mono (Kd.R_set (Kd.R_set (Kd.R_set h.ru hbh (by decide) 0 _) h1 (by decide) 1 _) h2 (by decide) 2 _) (fun k hk => ⟨trivial, hk.2⟩)
theorem OwSt.below_ (h : OwSt w W b g A1 A2 A3 c1 c2 c3 v1 v2 v3 k) (hb : Below W.heap.size W W1) : OwSt w W1 b g A1 A2 A3 c1 c2 c3 v1 v2 v3 k :=
  ⟨below_then h.below h.below.size hb, blk_below h.p hb, blk_below h.r hb, blk_below h.h hb, h.hb, Kd.R_below h.R1 hb, Kd.R_below h.R2 hb, Kd.R_below h.R3 hb⟩
theorem OwSt.drew_ (h : OwSt w W b g A1 A2 A3 c1 c2 c3 v1 v2 v3 k) : OwSt w W.drew b g A1 A2 A3 c1 c2 c3 v1 v2 v3 k := h.below_ (below_drew1 (Below.refl _ _))
theorem OwSt.alloc_ (h : OwSt w W b g A1 A2 A3 c1 c2 c3 v1 v2 v3 k) (o : Obj) : OwSt w (W.alloc o) b g A1 A2 A3 c1 c2 c3 v1 v2 v3 k := h.below_ (below_alloc (Below.refl _ _) o)
/-- A row that none of these is has grown. -/
theorem OwSt.other (h : OwSt w W b g A1 A2 A3 c1 c2 c3 v1 v2 v3 k) {q : Nat} (hq : W.heap.size ≤ q) {W2 : World} {o : Obj} (hb : Below w.heap.size w W2) (hg : (W.alloc o).grownBy W2 (some q)) : OwSt w W2 b g A1 A2 A3 c1 c2 c3 v1 v2 v3 k := by
  have ha := h.alloc_ o
  have nq : ∀ {i : Nat} {c : Array Value} {t : Nat}, W.heap[i]? = some (.cells c t (0, 0)) → some i ≠ some q := fun hi e => by have := blk_lt hi; injection e with e; omega
  have mv : ∀ {α : Type} {d : Kd α} {e : Nat} {ok : Nat → Prop} {v : Value} {xs : List α}, d.R e W w.heap.size ok v xs → d.R e W2 w.heap.size ok v xs := fun hr =>
    Kd.R_mono (Kd.R_grown (Kd.R_alloc (Kd.R_bound hr) o) hg (fun k hk e => by have := hk.2.2.1; injection e with e; omega)) (fun k hk => hk.1)
  exact ⟨hb, blk_grown ha.p hg (nq h.p), blk_grown ha.r hg (nq h.r), blk_grown ha.h hg (nq h.h), h.hb, mv h.R1, mv h.R2, mv h.R3⟩
/-- A rule more. -/
theorem OwSt.more (h : OwSt w W b g A1 A2 A3 c1 c2 c3 v1 v2 v3 k) {x : Rule} {v4 : Value} (hk : k < g.rules.length) (hx : x = g.rules[k]'hk) (a : Appd kRule 56 w W w.heap.size (fun _ => True) v3 (g.rules.take k ++ [x]) v4 W1) : OwSt w (W1.setCell ⟨b, 2, none⟩ v4) b g A1 A2 A3 c1 c2 c3 v1 v2 v4 (k + 1) := by
  have e1 : g.rules.take k ++ [x] = g.rules.take (k + 1) := by rw [List.take_succ_eq_append_getElem hk, hx]
  have hh := blk_grown h.h a.grown (Kd.R_ne h.R3 h.h (by decide))
  have hb := h.hb
  refine ⟨below_set a.below (show w.heap.size ≤ b by omega) _ _, blk_far (blk_grown h.p a.grown (Kd.R_ne h.R3 h.p (by decide))) (by show w.heap.size ≠ b; omega) _, blk_far (blk_grown h.r a.grown (Kd.R_ne h.R3 h.r (by decide))) (by show w.heap.size + 1 ≠ b; omega) _, blk_set hh 2 _, h.hb, Kd.R_set (Kd.R_over h.R1 h.R3 (by decide) a.grown) hh (by decide) 2 _, Kd.R_set (Kd.R_over h.R2 h.R3 (by decide) a.grown) hh (by decide) 2 _, ?_⟩
  rw [← e1]
  exact Kd.R_set a.row hh (by decide) 2 _
theorem OwSt.final (h : OwSt w W b g A1 A2 A3 c1 c2 c3 v1 v2 v3 g.rules.length) (u1 u2 u3 : Value) : OwnG (((W.setCell ⟨w.heap.size + 1, 0, none⟩ u1).setCell ⟨w.heap.size + 1, 1, none⟩ u2).setCell ⟨w.heap.size + 1, 2, none⟩ u3) w.heap.size g v1 v2 v3 ∧ Below w.heap.size w (((W.setCell ⟨w.heap.size + 1, 0, none⟩ u1).setCell ⟨w.heap.size + 1, 1, none⟩ u2).setCell ⟨w.heap.size + 1, 2, none⟩ u3) := by
  have h1 := blk_set h.r 0 u1
  have h2 := blk_set h1 1 u2
  have hb : w.heap.size ≤ w.heap.size + 1 := by omega
  have h3 := h.R3
  rw [List.take_length] at h3
  exact ⟨⟨Kd.R_set (Kd.R_set (Kd.R_set h.R1 h.r (by decide) 0 _) h1 (by decide) 1 _) h2 (by decide) 2 _, Kd.R_set (Kd.R_set (Kd.R_set h.R2 h.r (by decide) 0 _) h1 (by decide) 1 _) h2 (by decide) 2 _, Kd.R_set (Kd.R_set (Kd.R_set h3 h.r (by decide) 0 _) h1 (by decide) 1 _) h2 (by decide) 2 _⟩, below_set (below_set (below_set h.below hb _ _) hb _ _) hb _ _⟩
end
theorem results_own {tmps : Array Value} {W : World} {q : Nat} {A1 A2 A3 : Option Addr} {n1 n2 n3 c1 c2 c3 : Nat} (t2 : tmps.getD 2 undef = .pointer (some ⟨q, 0, none⟩))
    (h : W.heap[q]? = some (.cells #[.slice A1 n1 c1, .slice A2 n2 c2, .slice A3 n3 c3] 25 (0, 0))) :
    (results Try.f19 tmps).run Try.prog W = .ok (.agg #[.slice A1 n1 c1, .slice A2 n2 c2, .slice A3 n3 c3]) W := by
  have d1 := blk_cell h 0
  have d4 := blk_cell h 1
  have d5 := blk_cell h 2
  simp only [List.getElem?_toArray, List.getElem?_cons_zero, List.getElem?_cons_succ] at d1 d4 d5
  simp only [Array.getD_eq_getD_getElem?] at t2
  simp [results, Try.results19, go_sem, d1, d4, d5, t2]
theorem cell_lt {w : World} {p : Addr} {v : Value} (h : w.cell? p = some v) : p.block < w.heap.size := by
  unfold World.cell? at h
  split at h
  · rename_i hb; exact blk_lt hb
  · cases h
theorem cell_keep {w W : World} {p : Addr} {v : Value} (hb : Below w.heap.size w W) (h : w.cell? p = some v) : W.cell? p = w.cell? p := Below.cell hb (cell_lt h)
/-- What a round reads. -/
structure OS (w : World) (b : Nat) (g : Gram) (A1 A2 A3 : Option Addr) (c1 c2 c3 : Nat) (v1 v2 v3 : Value) (ad : Addr) (k : Nat) (x : Rule) (R : Option Addr) (cr : Nat) (W : World) : Prop where
  below : Below w.heap.size w W
  p : W.heap[w.heap.size]? = some (.cells #[.slice A1 g.terms.length c1, .slice A2 g.names.length c2, .slice A3 g.rules.length c3] 25 (0, 0))
  h : W.heap[b]? = some (.cells #[v1, v2, v3] 25 (0, 0))
  x1 : W.cell? (ad.add (k * 2)) = some (.int .i64 x.left)
  x2 : W.cell? ⟨(ad.add (k * 2)).block, (ad.add (k * 2)).off + 1, none⟩ = some (.slice R x.right.length cr)
theorem OS.mk' {w W : World} {b k k0 : Nat} {g : Gram} {A1 A2 A3 : Option Addr} {c1 c2 c3 : Nat} {v1 v2 v3 : Value} {ad : Addr} {x : Rule} {R : Option Addr} {cr : Nat} (h : OwSt w W b g A1 A2 A3 c1 c2 c3 v1 v2 v3 k0) (h1 : w.cell? (ad.add (k * 2)) = some (.int .i64 x.left)) (h2 : w.cell? ⟨(ad.add (k * 2)).block, (ad.add (k * 2)).off + 1, none⟩ = some (.slice R x.right.length cr)) : OS w b g A1 A2 A3 c1 c2 c3 v1 v2 v3 ad k x R cr W :=
  ⟨h.below, h.p, h.h, (cell_keep h.below h1).trans h1, (cell_keep h.below h2).trans h2⟩
theorem OS.alloc_ {w W : World} {b k : Nat} {g : Gram} {A1 A2 A3 : Option Addr} {c1 c2 c3 : Nat} {v1 v2 v3 : Value} {ad : Addr} {x : Rule} {R : Option Addr} {cr : Nat} (h : OS w b g A1 A2 A3 c1 c2 c3 v1 v2 v3 ad k x R cr W) (o : Obj) : OS w b g A1 A2 A3 c1 c2 c3 v1 v2 v3 ad k x R cr (W.alloc o) := by
  have hb := below_alloc (Below.refl W.heap.size W) o
  exact ⟨below_then h.below h.below.size hb, blk_below h.p hb, blk_below h.h hb, (cell_keep hb h.x1).trans h.x1, (cell_keep hb h.x2).trans h.x2⟩
theorem ints_new (W : World) (base : Nat) (hb : base ≤ W.heap.size) (ok : Nat → Prop) (hok : ok W.heap.size) : kInt.R 3 (W.alloc (.cells #[] 3)) base ok (.slice (some ⟨W.heap.size, 0, none⟩) 0 0) [] := by
  have h := own_lit W base 3 .i64 [] hb (by simp)
  exact Kd.R_of_own h (fun k hk => by
    have : W.heap.size = k := by simpa [Value.ownBlock] using hk
    subst this
    exact hok)
/-- Numbers behind numbers. -/
theorem app_ints_step {ops : Array Oper} {o : Oper} {a : Act} {Q : Exit → Act → World → Prop} {Kc : Act → World → Prop} {base : Nat} {w0 W : World} {ok : Nat → Prop} {v : Value} {s x : Operand} {xs ys : List Int} {A : Option Addr} {c : Nat} (hw : Region.wanted o (yielded ops a.tmps) = true) (ho : o.op = .call { callee := .builtin .append, args := #[s, x], argTypes := #[54, 54] })
    (HO : kInt.R 3 W base ok v xs) (HB : Below base w0 W) (hbase : base ≤ W.heap.size) (hl : xs.length + ys.length ≤ 1000000000000) (hfresh : ∀ k, W.heap.size ≤ k → ok k) (hs : a.eval s = v) (hx : a.eval x = .slice A ys.length c) (HC : kInt.C W A ys.length ys)
    (h : ∀ v1 w1, kInt.R 3 w1 base ok v1 (xs ++ ys) → Below base w0 w1 → W.grownBy w1 v.ownBlock → (v1.ownBlock = v.ownBlock ∨ ∃ b, v1.ownBlock = some b ∧ W.heap.size ≤ b) → Kc (a.put o.dst v1) w1) :
    if Region.wanted o (yielded ops a.tmps) = true then Oper.wp Try.prog o a W Kc Q else Kc (a.put o.dst undef) W :=
  Kd.R_append_rows_step kInt base hw s x 54 3 _ 8 ho Try.underlying54 infoInt rfl (by decide) (by decide) v xs ys A ys.length c ok (fun _ => False) hs hx HO HC (fun x cs h => h) (fun _ h => h.elim) hfresh HB hbase (by omega) h
theorem app_rule_step {ops : Array Oper} {o : Oper} {a : Act} {Q : Exit → Act → World → Prop} {Kc : Act → World → Prop} {w0 W : World} {v u : Value} {s x : Operand} {xs : List Rule} {p : Rule} (hw : Region.wanted o (yielded ops a.tmps) = true) (ho : o.op = .call { callee := .builtin .append, args := #[s, x], argTypes := #[23, 23] })
    (HO : kRule.R 56 W w0.heap.size (fun _ => True) v xs) (HU : kInt.R 3 W w0.heap.size (fun q => some q ≠ v.ownBlock) u p.right) (HB : Below w0.heap.size w0 W) (hl : xs.length + 1 ≤ 2000000000000) (hs : a.eval s = v) (hx : a.eval x = .slice (some ⟨W.heap.size, 0, none⟩) 1 1)
    (h : ∀ v1 w1, Appd kRule 56 w0 W w0.heap.size (fun _ => True) v (xs ++ [p]) v1 w1 → Kc (a.put o.dst v1) w1) :
    if Region.wanted o (yielded ops a.tmps) = true then Oper.wp Try.prog o a (W.alloc (.cells #[.int .i64 p.left, u] 56)) Kc Q else Kc (a.put o.dst undef) (W.alloc (.cells #[.int .i64 p.left, u] 56)) :=
  Kd.R_append_step kRule w0.heap.size hw s x 23 56 _ 32 ho Try.underlying23 infoRule rfl (by decide) (by decide) v xs p [.int .i64 p.left, u] (fun _ => True) (fun q => some q ≠ v.ownBlock) hs hx (M_rule HU) (fun _ h => ⟨trivial, h⟩) (fun _ _ => trivial) HO HB HB.size (by omega) (fun v1 w1 h1 h2 h3 h4 => h v1 w1 ⟨h1, h2, h3, h4⟩)

set_option maxRecDepth 100000 in
set_option maxHeartbeats 8000000 in
theorem own_c (g : Gram) (A1 A2 A3 : Option Addr) (c1 c2 c3 : Nat) (w : World) (hg : RepG w g A1 A2 A3 c1 c2 c3) (hsm : g.terms.length ≤ 100000 ∧ g.names.length ≤ 100000 ∧ g.rules.length ≤ 100000 ∧ ∀ r ∈ g.rules, r.right.length ≤ 100000) :
    Calls Try.prog 19 #[.agg #[.slice A1 g.terms.length c1, .slice A2 g.names.length c2, .slice A3 g.rules.length c3]] w fun e w' => (∃ B1 B2 B3 d1 d2 d3, e = .returned (.agg #[.slice B1 g.terms.length d1, .slice B2 g.names.length d2, .slice B3 g.rules.length d3]) ∧ OwnG w' w.heap.size g (.slice B1 g.terms.length d1) (.slice B2 g.names.length d2) (.slice B3 g.rules.length d3)) ∧ Below w.heap.size w w' := by
  have HF0 : Aside0 (OF w ((w.alloc (.cells #[.slice A1 g.terms.length c1, .slice A2 g.names.length c2, .slice A3 g.rules.length c3] 25 (0, 0))).alloc (.cells #[.slice none 0 0, .slice none 0 0, .slice none 0 0] 25 (0, 0))).drew g A1 A2 A3 c1 c2 c3 (.slice none 0 0) [] (.slice none 0 0) [] none) :=
    ⟨⟨below_drew1 (((Below.refl w.heap.size w).alloc (Nat.le_refl _) _).alloc (by simp) _), blk_drew (blk_alloc (blk_new w _) _), blk_drew (by have h := blk_new (w.alloc (.cells #[.slice A1 g.terms.length c1, .slice A2 g.names.length c2, .slice A3 g.rules.length c3] 25 (0, 0))) (.cells #[.slice none 0 0, .slice none 0 0, .slice none 0 0] 25 (0, 0)); rw [show (w.alloc (.cells #[.slice A1 g.terms.length c1, .slice A2 g.names.length c2, .slice A3 g.rules.length c3] 25 (0, 0))).heap.size = w.heap.size + 1 by simp] at h; exact h), Kd.R_nil _ _ _ _ _, Kd.R_nil _ _ _ _ _, fun b e => by cases e⟩⟩
  have HG := Aside0.mk hg
  have HSM := Aside0.mk hsm
  clear hg hsm
  go_enter Try.func19, Try.ntmps19
  go_wp2
  obtain ⟨W0, hW0⟩ : ∃ W0 : World, W0 = ((w.alloc (.cells #[.slice A1 g.terms.length c1, .slice A2 g.names.length c2, .slice A3 g.rules.length c3] 25 (0, 0))).alloc (.cells #[.slice none 0 0, .slice none 0 0, .slice none 0 0] 25 (0, 0))) := ⟨_, rfl⟩
  rw [← hW0] at HF0
  simp only [← hW0]
  clear hW0
  refine start_ (n := 11) (S := fun w' => Below w.heap.size w w' ∧ w'.heap[w.heap.size]? = some (.cells #[.slice A1 g.terms.length c1, .slice A2 g.names.length c2, .slice A3 g.rules.length c3] 25 (0, 0)) ∧ w'.heap[w.heap.size + 1]? = some (.cells #[.slice none 0 0, .slice none 0 0, .slice none 0 0] 25 (0, 0))) (ds := [10]) #[false, false, false, false, false, false, false, false, false, false, false] (by kernel_rfl) rfl rfl (⟨HF0.out.below, HF0.out.p, HF0.out.r⟩) (fun hHeld => ?_)
  refine pure_ (i := 1) (N := (some 6)) (v := ?_) (a' := ?_) #[false, true, false, false, false, false, false, false, false, false, false] rfl rfl (by kernel_rfl) (fun _ _ _ h => h) (Or.inl ⟨by rfl, ?_⟩) ?_ ?_
  rotate_left
  · (intro w'; go_simp; with_reducible rfl)
  rotate_left
  · (simp only [Act.put, List.setIfInBounds_toArray, List.set_cons_zero, List.set_cons_succ]; rfl)
  refine pure_ (i := 5) (N := (some 10)) (v := ?_) (a' := ?_) #[false, true, false, false, false, true, false, false, false, false, false] rfl rfl (by kernel_rfl) (fun _ _ _ h => h) (Or.inl ⟨by rfl, ?_⟩) ?_ ?_
  rotate_left
  · (intro w'; go_simp; with_reducible rfl)
  rotate_left
  · (simp only [Act.put, List.setIfInBounds_toArray, List.set_cons_zero, List.set_cons_succ]; rfl)
  refine take_ (i := 2) (N := (some 7)) (v := ?_) (a' := ?_) #[false, true, true, false, false, true, false, false, false, false, false] rfl rfl (by kernel_rfl) (fun _ _ _ h => h) (Or.inl ⟨by rfl, ?_⟩) hHeld ?_ ?_
  rotate_left
  · (rintro w' ⟨_, s0, _⟩; have d0 : w'.cell? ⟨w.heap.size, 0, none⟩ = some (.slice A1 g.terms.length c1) := (blk_cell s0 0).trans rfl; have d1 : w'.cell? ⟨w.heap.size, 1, none⟩ = some (.slice A2 g.names.length c2) := (blk_cell s0 1).trans rfl; go_simp; with_reducible rfl)
  rotate_left
  · (simp only [Act.put, List.setIfInBounds_toArray, List.set_cons_zero, List.set_cons_succ]; rfl)
  refine take_ (i := 6) (N := (some 11)) (v := ?_) (a' := ?_) #[false, true, true, false, false, true, true, false, false, false, false] rfl rfl (by kernel_rfl) (fun _ _ _ h => h) (Or.inl ⟨by rfl, ?_⟩) hHeld ?_ ?_
  rotate_left
  · (rintro w' ⟨_, s0, _⟩; have d0 : w'.cell? ⟨w.heap.size, 0, none⟩ = some (.slice A1 g.terms.length c1) := (blk_cell s0 0).trans rfl; have d1 : w'.cell? ⟨w.heap.size, 1, none⟩ = some (.slice A2 g.names.length c2) := (blk_cell s0 1).trans rfl; go_simp; with_reducible rfl)
  rotate_left
  · (simp only [Act.put, List.setIfInBounds_toArray, List.set_cons_zero, List.set_cons_succ]; rfl)
  refine join_ (σ := Value × Option Addr × Nat × Value × Option Addr × Nat × Nat) 1 #[true, true, true, true, true, true, true, true, true, true, false] (fun s => [(5, s.1), (8, (.slice s.2.1 g.terms.length s.2.2.1)), (9, s.2.2.2.1), (12, (.slice s.2.2.2.2.1 g.names.length s.2.2.2.2.2.1)), (13, .agg #[(.slice s.2.1 g.terms.length s.2.2.1), (.slice s.2.2.2.2.1 g.names.length s.2.2.2.2.2.1), .slice none 0 0]), (3, .pointer (some ⟨s.2.2.2.2.2.2, 0, none⟩))]) (fun s w' => OF w w' g A1 A2 A3 c1 c2 c3 (.slice s.2.1 g.terms.length s.2.2.1) g.terms (.slice s.2.2.2.2.1 g.names.length s.2.2.2.2.2.1) g.names (some s.2.2.2.2.2.2)) ?_ ?_
  · rintro ⟨v5, A8, c8, v9, A12, c12, b⟩ W' hF
    refine norm_ (a' := ?_) ?_ ?_
    rotate_left
    · (simp only [putAll, Act.put, List.setIfInBounds_toArray, List.set_cons_zero, List.set_cons_succ]; rfl)
    try dsimp only at hF
    have HF := Aside0.mk hF
    clear hF
    obtain ⟨hbl, hbh⟩ := HF.out.cell b rfl
    have c1' := blk_cell hbh 0
    have c2' := blk_cell hbh 1
    have c3' := blk_cell hbh 2
    have f1' := blk_frozen hbh 0
    have f2' := blk_frozen hbh 1
    have f3' := blk_frozen hbh 2
    simp only [List.getElem?_toArray, List.getElem?_cons_zero, List.getElem?_cons_succ] at c1' c2' c3'
    have HO0 := Aside0.mk (OwSt.start HF.out)
    clear hbh
    refine last_ (i := 10) (N := none) #[true, true, true, true, true, true, true, true, true, true, true] rfl rfl (by kernel_rfl) (by decide) (fun K hK => ?_)
    refine skip_ (w1 := ?_) (by rfl) rfl ?_ ?_
    rotate_left
    · (go_simp; rfl)
    refine hK.out _ _ ?_
    clear hK K
    refine done_ (by kernel_rfl) ?_
    clear HF HF0 c1' c2' c3' f1' f2' f3'
    go_wp2
    go_loopw [4] (fun i wr => ∃ (k : Nat) (A9 : Option Addr) (c9 : Nat), k ≤ g.rules.length ∧ i = .int .i64 k ∧ Aside0 (OwSt w wr b g A1 A2 A3 c1 c2 c3 (.slice A8 g.terms.length c8) (.slice A12 g.names.length c12) (.slice A9 k c9) k)) (fun i _ => g.rules.length - (intOf i).toNat)
    case atStart => exact ⟨0, none, 0, Nat.zero_le _, rfl, HO0⟩
    case round =>
      clear HO0
      obtain ⟨k, A9, c9, hk, rfl, HO⟩ := hrel
      have z3 := (blk_cell HO.out.p 2).trans rfl
      by_cases hlt : k < g.rules.length
      · have hm := C_max HG.out.rules
        obtain ⟨ad, R, cr, eA, hx1, hx2, hcr, hR⟩ := at_rule HG.out.rules k hlt
        subst eA
        obtain ⟨x, hx⟩ : ∃ x, x = g.rules[k]'hlt := ⟨_, rfl⟩
        have hxl : x.right.length ≤ 100000 := by rw [hx]; exact HSM.out.2.2.2 _ (List.getElem_mem hlt)
        rw [← hx] at hx1 hx2 hcr hR
        have HX := Aside0.mk hx
        have HXR := Aside0.mk hR
        have HS0 : Aside0 (OS w b g A1 A2 (some ad) c1 c2 c3 (.slice A8 g.terms.length c8) (.slice A12 g.names.length c12) (.slice A9 k c9) ad k x R cr wr.drew) := ⟨OS.mk' HO.out.drew_ hx1 hx2⟩
        have HX1 := Aside0.mk hx1
        have HX2 := Aside0.mk hx2
        have j1 : (0 : Int) ≤ (k : Int) := by omega
        have j2 : (k : Int) < (g.rules.length : Int) := by omega
        clear hx hR hx1 hx2
        go_wp2
        refine start_ (n := 21) (S := OS w b g A1 A2 (some ad) c1 c2 c3 (.slice A8 g.terms.length c8) (.slice A12 g.names.length c12) (.slice A9 k c9) ad k x R cr) (ds := [20]) #[false, false, false, false, false, false, false, false, false, false, false, false, false, false, false, false, false, false, false, false, false] (by kernel_rfl) rfl rfl (HS0.out) (fun hHeld => ?_)
        refine pure_ (i := 0) (N := (some 21)) (v := ?_) (a' := ?_) #[true, false, false, false, false, false, false, false, false, false, false, false, false, false, false, false, false, false, false, false, false] rfl rfl (by kernel_rfl) (fun _ _ _ h => h) (Or.inl ⟨by rfl, ?_⟩) ?_ ?_
        rotate_left
        · (intro w'; go_simp; with_reducible rfl)
        rotate_left
        · (simp only [Act.put, List.setIfInBounds_toArray, List.set_cons_zero, List.set_cons_succ]; rfl)
        refine pure_ (i := 2) (N := (some 23)) (v := ?_) (a' := ?_) #[true, false, true, false, false, false, false, false, false, false, false, false, false, false, false, false, false, false, false, false, false] rfl rfl (by kernel_rfl) (fun _ _ _ h => h) (Or.inl ⟨by rfl, ?_⟩) ?_ ?_
        rotate_left
        · (intro w'; go_simp; with_reducible rfl)
        rotate_left
        · (simp only [Act.put, List.setIfInBounds_toArray, List.set_cons_zero, List.set_cons_succ]; rfl)
        refine pure_ (i := 4) (N := (some 25)) (v := ?_) (a' := ?_) #[true, false, true, false, true, false, false, false, false, false, false, false, false, false, false, false, false, false, false, false, false] rfl rfl (by kernel_rfl) (fun _ _ _ h => h) (Or.inl ⟨by rfl, ?_⟩) ?_ ?_
        rotate_left
        · (intro w'; go_simp; with_reducible rfl)
        rotate_left
        · (simp only [Act.put, List.setIfInBounds_toArray, List.set_cons_zero, List.set_cons_succ]; rfl)
        refine pure_ (i := 9) (N := (some 30)) (v := ?_) (a' := ?_) #[true, false, true, false, true, false, false, false, false, true, false, false, false, false, false, false, false, false, false, false, false] rfl rfl (by kernel_rfl) (fun _ _ _ h => h) (Or.inl ⟨by rfl, ?_⟩) ?_ ?_
        rotate_left
        · (intro w'; go_simp; with_reducible rfl)
        rotate_left
        · (simp only [Act.put, List.setIfInBounds_toArray, List.set_cons_zero, List.set_cons_succ]; rfl)
        refine pure_ (i := 11) (N := (some 32)) (v := ?_) (a' := ?_) #[true, false, true, false, true, false, false, false, false, true, false, true, false, false, false, false, false, false, false, false, false] rfl rfl (by kernel_rfl) (fun _ _ _ h => h) (Or.inl ⟨by rfl, ?_⟩) ?_ ?_
        rotate_left
        · (intro w'; go_simp; with_reducible rfl)
        rotate_left
        · (simp only [Act.put, List.setIfInBounds_toArray, List.set_cons_zero, List.set_cons_succ]; rfl)
        refine take_ (i := 1) (N := (some 22)) (v := ?_) (a' := ?_) #[true, true, true, false, true, false, false, false, false, true, false, true, false, false, false, false, false, false, false, false, false] rfl rfl (by kernel_rfl) (fun _ _ _ h => h) (Or.inl ⟨by rfl, ?_⟩) hHeld ?_ ?_
        rotate_left
        · (rintro w' ⟨_, s0, s1, s2, s3⟩; have d0 : w'.cell? ⟨w.heap.size, 2, none⟩ = some (.slice (some ad) g.rules.length c3) := (blk_cell s0 2).trans rfl; have d1 : w'.cell? ⟨b, 2, none⟩ = some (.slice A9 k c9) := (blk_cell s1 2).trans rfl; go_simp; with_reducible rfl)
        rotate_left
        · (simp only [Act.put, List.setIfInBounds_toArray, List.set_cons_zero, List.set_cons_succ]; rfl)
        refine take_ (i := 3) (N := (some 24)) (v := ?_) (a' := ?_) #[true, true, true, true, true, false, false, false, false, true, false, true, false, false, false, false, false, false, false, false, false] rfl rfl (by kernel_rfl) (fun _ _ _ h => h) (Or.inl ⟨by rfl, ?_⟩) hHeld ?_ ?_
        rotate_left
        · (rintro w' ⟨_, s0, s1, s2, s3⟩; have d0 : w'.cell? ⟨w.heap.size, 2, none⟩ = some (.slice (some ad) g.rules.length c3) := (blk_cell s0 2).trans rfl; have d1 : w'.cell? ⟨b, 2, none⟩ = some (.slice A9 k c9) := (blk_cell s1 2).trans rfl; go_simp; with_reducible rfl)
        rotate_left
        · (simp only [Act.put, List.setIfInBounds_toArray, List.set_cons_zero, List.set_cons_succ]; rfl)
        refine pure_ (i := 5) (N := (some 26)) (v := ?_) (a' := ?_) #[true, true, true, true, true, true, false, false, false, true, false, true, false, false, false, false, false, false, false, false, false] rfl rfl (by kernel_rfl) (fun _ _ _ h => h) (Or.inl ⟨by rfl, ?_⟩) ?_ ?_
        rotate_left
        · (intro w'; go_simp; with_reducible rfl)
        rotate_left
        · (simp only [Act.put, List.setIfInBounds_toArray, List.set_cons_zero, List.set_cons_succ]; rfl)
        refine pure_ (i := 6) (N := (some 27)) (v := ?_) (a' := ?_) #[true, true, true, true, true, true, true, false, false, true, false, true, false, false, false, false, false, false, false, false, false] rfl rfl (by kernel_rfl) (fun _ _ _ h => h) (Or.inl ⟨by rfl, ?_⟩) ?_ ?_
        rotate_left
        · (intro w'; go_simp; with_reducible rfl)
        rotate_left
        · (simp only [Act.put, List.setIfInBounds_toArray, List.set_cons_zero, List.set_cons_succ]; rfl)
        refine take_ (i := 7) (N := (some 28)) (v := ?_) (a' := ?_) #[true, true, true, true, true, true, true, true, false, true, false, true, false, false, false, false, false, false, false, false, false] rfl rfl (by kernel_rfl) (fun _ _ _ h => h) (Or.inl ⟨by rfl, ?_⟩) hHeld ?_ ?_
        rotate_left
        · (rintro w' ⟨_, s0, s1, s2, s3⟩; have d0 : w'.cell? ⟨w.heap.size, 2, none⟩ = some (.slice (some ad) g.rules.length c3) := (blk_cell s0 2).trans rfl; have d1 : w'.cell? ⟨b, 2, none⟩ = some (.slice A9 k c9) := (blk_cell s1 2).trans rfl; go_simp; with_reducible rfl)
        rotate_left
        · (simp only [Act.put, List.setIfInBounds_toArray, List.set_cons_zero, List.set_cons_succ]; rfl)
        refine take_ (i := 10) (N := (some 31)) (v := ?_) (a' := ?_) #[true, true, true, true, true, true, true, true, false, true, true, true, false, false, false, false, false, false, false, false, false] rfl rfl (by kernel_rfl) (fun _ _ _ h => h) (Or.inl ⟨by rfl, ?_⟩) hHeld ?_ ?_
        rotate_left
        · (rintro w' ⟨_, s0, s1, s2, s3⟩; have d0 : w'.cell? ⟨w.heap.size, 2, none⟩ = some (.slice (some ad) g.rules.length c3) := (blk_cell s0 2).trans rfl; have d1 : w'.cell? ⟨b, 2, none⟩ = some (.slice A9 k c9) := (blk_cell s1 2).trans rfl; go_simp; with_reducible rfl)
        rotate_left
        · (simp only [Act.put, List.setIfInBounds_toArray, List.set_cons_zero, List.set_cons_succ]; rfl)
        refine pure_ (i := 12) (N := (some 33)) (v := ?_) (a' := ?_) #[true, true, true, true, true, true, true, true, false, true, true, true, true, false, false, false, false, false, false, false, false] rfl rfl (by kernel_rfl) (fun _ _ _ h => h) (Or.inl ⟨by rfl, ?_⟩) ?_ ?_
        rotate_left
        · (intro w'; go_simp; with_reducible rfl)
        rotate_left
        · (simp only [Act.put, List.setIfInBounds_toArray, List.set_cons_zero, List.set_cons_succ]; rfl)
        refine pure_ (i := 13) (N := (some 34)) (v := ?_) (a' := ?_) #[true, true, true, true, true, true, true, true, false, true, true, true, true, true, false, false, false, false, false, false, false] rfl rfl (by kernel_rfl) (fun _ _ _ h => h) (Or.inl ⟨by rfl, ?_⟩) ?_ ?_
        rotate_left
        · (intro w'; go_simp; with_reducible rfl)
        rotate_left
        · (simp only [Act.put, List.setIfInBounds_toArray, List.set_cons_zero, List.set_cons_succ]; rfl)
        refine take_ (i := 14) (N := (some 35)) (v := ?_) (a' := ?_) #[true, true, true, true, true, true, true, true, false, true, true, true, true, true, true, false, false, false, false, false, false] rfl rfl (by kernel_rfl) (fun _ _ _ h => h) (Or.inl ⟨by rfl, ?_⟩) hHeld ?_ ?_
        rotate_left
        · (rintro w' ⟨_, s0, s1, s2, s3⟩; have d0 : w'.cell? ⟨w.heap.size, 2, none⟩ = some (.slice (some ad) g.rules.length c3) := (blk_cell s0 2).trans rfl; have d1 : w'.cell? ⟨b, 2, none⟩ = some (.slice A9 k c9) := (blk_cell s1 2).trans rfl; go_simp; with_reducible rfl)
        rotate_left
        · (simp only [Act.put, List.setIfInBounds_toArray, List.set_cons_zero, List.set_cons_succ]; rfl)
        refine one_ (i := 8) (N := (some 29)) #[true, true, true, true, true, true, true, true, true, true, true, true, true, true, true, false, false, false, false, false, false] rfl rfl (by kernel_rfl) (by decide) (fun K hK => ?_)
        refine value_ (w1 := ?_) (v := ?_) (by rfl) rfl ?_ ?_
        rotate_left 2
        · (go_simp; constructor; rfl; rfl)
        refine hK.out _ _ (hHeld.alloc_ _) (fun hHeld => ?_)
        clear hK K
        refine norm_ (a' := ?_) ?_ ?_
        rotate_left
        · (show Act.put _ (some 29) _ = _; simp only [Act.put, List.setIfInBounds_toArray, List.set_cons_zero, List.set_cons_succ]; rfl)
        refine one_ (i := 15) (N := (some 36)) #[true, true, true, true, true, true, true, true, true, true, true, true, true, true, true, true, false, false, false, false, false] rfl rfl (by kernel_rfl) (by decide) (fun K hK => ?_)
        (refine app_ints_step (w0 := w) (base := w.heap.size) (A := R) (c := cr) (ok := fun q => some q ≠ (Value.slice A9 k c9).ownBlock) (by rfl) rfl (ints_new wr.drew w.heap.size HO.out.below.size _ (fresh_ne HO.out.drew_.R3 _ (Nat.le_refl _))) hHeld.below hHeld.below.size (by simp only [List.length_nil]; omega) (fun q hq => fresh_ne (HO.out.drew_.alloc_ _).R3 q hq) (by simp [Act.eval]) (by simp [Act.eval]) (Kd.C_below HXR.out hHeld.below) ?_; intro v1 W1 hr1 hb1 hg1 ha1; rw [List.nil_append] at hr1; obtain ⟨Av1, cv1, rfl⟩ := Kd.R_slice hr1; have HO1 := Aside0.mk (OwSt.other HO.out.drew_ (Nat.le_refl _) hb1 hg1); have HU1 := Aside0.mk hr1; have HS1 := Aside0.mk (OS.mk' HO1.out HX1.out HX2.out); clear hr1 hb1 hg1 ha1; refine hK.out _ _ HS1.out (fun hHeld => ?_))
        skip
        clear hK K
        refine norm_ (a' := ?_) ?_ ?_
        rotate_left
        · (show Act.put _ (some 36) _ = _; simp only [Act.put, List.setIfInBounds_toArray, List.set_cons_zero, List.set_cons_succ]; rfl)
        refine pure_ (i := 16) (N := (some 37)) (v := ?_) (a' := ?_) #[true, true, true, true, true, true, true, true, true, true, true, true, true, true, true, true, true, false, false, false, false] rfl rfl (by kernel_rfl) (fun _ _ _ h => h) (Or.inl ⟨by rfl, ?_⟩) ?_ ?_
        rotate_left
        · (intro w'; go_simp; with_reducible rfl)
        rotate_left
        · (simp only [Act.put, List.setIfInBounds_toArray, List.set_cons_zero, List.set_cons_succ]; rfl)
        refine one_ (i := 17) (N := (some 38)) #[true, true, true, true, true, true, true, true, true, true, true, true, true, true, true, true, true, true, false, false, false] rfl rfl (by kernel_rfl) (by decide) (fun K hK => ?_)
        refine value_ (w1 := ?_) (v := ?_) (by rfl) rfl ?_ ?_
        rotate_left 2
        · (go_simp; constructor; rfl; rfl)
        refine hK.out _ _ (hHeld.alloc_ _) (fun hHeld => ?_)
        clear hK K
        refine norm_ (a' := ?_) ?_ ?_
        rotate_left
        · (show Act.put _ (some 38) _ = _; simp only [Act.put, List.setIfInBounds_toArray, List.set_cons_zero, List.set_cons_succ]; rfl)
        refine one_ (i := 18) (N := (some 39)) #[true, true, true, true, true, true, true, true, true, true, true, true, true, true, true, true, true, true, true, false, false] rfl rfl (by kernel_rfl) (by decide) (fun K hK => ?_)
        (refine app_rule_step (w0 := w) (p := x) (by rfl) rfl HO1.out.R3 HU1.out HO1.out.below (by rw [List.length_take]; have := HSM.out; omega) (by simp [Act.eval]) (by simp [Act.eval]) ?_; intro v1 W1 A1'; obtain ⟨Av2, cv2, hv2⟩ := A1'.shape; rw [List.length_take, Nat.min_eq_left (Nat.le_of_lt hlt)] at hv2; subst hv2; have HO2 := Aside0.mk (OwSt.more HO1.out hlt HX.out A1'); have hh := blk_grown HO1.out.h A1'.grown (Kd.R_ne HO1.out.R3 HO1.out.h (by decide)); have d3 := blk_cell hh 2; have d4 := blk_frozen hh 2; simp only [List.getElem?_toArray, List.getElem?_cons_zero, List.getElem?_cons_succ] at d3; have HS2 := Aside0.mk (OS.mk (x := x) A1'.below (blk_grown HO1.out.p A1'.grown (Kd.R_ne HO1.out.R3 HO1.out.p (by decide))) hh ((cell_keep A1'.below HX1.out).trans HX1.out) ((cell_keep A1'.below HX2.out).trans HX2.out)); clear A1' hh; refine hK.out _ _ HS2.out (fun hHeld => ?_))
        skip
        clear hK K
        refine norm_ (a' := ?_) ?_ ?_
        rotate_left
        · (show Act.put _ (some 39) _ = _; simp only [Act.put, List.setIfInBounds_toArray, List.set_cons_zero, List.set_cons_succ]; rfl)
        refine pure_ (i := 19) (N := (some 40)) (v := ?_) (a' := ?_) #[true, true, true, true, true, true, true, true, true, true, true, true, true, true, true, true, true, true, true, true, false] rfl rfl (by kernel_rfl) (fun _ _ _ h => h) (Or.inl ⟨by rfl, ?_⟩) ?_ ?_
        rotate_left
        · (intro w'; go_simp; with_reducible rfl)
        rotate_left
        · (simp only [Act.put, List.setIfInBounds_toArray, List.set_cons_zero, List.set_cons_succ]; rfl)
        refine last_ (i := 20) (N := none) #[true, true, true, true, true, true, true, true, true, true, true, true, true, true, true, true, true, true, true, true, true] rfl rfl (by kernel_rfl) (by decide) (fun K hK => ?_)
        skip
        refine skip_ (w1 := ?_) (by rfl) rfl ?_ ?_
        rotate_left
        · (go_simp; rfl)
        refine hK.out _ _ ?_
        clear hK K
        refine done_ (by kernel_rfl) ?_
        go_wp2
        go_roundw
        case rel => exact ⟨k + 1, Av2, cv2, by omega, by go_num, HO2⟩
        case measure => simp [intOf]; omega
      · obtain rfl : k = g.rules.length := by omega
        have e0 := (blk_cell HO.out.h 0).trans rfl
        have e1 := (blk_cell HO.out.h 1).trans rfl
        have e2 := (blk_cell HO.out.h 2).trans rfl
        have r0 := (blk_cell HO.out.r 0).trans rfl
        have r1 := (blk_cell HO.out.r 1).trans rfl
        have r2 := (blk_cell HO.out.r 2).trans rfl
        have f0 := blk_frozen HO.out.r 0
        have f1 := blk_frozen HO.out.r 1
        have f2 := blk_frozen HO.out.r 2
        go_wp2
        have hfin := OwSt.final HO.out (.slice A8 g.terms.length c8) (.slice A12 g.names.length c12) (.slice A9 g.rules.length c9)
        exact bodyPost_ret (results_own rfl (blk_set (blk_set (blk_set HO.out.r 0 _) 1 _) 2 _)) rfl ⟨⟨_, _, _, _, _, _, rfl, hfin.1⟩, hfin.2⟩
  intro h221
  simp only [putAll, Act.put, List.setIfInBounds_toArray, List.set_cons_zero, List.set_cons_succ] at h221
  refine join_ (σ := Value × Option Addr × Nat × Value × Option Addr × Nat × Nat) 3 #[true, true, true, true, true, true, true, false, false, true, false] (fun s => [(5, s.1), (8, (.slice s.2.1 g.terms.length s.2.2.1)), (9, s.2.2.2.1), (3, .pointer (some ⟨s.2.2.2.2.2.2, 0, none⟩))]) (fun s w' => OF w w' g A1 A2 A3 c1 c2 c3 (.slice s.2.1 g.terms.length s.2.2.1) g.terms s.2.2.2.1 [] (some s.2.2.2.2.2.2)) ?_ ?_
  · rintro ⟨v5, A8, c8, v9, A12, c12, b⟩ W' hF
    refine norm_ (a' := ?_) ?_ ?_
    rotate_left
    · (simp only [putAll, Act.put, List.setIfInBounds_toArray, List.set_cons_zero, List.set_cons_succ]; rfl)
    try dsimp only at hF
    have HF := Aside0.mk hF
    clear hF
    refine one_ (i := 7) (N := (some 12)) #[true, true, true, true, true, true, true, true, false, true, false] rfl rfl (by kernel_rfl) (by decide) (fun K hK => ?_)
    refine app_strs_step (A := A2) (c := c2) (w0 := w) (base := w.heap.size) (by rfl) rfl HF.out.swap.rv HF.out.below HF.out.below.size (by simp only [List.length_nil]; have := HSM.out; omega) (OF.fresh HF.out.swap) (by simp [Act.eval]) (by simp [Act.eval]) (Kd.C_below HG.out.names HF.out.below) ?_; intro v1 W1 hr1 hb1 hg1 ha1; rw [List.nil_append] at hr1; obtain ⟨Av1, cv1, rfl⟩ := Kd.R_slice hr1; have HN := Aside0.mk (HF.out.swap.appV hr1 hb1 hg1 ha1); clear hr1 hb1 hg1 ha1; refine hK.out _ _ ⟨HN.out.below, HN.out.p, HN.out.r⟩ (fun _ => ?_)
    clear hK K
    refine norm_ (a' := ?_) ?_ ?_
    rotate_left
    · (show Act.put _ (some 12) _ = _; simp only [Act.put, List.setIfInBounds_toArray, List.set_cons_zero, List.set_cons_succ]; rfl)
    refine pure_ (i := 8) (N := (some 13)) (v := ?_) (a' := ?_) #[true, true, true, true, true, true, true, true, true, true, false] rfl rfl (by kernel_rfl) (fun _ _ _ h => h) (Or.inl ⟨by rfl, ?_⟩) ?_ ?_
    rotate_left
    · (intro w'; go_simp; with_reducible rfl)
    rotate_left
    · (simp only [Act.put, List.setIfInBounds_toArray, List.set_cons_zero, List.set_cons_succ]; rfl)
    exact h221 (v5, A8, c8, v9, Av1, cv1, b) _ HN.out.swap
  intro h211
  simp only [putAll, Act.put, List.setIfInBounds_toArray, List.set_cons_zero, List.set_cons_succ] at h211
  refine join_ (σ := Value × Option Addr × Nat × Value × Option Addr × Nat × Nat) 2 #[true, true, true, true, true, true, true, true, true, false, false] (fun s => [(5, s.1), (8, (.slice s.2.1 g.terms.length s.2.2.1)), (9, s.2.2.2.1), (12, (.slice s.2.2.2.2.1 g.names.length s.2.2.2.2.2.1)), (13, .agg #[(.slice s.2.1 g.terms.length s.2.2.1), (.slice s.2.2.2.2.1 g.names.length s.2.2.2.2.2.1), .slice none 0 0])]) (fun s w' => OF w w' g A1 A2 A3 c1 c2 c3 (.slice s.2.1 g.terms.length s.2.2.1) g.terms (.slice s.2.2.2.2.1 g.names.length s.2.2.2.2.2.1) g.names none) ?_ ?_
  · rintro ⟨v5, A8, c8, v9, A12, c12, b⟩ W' hF
    refine norm_ (a' := ?_) ?_ ?_
    rotate_left
    · (simp only [putAll, Act.put, List.setIfInBounds_toArray, List.set_cons_zero, List.set_cons_succ]; rfl)
    try dsimp only at hF
    have HF := Aside0.mk hF
    clear hF
    refine one_ (i := 9) (N := (some 3)) #[true, true, true, true, true, true, true, true, true, true, false] rfl rfl (by kernel_rfl) (by decide) (fun K hK => ?_)
    have HN := Aside0.mk HF.out.mkB; refine value_ (w1 := ?_) (v := ?_) (by rfl) rfl ?_ ?_; rotate_left 2; (go_simp; constructor; rfl; rfl); refine hK.out _ _ ⟨HN.out.below, HN.out.p, HN.out.r⟩ (fun _ => ?_)
    clear hK K
    refine norm_ (a' := ?_) ?_ ?_
    rotate_left
    · (show Act.put _ (some 3) _ = _; simp only [Act.put, List.setIfInBounds_toArray, List.set_cons_zero, List.set_cons_succ]; rfl)
    exact h221 (v5, A8, c8, v9, A12, c12, _) _ HN.out
  intro h220
  simp only [putAll, Act.put, List.setIfInBounds_toArray, List.set_cons_zero, List.set_cons_succ] at h220
  refine join_ (σ := Value × Option Addr × Nat × Value × Option Addr × Nat × Nat) 4 #[true, true, true, false, true, true, true, false, false, true, false] (fun s => [(5, s.1), (9, s.2.2.2.1), (3, .pointer (some ⟨s.2.2.2.2.2.2, 0, none⟩))]) (fun s w' => OF w w' g A1 A2 A3 c1 c2 c3 s.1 [] s.2.2.2.1 [] (some s.2.2.2.2.2.2)) ?_ ?_
  · rintro ⟨v5, A8, c8, v9, A12, c12, b⟩ W' hF
    refine norm_ (a' := ?_) ?_ ?_
    rotate_left
    · (simp only [putAll, Act.put, List.setIfInBounds_toArray, List.set_cons_zero, List.set_cons_succ]; rfl)
    try dsimp only at hF
    have HF := Aside0.mk hF
    clear hF
    refine one_ (i := 3) (N := (some 8)) #[true, true, true, true, true, true, true, false, false, true, false] rfl rfl (by kernel_rfl) (by decide) (fun K hK => ?_)
    refine app_strs_step (A := A1) (c := c1) (w0 := w) (base := w.heap.size) (by rfl) rfl HF.out.rv HF.out.below HF.out.below.size (by simp only [List.length_nil]; have := HSM.out; omega) (OF.fresh HF.out) (by simp [Act.eval]) (by simp [Act.eval]) (Kd.C_below HG.out.terms HF.out.below) ?_; intro v1 W1 hr1 hb1 hg1 ha1; rw [List.nil_append] at hr1; obtain ⟨Av1, cv1, rfl⟩ := Kd.R_slice hr1; have HN := Aside0.mk (HF.out.appV hr1 hb1 hg1 ha1); clear hr1 hb1 hg1 ha1; refine hK.out _ _ ⟨HN.out.below, HN.out.p, HN.out.r⟩ (fun _ => ?_)
    clear hK K
    refine norm_ (a' := ?_) ?_ ?_
    rotate_left
    · (show Act.put _ (some 8) _ = _; simp only [Act.put, List.setIfInBounds_toArray, List.set_cons_zero, List.set_cons_succ]; rfl)
    exact h211 (v5, Av1, cv1, v9, none, 0, b) _ HN.out
  intro h111
  simp only [putAll, Act.put, List.setIfInBounds_toArray, List.set_cons_zero, List.set_cons_succ] at h111
  refine join_ (σ := Value × Option Addr × Nat × Value × Option Addr × Nat × Nat) 4 #[true, true, true, true, false, true, true, false, false, true, false] (fun s => [(5, s.1), (8, (.slice s.2.1 g.terms.length s.2.2.1)), (3, .pointer (some ⟨s.2.2.2.2.2.2, 0, none⟩))]) (fun s w' => OF w w' g A1 A2 A3 c1 c2 c3 (.slice s.2.1 g.terms.length s.2.2.1) g.terms (.slice none 0 0) [] (some s.2.2.2.2.2.2)) ?_ ?_
  · rintro ⟨v5, A8, c8, v9, A12, c12, b⟩ W' hF
    refine norm_ (a' := ?_) ?_ ?_
    rotate_left
    · (simp only [putAll, Act.put, List.setIfInBounds_toArray, List.set_cons_zero, List.set_cons_succ]; rfl)
    try dsimp only at hF
    have HF := Aside0.mk hF
    clear hF
    refine one_ (i := 4) (N := (some 9)) #[true, true, true, true, true, true, true, false, false, true, false] rfl rfl (by kernel_rfl) (by decide) (fun K hK => ?_)
    refine mk_str_step (w0 := w) (base := w.heap.size) (ok := fun k => some k ≠ (some b) ∧ some k ≠ ((.slice A8 g.terms.length c8) : Value).ownBlock) (by rfl) rfl rfl HF.out.below HF.out.below.size (OF.fresh HF.out.swap _ (Nat.le_refl _)) ?_; intro v1 W1 hr1 hb1 hg1 ha1; have HN := Aside0.mk (HF.out.swap.mkV hr1 hb1 hg1 ha1); clear hr1 hb1 hg1 ha1; refine hK.out _ _ ⟨HN.out.below, HN.out.p, HN.out.r⟩ (fun _ => ?_)
    clear hK K
    refine norm_ (a' := ?_) ?_ ?_
    rotate_left
    · (show Act.put _ (some 9) _ = _; simp only [Act.put, List.setIfInBounds_toArray, List.set_cons_zero, List.set_cons_succ]; rfl)
    exact h211 (v5, A8, c8, v1, none, 0, b) _ HN.out.swap
  intro h201
  simp only [putAll, Act.put, List.setIfInBounds_toArray, List.set_cons_zero, List.set_cons_succ] at h201
  refine join_ (σ := Value × Option Addr × Nat × Value × Option Addr × Nat × Nat) 4 #[true, true, true, true, true, true, true, false, false, false, false] (fun s => [(5, s.1), (8, (.slice s.2.1 g.terms.length s.2.2.1)), (9, s.2.2.2.1)]) (fun s w' => OF w w' g A1 A2 A3 c1 c2 c3 (.slice s.2.1 g.terms.length s.2.2.1) g.terms s.2.2.2.1 [] none) ?_ ?_
  · rintro ⟨v5, A8, c8, v9, A12, c12, b⟩ W' hF
    refine norm_ (a' := ?_) ?_ ?_
    rotate_left
    · (simp only [putAll, Act.put, List.setIfInBounds_toArray, List.set_cons_zero, List.set_cons_succ]; rfl)
    try dsimp only at hF
    have HF := Aside0.mk hF
    clear hF
    refine two_ (i := 7) (j := 9) (Ni := (some 12)) (Nj := (some 3)) #[true, true, true, true, true, true, true, true, false, false, false] #[true, true, true, true, true, true, true, false, false, true, false] rfl rfl rfl rfl (by kernel_rfl) (by decide) (by decide) (fun K hK => ?_) (fun K hK => ?_)
    · refine app_strs_step (A := A2) (c := c2) (w0 := w) (base := w.heap.size) (by rfl) rfl HF.out.swap.rv HF.out.below HF.out.below.size (by simp only [List.length_nil]; have := HSM.out; omega) (OF.fresh HF.out.swap) (by simp [Act.eval]) (by simp [Act.eval]) (Kd.C_below HG.out.names HF.out.below) ?_; intro v1 W1 hr1 hb1 hg1 ha1; rw [List.nil_append] at hr1; obtain ⟨Av1, cv1, rfl⟩ := Kd.R_slice hr1; have HN := Aside0.mk (HF.out.swap.appV hr1 hb1 hg1 ha1); clear hr1 hb1 hg1 ha1; refine hK.out _ _ ⟨HN.out.below, HN.out.p, HN.out.r⟩ (fun _ => ?_)
      clear hK K
      refine norm_ (a' := ?_) ?_ ?_
      rotate_left
      · (show Act.put _ (some 12) _ = _; simp only [Act.put, List.setIfInBounds_toArray, List.set_cons_zero, List.set_cons_succ]; rfl)
      refine pure_ (i := 8) (N := (some 13)) (v := ?_) (a' := ?_) #[true, true, true, true, true, true, true, true, true, false, false] rfl rfl (by kernel_rfl) (fun _ _ _ h => h) (Or.inl ⟨by rfl, ?_⟩) ?_ ?_
      rotate_left
      · (intro w'; go_simp; with_reducible rfl)
      rotate_left
      · (simp only [Act.put, List.setIfInBounds_toArray, List.set_cons_zero, List.set_cons_succ]; rfl)
      exact h220 (v5, A8, c8, v9, Av1, cv1, 0) _ HN.out.swap
    · have HN := Aside0.mk HF.out.mkB; refine value_ (w1 := ?_) (v := ?_) (by rfl) rfl ?_ ?_; rotate_left 2; (go_simp; constructor; rfl; rfl); refine hK.out _ _ ⟨HN.out.below, HN.out.p, HN.out.r⟩ (fun _ => ?_)
      clear hK K
      refine norm_ (a' := ?_) ?_ ?_
      rotate_left
      · (show Act.put _ (some 3) _ = _; simp only [Act.put, List.setIfInBounds_toArray, List.set_cons_zero, List.set_cons_succ]; rfl)
      exact h211 (v5, A8, c8, v9, none, 0, _) _ HN.out
  intro h210
  simp only [putAll, Act.put, List.setIfInBounds_toArray, List.set_cons_zero, List.set_cons_succ] at h210
  refine join_ (σ := Value × Option Addr × Nat × Value × Option Addr × Nat × Nat) 5 #[false, true, true, false, true, true, true, false, false, true, false] (fun s => [(9, s.2.2.2.1), (3, .pointer (some ⟨s.2.2.2.2.2.2, 0, none⟩))]) (fun s w' => OF w w' g A1 A2 A3 c1 c2 c3 (.slice none 0 0) [] s.2.2.2.1 [] (some s.2.2.2.2.2.2)) ?_ ?_
  · rintro ⟨v5, A8, c8, v9, A12, c12, b⟩ W' hF
    refine norm_ (a' := ?_) ?_ ?_
    rotate_left
    · (simp only [putAll, Act.put, List.setIfInBounds_toArray, List.set_cons_zero, List.set_cons_succ]; rfl)
    try dsimp only at hF
    have HF := Aside0.mk hF
    clear hF
    refine one_ (i := 0) (N := (some 5)) #[true, true, true, false, true, true, true, false, false, true, false] rfl rfl (by kernel_rfl) (by decide) (fun K hK => ?_)
    refine mk_str_step (w0 := w) (base := w.heap.size) (ok := fun k => some k ≠ (some b) ∧ some k ≠ (v9 : Value).ownBlock) (by rfl) rfl rfl HF.out.below HF.out.below.size (OF.fresh HF.out _ (Nat.le_refl _)) ?_; intro v1 W1 hr1 hb1 hg1 ha1; have HN := Aside0.mk (HF.out.mkV hr1 hb1 hg1 ha1); clear hr1 hb1 hg1 ha1; refine hK.out _ _ ⟨HN.out.below, HN.out.p, HN.out.r⟩ (fun _ => ?_)
    clear hK K
    refine norm_ (a' := ?_) ?_ ?_
    rotate_left
    · (show Act.put _ (some 5) _ = _; simp only [Act.put, List.setIfInBounds_toArray, List.set_cons_zero, List.set_cons_succ]; rfl)
    exact h111 (v1, none, 0, v9, none, 0, b) _ HN.out
  intro h011
  simp only [putAll, Act.put, List.setIfInBounds_toArray, List.set_cons_zero, List.set_cons_succ] at h011
  refine join_ (σ := Value × Option Addr × Nat × Value × Option Addr × Nat × Nat) 5 #[true, true, true, false, false, true, true, false, false, true, false] (fun s => [(5, s.1), (3, .pointer (some ⟨s.2.2.2.2.2.2, 0, none⟩))]) (fun s w' => OF w w' g A1 A2 A3 c1 c2 c3 s.1 [] (.slice none 0 0) [] (some s.2.2.2.2.2.2)) ?_ ?_
  · rintro ⟨v5, A8, c8, v9, A12, c12, b⟩ W' hF
    refine norm_ (a' := ?_) ?_ ?_
    rotate_left
    · (simp only [putAll, Act.put, List.setIfInBounds_toArray, List.set_cons_zero, List.set_cons_succ]; rfl)
    try dsimp only at hF
    have HF := Aside0.mk hF
    clear hF
    refine two_ (i := 3) (j := 4) (Ni := (some 8)) (Nj := (some 9)) #[true, true, true, true, false, true, true, false, false, true, false] #[true, true, true, false, true, true, true, false, false, true, false] rfl rfl rfl rfl (by kernel_rfl) (by decide) (by decide) (fun K hK => ?_) (fun K hK => ?_)
    · refine app_strs_step (A := A1) (c := c1) (w0 := w) (base := w.heap.size) (by rfl) rfl HF.out.rv HF.out.below HF.out.below.size (by simp only [List.length_nil]; have := HSM.out; omega) (OF.fresh HF.out) (by simp [Act.eval]) (by simp [Act.eval]) (Kd.C_below HG.out.terms HF.out.below) ?_; intro v1 W1 hr1 hb1 hg1 ha1; rw [List.nil_append] at hr1; obtain ⟨Av1, cv1, rfl⟩ := Kd.R_slice hr1; have HN := Aside0.mk (HF.out.appV hr1 hb1 hg1 ha1); clear hr1 hb1 hg1 ha1; refine hK.out _ _ ⟨HN.out.below, HN.out.p, HN.out.r⟩ (fun _ => ?_)
      clear hK K
      refine norm_ (a' := ?_) ?_ ?_
      rotate_left
      · (show Act.put _ (some 8) _ = _; simp only [Act.put, List.setIfInBounds_toArray, List.set_cons_zero, List.set_cons_succ]; rfl)
      exact h201 (v5, Av1, cv1, undef, none, 0, b) _ HN.out
    · refine mk_str_step (w0 := w) (base := w.heap.size) (ok := fun k => some k ≠ (some b) ∧ some k ≠ (v5 : Value).ownBlock) (by rfl) rfl rfl HF.out.below HF.out.below.size (OF.fresh HF.out.swap _ (Nat.le_refl _)) ?_; intro v1 W1 hr1 hb1 hg1 ha1; have HN := Aside0.mk (HF.out.swap.mkV hr1 hb1 hg1 ha1); clear hr1 hb1 hg1 ha1; refine hK.out _ _ ⟨HN.out.below, HN.out.p, HN.out.r⟩ (fun _ => ?_)
      clear hK K
      refine norm_ (a' := ?_) ?_ ?_
      rotate_left
      · (show Act.put _ (some 9) _ = _; simp only [Act.put, List.setIfInBounds_toArray, List.set_cons_zero, List.set_cons_succ]; rfl)
      exact h111 (v5, none, 0, v1, none, 0, b) _ HN.out.swap
  intro h101
  simp only [putAll, Act.put, List.setIfInBounds_toArray, List.set_cons_zero, List.set_cons_succ] at h101
  refine join_ (σ := Value × Option Addr × Nat × Value × Option Addr × Nat × Nat) 5 #[true, true, true, false, true, true, true, false, false, false, false] (fun s => [(5, s.1), (9, s.2.2.2.1)]) (fun s w' => OF w w' g A1 A2 A3 c1 c2 c3 s.1 [] s.2.2.2.1 [] none) ?_ ?_
  · rintro ⟨v5, A8, c8, v9, A12, c12, b⟩ W' hF
    refine norm_ (a' := ?_) ?_ ?_
    rotate_left
    · (simp only [putAll, Act.put, List.setIfInBounds_toArray, List.set_cons_zero, List.set_cons_succ]; rfl)
    try dsimp only at hF
    have HF := Aside0.mk hF
    clear hF
    refine two_ (i := 3) (j := 9) (Ni := (some 8)) (Nj := (some 3)) #[true, true, true, true, true, true, true, false, false, false, false] #[true, true, true, false, true, true, true, false, false, true, false] rfl rfl rfl rfl (by kernel_rfl) (by decide) (by decide) (fun K hK => ?_) (fun K hK => ?_)
    · refine app_strs_step (A := A1) (c := c1) (w0 := w) (base := w.heap.size) (by rfl) rfl HF.out.rv HF.out.below HF.out.below.size (by simp only [List.length_nil]; have := HSM.out; omega) (OF.fresh HF.out) (by simp [Act.eval]) (by simp [Act.eval]) (Kd.C_below HG.out.terms HF.out.below) ?_; intro v1 W1 hr1 hb1 hg1 ha1; rw [List.nil_append] at hr1; obtain ⟨Av1, cv1, rfl⟩ := Kd.R_slice hr1; have HN := Aside0.mk (HF.out.appV hr1 hb1 hg1 ha1); clear hr1 hb1 hg1 ha1; refine hK.out _ _ ⟨HN.out.below, HN.out.p, HN.out.r⟩ (fun _ => ?_)
      clear hK K
      refine norm_ (a' := ?_) ?_ ?_
      rotate_left
      · (show Act.put _ (some 8) _ = _; simp only [Act.put, List.setIfInBounds_toArray, List.set_cons_zero, List.set_cons_succ]; rfl)
      exact h210 (v5, Av1, cv1, v9, none, 0, 0) _ HN.out
    · have HN := Aside0.mk HF.out.mkB; refine value_ (w1 := ?_) (v := ?_) (by rfl) rfl ?_ ?_; rotate_left 2; (go_simp; constructor; rfl; rfl); refine hK.out _ _ ⟨HN.out.below, HN.out.p, HN.out.r⟩ (fun _ => ?_)
      clear hK K
      refine norm_ (a' := ?_) ?_ ?_
      rotate_left
      · (show Act.put _ (some 3) _ = _; simp only [Act.put, List.setIfInBounds_toArray, List.set_cons_zero, List.set_cons_succ]; rfl)
      exact h111 (v5, none, 0, v9, none, 0, _) _ HN.out
  intro h110
  simp only [putAll, Act.put, List.setIfInBounds_toArray, List.set_cons_zero, List.set_cons_succ] at h110
  refine join_ (σ := Value × Option Addr × Nat × Value × Option Addr × Nat × Nat) 5 #[true, true, true, true, false, true, true, false, false, false, false] (fun s => [(5, s.1), (8, (.slice s.2.1 g.terms.length s.2.2.1))]) (fun s w' => OF w w' g A1 A2 A3 c1 c2 c3 (.slice s.2.1 g.terms.length s.2.2.1) g.terms (.slice none 0 0) [] none) ?_ ?_
  · rintro ⟨v5, A8, c8, v9, A12, c12, b⟩ W' hF
    refine norm_ (a' := ?_) ?_ ?_
    rotate_left
    · (simp only [putAll, Act.put, List.setIfInBounds_toArray, List.set_cons_zero, List.set_cons_succ]; rfl)
    try dsimp only at hF
    have HF := Aside0.mk hF
    clear hF
    refine two_ (i := 4) (j := 9) (Ni := (some 9)) (Nj := (some 3)) #[true, true, true, true, true, true, true, false, false, false, false] #[true, true, true, true, false, true, true, false, false, true, false] rfl rfl rfl rfl (by kernel_rfl) (by decide) (by decide) (fun K hK => ?_) (fun K hK => ?_)
    · refine mk_str_step (w0 := w) (base := w.heap.size) (ok := fun k => some k ≠ (none : Option Nat) ∧ some k ≠ ((.slice A8 g.terms.length c8) : Value).ownBlock) (by rfl) rfl rfl HF.out.below HF.out.below.size (OF.fresh HF.out.swap _ (Nat.le_refl _)) ?_; intro v1 W1 hr1 hb1 hg1 ha1; have HN := Aside0.mk (HF.out.swap.mkV hr1 hb1 hg1 ha1); clear hr1 hb1 hg1 ha1; refine hK.out _ _ ⟨HN.out.below, HN.out.p, HN.out.r⟩ (fun _ => ?_)
      clear hK K
      refine norm_ (a' := ?_) ?_ ?_
      rotate_left
      · (show Act.put _ (some 9) _ = _; simp only [Act.put, List.setIfInBounds_toArray, List.set_cons_zero, List.set_cons_succ]; rfl)
      exact h210 (v5, A8, c8, v1, none, 0, 0) _ HN.out.swap
    · have HN := Aside0.mk HF.out.mkB; refine value_ (w1 := ?_) (v := ?_) (by rfl) rfl ?_ ?_; rotate_left 2; (go_simp; constructor; rfl; rfl); refine hK.out _ _ ⟨HN.out.below, HN.out.p, HN.out.r⟩ (fun _ => ?_)
      clear hK K
      refine norm_ (a' := ?_) ?_ ?_
      rotate_left
      · (show Act.put _ (some 3) _ = _; simp only [Act.put, List.setIfInBounds_toArray, List.set_cons_zero, List.set_cons_succ]; rfl)
      exact h201 (v5, A8, c8, undef, none, 0, _) _ HN.out
  intro h200
  simp only [putAll, Act.put, List.setIfInBounds_toArray, List.set_cons_zero, List.set_cons_succ] at h200
  refine join_ (σ := Value × Option Addr × Nat × Value × Option Addr × Nat × Nat) 6 #[false, true, true, false, false, true, true, false, false, true, false] (fun s => [(3, .pointer (some ⟨s.2.2.2.2.2.2, 0, none⟩))]) (fun s w' => OF w w' g A1 A2 A3 c1 c2 c3 (.slice none 0 0) [] (.slice none 0 0) [] (some s.2.2.2.2.2.2)) ?_ ?_
  · rintro ⟨v5, A8, c8, v9, A12, c12, b⟩ W' hF
    refine norm_ (a' := ?_) ?_ ?_
    rotate_left
    · (simp only [putAll, Act.put, List.setIfInBounds_toArray, List.set_cons_zero, List.set_cons_succ]; rfl)
    try dsimp only at hF
    have HF := Aside0.mk hF
    clear hF
    refine two_ (i := 0) (j := 4) (Ni := (some 5)) (Nj := (some 9)) #[true, true, true, false, false, true, true, false, false, true, false] #[false, true, true, false, true, true, true, false, false, true, false] rfl rfl rfl rfl (by kernel_rfl) (by decide) (by decide) (fun K hK => ?_) (fun K hK => ?_)
    · refine mk_str_step (w0 := w) (base := w.heap.size) (ok := fun k => some k ≠ (some b) ∧ some k ≠ ((.slice none 0 0) : Value).ownBlock) (by rfl) rfl rfl HF.out.below HF.out.below.size (OF.fresh HF.out _ (Nat.le_refl _)) ?_; intro v1 W1 hr1 hb1 hg1 ha1; have HN := Aside0.mk (HF.out.mkV hr1 hb1 hg1 ha1); clear hr1 hb1 hg1 ha1; refine hK.out _ _ ⟨HN.out.below, HN.out.p, HN.out.r⟩ (fun _ => ?_)
      clear hK K
      refine norm_ (a' := ?_) ?_ ?_
      rotate_left
      · (show Act.put _ (some 5) _ = _; simp only [Act.put, List.setIfInBounds_toArray, List.set_cons_zero, List.set_cons_succ]; rfl)
      exact h101 (v1, none, 0, undef, none, 0, b) _ HN.out
    · refine mk_str_step (w0 := w) (base := w.heap.size) (ok := fun k => some k ≠ (some b) ∧ some k ≠ ((.slice none 0 0) : Value).ownBlock) (by rfl) rfl rfl HF.out.below HF.out.below.size (OF.fresh HF.out.swap _ (Nat.le_refl _)) ?_; intro v1 W1 hr1 hb1 hg1 ha1; have HN := Aside0.mk (HF.out.swap.mkV hr1 hb1 hg1 ha1); clear hr1 hb1 hg1 ha1; refine hK.out _ _ ⟨HN.out.below, HN.out.p, HN.out.r⟩ (fun _ => ?_)
      clear hK K
      refine norm_ (a' := ?_) ?_ ?_
      rotate_left
      · (show Act.put _ (some 9) _ = _; simp only [Act.put, List.setIfInBounds_toArray, List.set_cons_zero, List.set_cons_succ]; rfl)
      exact h011 (undef, none, 0, v1, none, 0, b) _ HN.out.swap
  intro h001
  simp only [putAll, Act.put, List.setIfInBounds_toArray, List.set_cons_zero, List.set_cons_succ] at h001
  refine join_ (σ := Value × Option Addr × Nat × Value × Option Addr × Nat × Nat) 6 #[false, true, true, false, true, true, true, false, false, false, false] (fun s => [(9, s.2.2.2.1)]) (fun s w' => OF w w' g A1 A2 A3 c1 c2 c3 (.slice none 0 0) [] s.2.2.2.1 [] none) ?_ ?_
  · rintro ⟨v5, A8, c8, v9, A12, c12, b⟩ W' hF
    refine norm_ (a' := ?_) ?_ ?_
    rotate_left
    · (simp only [putAll, Act.put, List.setIfInBounds_toArray, List.set_cons_zero, List.set_cons_succ]; rfl)
    try dsimp only at hF
    have HF := Aside0.mk hF
    clear hF
    refine two_ (i := 0) (j := 9) (Ni := (some 5)) (Nj := (some 3)) #[true, true, true, false, true, true, true, false, false, false, false] #[false, true, true, false, true, true, true, false, false, true, false] rfl rfl rfl rfl (by kernel_rfl) (by decide) (by decide) (fun K hK => ?_) (fun K hK => ?_)
    · refine mk_str_step (w0 := w) (base := w.heap.size) (ok := fun k => some k ≠ (none : Option Nat) ∧ some k ≠ (v9 : Value).ownBlock) (by rfl) rfl rfl HF.out.below HF.out.below.size (OF.fresh HF.out _ (Nat.le_refl _)) ?_; intro v1 W1 hr1 hb1 hg1 ha1; have HN := Aside0.mk (HF.out.mkV hr1 hb1 hg1 ha1); clear hr1 hb1 hg1 ha1; refine hK.out _ _ ⟨HN.out.below, HN.out.p, HN.out.r⟩ (fun _ => ?_)
      clear hK K
      refine norm_ (a' := ?_) ?_ ?_
      rotate_left
      · (show Act.put _ (some 5) _ = _; simp only [Act.put, List.setIfInBounds_toArray, List.set_cons_zero, List.set_cons_succ]; rfl)
      exact h110 (v1, none, 0, v9, none, 0, 0) _ HN.out
    · have HN := Aside0.mk HF.out.mkB; refine value_ (w1 := ?_) (v := ?_) (by rfl) rfl ?_ ?_; rotate_left 2; (go_simp; constructor; rfl; rfl); refine hK.out _ _ ⟨HN.out.below, HN.out.p, HN.out.r⟩ (fun _ => ?_)
      clear hK K
      refine norm_ (a' := ?_) ?_ ?_
      rotate_left
      · (show Act.put _ (some 3) _ = _; simp only [Act.put, List.setIfInBounds_toArray, List.set_cons_zero, List.set_cons_succ]; rfl)
      exact h011 (undef, none, 0, v9, none, 0, _) _ HN.out
  intro h010
  simp only [putAll, Act.put, List.setIfInBounds_toArray, List.set_cons_zero, List.set_cons_succ] at h010
  refine join_ (σ := Value × Option Addr × Nat × Value × Option Addr × Nat × Nat) 6 #[true, true, true, false, false, true, true, false, false, false, false] (fun s => [(5, s.1)]) (fun s w' => OF w w' g A1 A2 A3 c1 c2 c3 s.1 [] (.slice none 0 0) [] none) ?_ ?_
  · rintro ⟨v5, A8, c8, v9, A12, c12, b⟩ W' hF
    refine norm_ (a' := ?_) ?_ ?_
    rotate_left
    · (simp only [putAll, Act.put, List.setIfInBounds_toArray, List.set_cons_zero, List.set_cons_succ]; rfl)
    try dsimp only at hF
    have HF := Aside0.mk hF
    clear hF
    refine three_ (i := 3) (j := 4) (k := 9) (Ni := (some 8)) (Nj := (some 9)) (Nk := (some 3)) #[true, true, true, true, false, true, true, false, false, false, false] #[true, true, true, false, true, true, true, false, false, false, false] #[true, true, true, false, false, true, true, false, false, true, false] rfl rfl rfl rfl rfl rfl (by kernel_rfl) (by decide) (by decide) (by decide) (fun K hK => ?_) (fun K hK => ?_) (fun K hK => ?_)
    · refine app_strs_step (A := A1) (c := c1) (w0 := w) (base := w.heap.size) (by rfl) rfl HF.out.rv HF.out.below HF.out.below.size (by simp only [List.length_nil]; have := HSM.out; omega) (OF.fresh HF.out) (by simp [Act.eval]) (by simp [Act.eval]) (Kd.C_below HG.out.terms HF.out.below) ?_; intro v1 W1 hr1 hb1 hg1 ha1; rw [List.nil_append] at hr1; obtain ⟨Av1, cv1, rfl⟩ := Kd.R_slice hr1; have HN := Aside0.mk (HF.out.appV hr1 hb1 hg1 ha1); clear hr1 hb1 hg1 ha1; refine hK.out _ _ ⟨HN.out.below, HN.out.p, HN.out.r⟩ (fun _ => ?_)
      clear hK K
      refine norm_ (a' := ?_) ?_ ?_
      rotate_left
      · (show Act.put _ (some 8) _ = _; simp only [Act.put, List.setIfInBounds_toArray, List.set_cons_zero, List.set_cons_succ]; rfl)
      exact h200 (v5, Av1, cv1, undef, none, 0, 0) _ HN.out
    · refine mk_str_step (w0 := w) (base := w.heap.size) (ok := fun k => some k ≠ (none : Option Nat) ∧ some k ≠ (v5 : Value).ownBlock) (by rfl) rfl rfl HF.out.below HF.out.below.size (OF.fresh HF.out.swap _ (Nat.le_refl _)) ?_; intro v1 W1 hr1 hb1 hg1 ha1; have HN := Aside0.mk (HF.out.swap.mkV hr1 hb1 hg1 ha1); clear hr1 hb1 hg1 ha1; refine hK.out _ _ ⟨HN.out.below, HN.out.p, HN.out.r⟩ (fun _ => ?_)
      clear hK K
      refine norm_ (a' := ?_) ?_ ?_
      rotate_left
      · (show Act.put _ (some 9) _ = _; simp only [Act.put, List.setIfInBounds_toArray, List.set_cons_zero, List.set_cons_succ]; rfl)
      exact h110 (v5, none, 0, v1, none, 0, 0) _ HN.out.swap
    · have HN := Aside0.mk HF.out.mkB; refine value_ (w1 := ?_) (v := ?_) (by rfl) rfl ?_ ?_; rotate_left 2; (go_simp; constructor; rfl; rfl); refine hK.out _ _ ⟨HN.out.below, HN.out.p, HN.out.r⟩ (fun _ => ?_)
      clear hK K
      refine norm_ (a' := ?_) ?_ ?_
      rotate_left
      · (show Act.put _ (some 3) _ = _; simp only [Act.put, List.setIfInBounds_toArray, List.set_cons_zero, List.set_cons_succ]; rfl)
      exact h101 (v5, none, 0, undef, none, 0, _) _ HN.out
  intro h100
  simp only [putAll, Act.put, List.setIfInBounds_toArray, List.set_cons_zero, List.set_cons_succ] at h100
  refine three_ (i := 0) (j := 4) (k := 9) (Ni := (some 5)) (Nj := (some 9)) (Nk := (some 3)) #[true, true, true, false, false, true, true, false, false, false, false] #[false, true, true, false, true, true, true, false, false, false, false] #[false, true, true, false, false, true, true, false, false, true, false] rfl rfl rfl rfl rfl rfl (by kernel_rfl) (by decide) (by decide) (by decide) (fun K hK => ?_) (fun K hK => ?_) (fun K hK => ?_)
  · refine mk_str_step (w0 := w) (base := w.heap.size) (ok := fun k => some k ≠ (none : Option Nat) ∧ some k ≠ ((.slice none 0 0) : Value).ownBlock) (by rfl) rfl rfl HF0.out.below HF0.out.below.size (OF.fresh HF0.out _ (Nat.le_refl _)) ?_; intro v1 W1 hr1 hb1 hg1 ha1; have HN := Aside0.mk (HF0.out.mkV hr1 hb1 hg1 ha1); clear hr1 hb1 hg1 ha1; refine hK.out _ _ ⟨HN.out.below, HN.out.p, HN.out.r⟩ (fun _ => ?_)
    clear hK K
    refine norm_ (a' := ?_) ?_ ?_
    rotate_left
    · (show Act.put _ (some 5) _ = _; simp only [Act.put, List.setIfInBounds_toArray, List.set_cons_zero, List.set_cons_succ]; rfl)
    exact h100 (v1, none, 0, undef, none, 0, 0) _ HN.out
  · refine mk_str_step (w0 := w) (base := w.heap.size) (ok := fun k => some k ≠ (none : Option Nat) ∧ some k ≠ ((.slice none 0 0) : Value).ownBlock) (by rfl) rfl rfl HF0.out.below HF0.out.below.size (OF.fresh HF0.out.swap _ (Nat.le_refl _)) ?_; intro v1 W1 hr1 hb1 hg1 ha1; have HN := Aside0.mk (HF0.out.swap.mkV hr1 hb1 hg1 ha1); clear hr1 hb1 hg1 ha1; refine hK.out _ _ ⟨HN.out.below, HN.out.p, HN.out.r⟩ (fun _ => ?_)
    clear hK K
    refine norm_ (a' := ?_) ?_ ?_
    rotate_left
    · (show Act.put _ (some 9) _ = _; simp only [Act.put, List.setIfInBounds_toArray, List.set_cons_zero, List.set_cons_succ]; rfl)
    exact h010 (undef, none, 0, v1, none, 0, 0) _ HN.out.swap
  · have HN := Aside0.mk HF0.out.mkB; refine value_ (w1 := ?_) (v := ?_) (by rfl) rfl ?_ ?_; rotate_left 2; (go_simp; constructor; rfl; rfl); refine hK.out _ _ ⟨HN.out.below, HN.out.p, HN.out.r⟩ (fun _ => ?_)
    clear hK K
    refine norm_ (a' := ?_) ?_ ?_
    rotate_left
    · (show Act.put _ (some 3) _ = _; simp only [Act.put, List.setIfInBounds_toArray, List.set_cons_zero, List.set_cons_succ]; rfl)
    exact h001 (undef, none, 0, undef, none, 0, _) _ HN.out
end Go.Proofs.Ytphmmppmhphgeaa

/- Appends within a region in its order. -/
set_option linter.unusedVariables false
set_option linter.unusedSimpArgs false
namespace Go.Proofs.Ytphmmppmhphgeaa
open Go.RowKit Go.Proofs.YtphmmppmhphgeaaW.PrintWords Go.Proofs.YtphmmppmhphgeaaW.PrintLast
section
variable {ops : Array Oper} {rest : List Oper} {oi : Oper} {a : Act} {Q : Exit → Act → World → Prop} {w0 W : World} {N : Option Tmp} {s x : Operand} {A : Option Addr} {c : Nat}
/-- A copy of whole numbers: onto a new row of none. -/
theorem pl_copy_ints {ys : List Int} (hw : Region.wanted oi (yielded ops a.tmps) = true) (hN : oi.dst = N) (ho : oi.op = .call { callee := .builtin .append, args := #[s, x], argTypes := #[54, 54] })
    (hb : Below w0.heap.size w0 W) (hx0 : W.heap[w0.heap.size]? = some (.cells #[] 3 (0, 0))) (hsz : W.heap.size = w0.heap.size + 1) (hl : ys.length ≤ 1000000000000) (hs : a.eval s = .slice (some ⟨w0.heap.size, 0, none⟩) 0 0) (hx : a.eval x = .slice A ys.length c) (HC : kInt.C w0 A ys.length ys) (hW : W = w0.alloc (.cells #[] 3))
    (h : ∀ A' c' w1, ys.length ≤ c' → kInt.C w1 A' ys.length ys → Below w0.heap.size w0 w1 → wpList Try.prog ops Q rest (a.put N (.slice A' ys.length c')) w1) : wpList Try.prog ops Q (oi :: rest) a W := by
  subst hN hW
  refine wpList_step fun K hK => app_ints_step (base := w0.heap.size) (w0 := w0) (ok := fun _ => True) (xs := []) hw ho (ints_new w0 w0.heap.size (Nat.le_refl _) _ trivial) hb (by simp) (by simpa using hl) (fun _ _ => trivial) hs hx (Kd.C_below HC hb) (fun v1 w1 hr hb1 hg hat => ?_)
  rw [List.nil_append] at hr
  obtain ⟨A', c', e, hc, hC⟩ := Kd.R_reads hr
  subst e
  exact hK _ _ (h A' c' w1 hc hC hb1)
end
end Go.Proofs.Ytphmmppmhphgeaa

/- The contract of keep.LargeGrammar. -/
set_option linter.unusedVariables false
set_option linter.unusedSimpArgs false
namespace Go.Proofs.Ytphmmppmhphgeaa
open Go.RowKit Go.Proofs.YtphmmppmhphgeaaW.PrintWords

structure GSmall (g : Gram) : Prop where
  terms : g.terms.length ≤ 4000
  names : g.names.length ≤ 4000
  rules : g.rules.length ≤ 200
  rights : ∀ r ∈ g.rules, r.right.length ≤ 4000

def LargeEnd (g : Gram) (e : Ending) : Prop := ∃ b, e = .returned (.bool b) ∧ (b = false → GSmall g)
set_option maxRecDepth 100000 in
set_option maxHeartbeats 2000000 in
theorem large_c (g : Gram) (A1 A2 A3 : Option Addr) (c1 c2 c3 : Nat) (w : World) (hg : RepG w g A1 A2 A3 c1 c2 c3) :
    Calls Try.prog 15 #[.agg #[.slice A1 g.terms.length c1, .slice A2 g.names.length c2, .slice A3 g.rules.length c3]] w fun e w' => LargeEnd g e ∧ Below w.heap.size w w' := by
  have hm1 := C_max hg.terms
  have hm2 := C_max hg.names
  have hm3 := C_max hg.rules
  have HG := Aside0.mk hg
  have HP := Aside0.mk (blk_new w (.cells #[.slice A1 g.terms.length c1, .slice A2 g.names.length c2, .slice A3 g.rules.length c3] 25 (0, 0)))
  have HB := Aside0.mk ((Below.refl w.heap.size w).alloc (Nat.le_refl _) (.cells #[.slice A1 g.terms.length c1, .slice A2 g.names.length c2, .slice A3 g.rules.length c3] 25 (0, 0)))
  clear hg
  go_enter Try.func15, Try.ntmps15
  go_wp2
  go_loopw [4, 3] (fun i nv wr => ∃ (k : Nat) (n : Int), k ≤ g.terms.length ∧ i = .int .i64 k ∧ nv = .int .i64 n ∧ (k : Int) ≤ n ∧ n ≤ 8001 ∧ Aside0 (wr.heap[w.heap.size]? = some (.cells #[.slice A1 g.terms.length c1, .slice A2 g.names.length c2, .slice A3 g.rules.length c3] 25 (0, 0))) ∧ Aside0 (Below w.heap.size w wr)) (fun i _ _ => g.terms.length - (intOf i).toNat)
  case atStart => exact ⟨0, 0, Nat.zero_le _, rfl, rfl, by omega, by omega, HP, HB⟩
  case round =>
    clear HP HB
    obtain ⟨k, n, hk, rfl, rfl, hkn, hn, HP, HB⟩ := hrel
    have a1 := blk_cell HP.out 0
    have a2 := blk_cell HP.out 1
    have a3 := blk_cell HP.out 2
    simp only [List.getElem?_toArray, List.getElem?_cons_zero, List.getElem?_cons_succ] at a1 a2 a3
    by_cases hlt : k < g.terms.length
    · by_cases h4 : n ≤ 4000
      · have i1 : (0 : Int) ≤ (k : Int) := by omega
        have i2 : (k : Int) < (g.terms.length : Int) := by omega
        obtain ⟨ad, ead, hx⟩ := at_str (Kd.C_below HG.out.terms HB.out) k hlt
        cases ead
        go_wp2
        go_roundw
        case rel =>
          refine ⟨k + 1, _, by omega, by go_num, rfl, ?_, ?_, HP, HB⟩
          · split <;> omega
          · split <;> omega
        case measure => simp [intOf]; omega
      · go_wp2
        have HE : Aside0 (4000 < n ∨ (g.terms.length : Int) ≤ n) := ⟨by omega⟩
        obtain ⟨wo, hwo⟩ : ∃ wo : World, wo = wr := ⟨_, rfl⟩
        subst hwo
        obtain ⟨n0, hn0⟩ : ∃ n0 : Int, n0 = n := ⟨_, rfl⟩
        have hz0 : 0 ≤ n0 := by omega
        have hz1 : n0 ≤ 8001 := by omega
        rw [← hn0] at HE
        rw [← hn0]
        clear hkn hn hn0 hlt hk a1 a2 a3 h4
        go_loopw [5, 3] (fun i nv wr => ∃ (k : Nat) (n : Int), k ≤ g.names.length ∧ i = .int .i64 k ∧ nv = .int .i64 n ∧ (k : Int) ≤ n ∧ n ≤ 8001 ∧ Aside0 (4000 < n ∨ (g.terms.length : Int) ≤ n) ∧ Aside0 (wr.heap[w.heap.size]? = some (.cells #[.slice A1 g.terms.length c1, .slice A2 g.names.length c2, .slice A3 g.rules.length c3] 25 (0, 0))) ∧ Aside0 (Below w.heap.size w wr)) (fun i _ _ => g.names.length - (intOf i).toNat)
        case atStart => exact ⟨0, n0, Nat.zero_le _, rfl, rfl, by omega, by omega, HE, HP, HB⟩
        case round =>
          clear HP HB
          obtain ⟨k, n, hk, rfl, rfl, hkn, hn, HE, HP, HB⟩ := hrel
          have a1 := blk_cell HP.out 0
          have a2 := blk_cell HP.out 1
          have a3 := blk_cell HP.out 2
          simp only [List.getElem?_toArray, List.getElem?_cons_zero, List.getElem?_cons_succ] at a1 a2 a3
          by_cases hlt : k < g.names.length
          · by_cases h4 : n ≤ 4000
            · have i1 : (0 : Int) ≤ (k : Int) := by omega
              have i2 : (k : Int) < (g.names.length : Int) := by omega
              obtain ⟨ad, ead, hx⟩ := at_str (Kd.C_below HG.out.names HB.out) k hlt
              cases ead
              go_wp2
              go_roundw
              case rel =>
                refine ⟨k + 1, _, by omega, by go_num, rfl, ?_, ?_, ⟨?_⟩, HP, HB⟩
                · split <;> omega
                · split <;> omega
                · have := HE.out; split <;> omega
              case measure => simp [intOf]; omega
            · go_wp2
              have HE2 : Aside0 (4000 < n ∨ ((g.terms.length : Int) ≤ n ∧ (g.names.length : Int) ≤ n)) := ⟨by have := HE.out; omega⟩
              obtain ⟨wo, hwo⟩ : ∃ wo : World, wo = wr := ⟨_, rfl⟩
              subst hwo
              obtain ⟨n0, hn0⟩ : ∃ n0 : Int, n0 = n := ⟨_, rfl⟩
              have hz0 : 0 ≤ n0 := by omega
              have hz1 : n0 ≤ 8001 := by omega
              have hE3 := HE2.out
              rw [← hn0] at hE3
              rw [← hn0]
              clear hkn hn hn0 hlt hk a1 a2 a3 h4 HE HE2
              go_loopw [6, 3] (fun i nv wr => ∃ (k : Nat) (n : Int), k ≤ g.rules.length ∧ i = .int .i64 k ∧ nv = .int .i64 n ∧ (k : Int) ≤ n ∧ n ≤ 8001 ∧ Aside0 ((4000 < n ∨ ((g.terms.length : Int) ≤ n ∧ (g.names.length : Int) ≤ n)) ∧ ∀ j (hj : j < g.rules.length), j < k → (g.rules[j]'hj).right.length ≤ 4000 ∨ 4000 < n) ∧ Aside0 (wr.heap[w.heap.size]? = some (.cells #[.slice A1 g.terms.length c1, .slice A2 g.names.length c2, .slice A3 g.rules.length c3] 25 (0, 0))) ∧ Aside0 (Below w.heap.size w wr)) (fun i _ _ => g.rules.length - (intOf i).toNat)
              case atStart => exact ⟨0, n0, Nat.zero_le _, rfl, rfl, by omega, by omega, ⟨by omega, fun j hj h => by omega⟩, HP, HB⟩
              case round =>
                clear HP HB
                obtain ⟨k, n, hk, rfl, rfl, hkn, hn, HE, HP, HB⟩ := hrel
                have a1 := blk_cell HP.out 0
                have a2 := blk_cell HP.out 1
                have a3 := blk_cell HP.out 2
                simp only [List.getElem?_toArray, List.getElem?_cons_zero, List.getElem?_cons_succ] at a1 a2 a3
                by_cases hlt : k < g.rules.length
                · by_cases h4 : n ≤ 4000
                  · have i1 : (0 : Int) ≤ (k : Int) := by omega
                    have i2 : (k : Int) < (g.rules.length : Int) := by omega
                    obtain ⟨ad, B1, d1, ead, _, hx, hd1, _⟩ := at_rule (Kd.C_below HG.out.rules HB.out) k hlt
                    cases ead
                    go_wp2
                    go_roundw
                    case rel =>
                      refine ⟨k + 1, _, by omega, by go_num, rfl, ?_, ?_, ⟨?_, fun j hj hjk => ?_⟩, HP, HB⟩
                      · split <;> omega
                      · split <;> omega
                      · have := HE.out.1; split <;> omega
                      · rcases Nat.lt_or_ge j k with h | h
                        · have := HE.out.2 j hj h; split <;> omega
                        · obtain rfl : j = k := by omega
                          split <;> omega
                    case measure => simp [intOf]; omega
                  · go_wp2
                    go_ret
                    exact ⟨⟨true, ret_bool (by first | rfl | (simp; omega)), fun h => by cases h⟩, HB.out⟩
                · by_cases h4 : n ≤ 4000
                  · by_cases h200 : g.rules.length ≤ 200
                    · go_wp2
                      go_ret
                      refine ⟨⟨false, ret_bool (by first | rfl | (simp; omega)), fun _ => ⟨?_, ?_, h200, fun r hr => ?_⟩⟩, HB.out⟩
                      · have := HE.out.1; omega
                      · have := HE.out.1; omega
                      · obtain ⟨j, hj, rfl⟩ := List.getElem_of_mem hr
                        have := HE.out.2 j hj (by omega)
                        omega
                    · go_wp2
                      go_ret
                      exact ⟨⟨true, ret_bool (by first | rfl | (simp; omega)), fun h => by cases h⟩, HB.out⟩
                  · go_wp2
                    go_ret
                    exact ⟨⟨true, ret_bool (by first | rfl | (simp; omega)), fun h => by cases h⟩, HB.out⟩
          · go_wp2
            have HE2 : Aside0 (4000 < n ∨ ((g.terms.length : Int) ≤ n ∧ (g.names.length : Int) ≤ n)) := ⟨by have := HE.out; omega⟩
            obtain ⟨wo, hwo⟩ : ∃ wo : World, wo = wr := ⟨_, rfl⟩
            subst hwo
            obtain ⟨n0, hn0⟩ : ∃ n0 : Int, n0 = n := ⟨_, rfl⟩
            have hz0 : 0 ≤ n0 := by omega
            have hz1 : n0 ≤ 8001 := by omega
            have hE3 := HE2.out
            rw [← hn0] at hE3
            rw [← hn0]
            clear hkn hn hn0 hlt hk a1 a2 a3 HE HE2
            go_loopw [6, 3] (fun i nv wr => ∃ (k : Nat) (n : Int), k ≤ g.rules.length ∧ i = .int .i64 k ∧ nv = .int .i64 n ∧ (k : Int) ≤ n ∧ n ≤ 8001 ∧ Aside0 ((4000 < n ∨ ((g.terms.length : Int) ≤ n ∧ (g.names.length : Int) ≤ n)) ∧ ∀ j (hj : j < g.rules.length), j < k → (g.rules[j]'hj).right.length ≤ 4000 ∨ 4000 < n) ∧ Aside0 (wr.heap[w.heap.size]? = some (.cells #[.slice A1 g.terms.length c1, .slice A2 g.names.length c2, .slice A3 g.rules.length c3] 25 (0, 0))) ∧ Aside0 (Below w.heap.size w wr)) (fun i _ _ => g.rules.length - (intOf i).toNat)
            case atStart => exact ⟨0, n0, Nat.zero_le _, rfl, rfl, by omega, by omega, ⟨by omega, fun j hj h => by omega⟩, HP, HB⟩
            case round =>
              clear HP HB
              obtain ⟨k, n, hk, rfl, rfl, hkn, hn, HE, HP, HB⟩ := hrel
              have a1 := blk_cell HP.out 0
              have a2 := blk_cell HP.out 1
              have a3 := blk_cell HP.out 2
              simp only [List.getElem?_toArray, List.getElem?_cons_zero, List.getElem?_cons_succ] at a1 a2 a3
              by_cases hlt : k < g.rules.length
              · by_cases h4 : n ≤ 4000
                · have i1 : (0 : Int) ≤ (k : Int) := by omega
                  have i2 : (k : Int) < (g.rules.length : Int) := by omega
                  obtain ⟨ad, B1, d1, ead, _, hx, hd1, _⟩ := at_rule (Kd.C_below HG.out.rules HB.out) k hlt
                  cases ead
                  go_wp2
                  go_roundw
                  case rel =>
                    refine ⟨k + 1, _, by omega, by go_num, rfl, ?_, ?_, ⟨?_, fun j hj hjk => ?_⟩, HP, HB⟩
                    · split <;> omega
                    · split <;> omega
                    · have := HE.out.1; split <;> omega
                    · rcases Nat.lt_or_ge j k with h | h
                      · have := HE.out.2 j hj h; split <;> omega
                      · obtain rfl : j = k := by omega
                        split <;> omega
                  case measure => simp [intOf]; omega
                · go_wp2
                  go_ret
                  exact ⟨⟨true, ret_bool (by first | rfl | (simp; omega)), fun h => by cases h⟩, HB.out⟩
              · by_cases h4 : n ≤ 4000
                · by_cases h200 : g.rules.length ≤ 200
                  · go_wp2
                    go_ret
                    refine ⟨⟨false, ret_bool (by first | rfl | (simp; omega)), fun _ => ⟨?_, ?_, h200, fun r hr => ?_⟩⟩, HB.out⟩
                    · have := HE.out.1; omega
                    · have := HE.out.1; omega
                    · obtain ⟨j, hj, rfl⟩ := List.getElem_of_mem hr
                      have := HE.out.2 j hj (by omega)
                      omega
                  · go_wp2
                    go_ret
                    exact ⟨⟨true, ret_bool (by first | rfl | (simp; omega)), fun h => by cases h⟩, HB.out⟩
                · go_wp2
                  go_ret
                  exact ⟨⟨true, ret_bool (by first | rfl | (simp; omega)), fun h => by cases h⟩, HB.out⟩
    · go_wp2
      have HE : Aside0 (4000 < n ∨ (g.terms.length : Int) ≤ n) := ⟨by omega⟩
      obtain ⟨wo, hwo⟩ : ∃ wo : World, wo = wr := ⟨_, rfl⟩
      subst hwo
      obtain ⟨n0, hn0⟩ : ∃ n0 : Int, n0 = n := ⟨_, rfl⟩
      have hz0 : 0 ≤ n0 := by omega
      have hz1 : n0 ≤ 8001 := by omega
      rw [← hn0] at HE
      rw [← hn0]
      clear hkn hn hn0 hlt hk a1 a2 a3
      go_loopw [5, 3] (fun i nv wr => ∃ (k : Nat) (n : Int), k ≤ g.names.length ∧ i = .int .i64 k ∧ nv = .int .i64 n ∧ (k : Int) ≤ n ∧ n ≤ 8001 ∧ Aside0 (4000 < n ∨ (g.terms.length : Int) ≤ n) ∧ Aside0 (wr.heap[w.heap.size]? = some (.cells #[.slice A1 g.terms.length c1, .slice A2 g.names.length c2, .slice A3 g.rules.length c3] 25 (0, 0))) ∧ Aside0 (Below w.heap.size w wr)) (fun i _ _ => g.names.length - (intOf i).toNat)
      case atStart => exact ⟨0, n0, Nat.zero_le _, rfl, rfl, by omega, by omega, HE, HP, HB⟩
      case round =>
        clear HP HB
        obtain ⟨k, n, hk, rfl, rfl, hkn, hn, HE, HP, HB⟩ := hrel
        have a1 := blk_cell HP.out 0
        have a2 := blk_cell HP.out 1
        have a3 := blk_cell HP.out 2
        simp only [List.getElem?_toArray, List.getElem?_cons_zero, List.getElem?_cons_succ] at a1 a2 a3
        by_cases hlt : k < g.names.length
        · by_cases h4 : n ≤ 4000
          · have i1 : (0 : Int) ≤ (k : Int) := by omega
            have i2 : (k : Int) < (g.names.length : Int) := by omega
            obtain ⟨ad, ead, hx⟩ := at_str (Kd.C_below HG.out.names HB.out) k hlt
            cases ead
            go_wp2
            go_roundw
            case rel =>
              refine ⟨k + 1, _, by omega, by go_num, rfl, ?_, ?_, ⟨?_⟩, HP, HB⟩
              · split <;> omega
              · split <;> omega
              · have := HE.out; split <;> omega
            case measure => simp [intOf]; omega
          · go_wp2
            have HE2 : Aside0 (4000 < n ∨ ((g.terms.length : Int) ≤ n ∧ (g.names.length : Int) ≤ n)) := ⟨by have := HE.out; omega⟩
            obtain ⟨wo, hwo⟩ : ∃ wo : World, wo = wr := ⟨_, rfl⟩
            subst hwo
            obtain ⟨n0, hn0⟩ : ∃ n0 : Int, n0 = n := ⟨_, rfl⟩
            have hz0 : 0 ≤ n0 := by omega
            have hz1 : n0 ≤ 8001 := by omega
            have hE3 := HE2.out
            rw [← hn0] at hE3
            rw [← hn0]
            clear hkn hn hn0 hlt hk a1 a2 a3 h4 HE HE2
            go_loopw [6, 3] (fun i nv wr => ∃ (k : Nat) (n : Int), k ≤ g.rules.length ∧ i = .int .i64 k ∧ nv = .int .i64 n ∧ (k : Int) ≤ n ∧ n ≤ 8001 ∧ Aside0 ((4000 < n ∨ ((g.terms.length : Int) ≤ n ∧ (g.names.length : Int) ≤ n)) ∧ ∀ j (hj : j < g.rules.length), j < k → (g.rules[j]'hj).right.length ≤ 4000 ∨ 4000 < n) ∧ Aside0 (wr.heap[w.heap.size]? = some (.cells #[.slice A1 g.terms.length c1, .slice A2 g.names.length c2, .slice A3 g.rules.length c3] 25 (0, 0))) ∧ Aside0 (Below w.heap.size w wr)) (fun i _ _ => g.rules.length - (intOf i).toNat)
            case atStart => exact ⟨0, n0, Nat.zero_le _, rfl, rfl, by omega, by omega, ⟨by omega, fun j hj h => by omega⟩, HP, HB⟩
            case round =>
              clear HP HB
              obtain ⟨k, n, hk, rfl, rfl, hkn, hn, HE, HP, HB⟩ := hrel
              have a1 := blk_cell HP.out 0
              have a2 := blk_cell HP.out 1
              have a3 := blk_cell HP.out 2
              simp only [List.getElem?_toArray, List.getElem?_cons_zero, List.getElem?_cons_succ] at a1 a2 a3
              by_cases hlt : k < g.rules.length
              · by_cases h4 : n ≤ 4000
                · have i1 : (0 : Int) ≤ (k : Int) := by omega
                  have i2 : (k : Int) < (g.rules.length : Int) := by omega
                  obtain ⟨ad, B1, d1, ead, _, hx, hd1, _⟩ := at_rule (Kd.C_below HG.out.rules HB.out) k hlt
                  cases ead
                  go_wp2
                  go_roundw
                  case rel =>
                    refine ⟨k + 1, _, by omega, by go_num, rfl, ?_, ?_, ⟨?_, fun j hj hjk => ?_⟩, HP, HB⟩
                    · split <;> omega
                    · split <;> omega
                    · have := HE.out.1; split <;> omega
                    · rcases Nat.lt_or_ge j k with h | h
                      · have := HE.out.2 j hj h; split <;> omega
                      · obtain rfl : j = k := by omega
                        split <;> omega
                  case measure => simp [intOf]; omega
                · go_wp2
                  go_ret
                  exact ⟨⟨true, ret_bool (by first | rfl | (simp; omega)), fun h => by cases h⟩, HB.out⟩
              · by_cases h4 : n ≤ 4000
                · by_cases h200 : g.rules.length ≤ 200
                  · go_wp2
                    go_ret
                    refine ⟨⟨false, ret_bool (by first | rfl | (simp; omega)), fun _ => ⟨?_, ?_, h200, fun r hr => ?_⟩⟩, HB.out⟩
                    · have := HE.out.1; omega
                    · have := HE.out.1; omega
                    · obtain ⟨j, hj, rfl⟩ := List.getElem_of_mem hr
                      have := HE.out.2 j hj (by omega)
                      omega
                  · go_wp2
                    go_ret
                    exact ⟨⟨true, ret_bool (by first | rfl | (simp; omega)), fun h => by cases h⟩, HB.out⟩
                · go_wp2
                  go_ret
                  exact ⟨⟨true, ret_bool (by first | rfl | (simp; omega)), fun h => by cases h⟩, HB.out⟩
        · go_wp2
          have HE2 : Aside0 (4000 < n ∨ ((g.terms.length : Int) ≤ n ∧ (g.names.length : Int) ≤ n)) := ⟨by have := HE.out; omega⟩
          obtain ⟨wo, hwo⟩ : ∃ wo : World, wo = wr := ⟨_, rfl⟩
          subst hwo
          obtain ⟨n0, hn0⟩ : ∃ n0 : Int, n0 = n := ⟨_, rfl⟩
          have hz0 : 0 ≤ n0 := by omega
          have hz1 : n0 ≤ 8001 := by omega
          have hE3 := HE2.out
          rw [← hn0] at hE3
          rw [← hn0]
          clear hkn hn hn0 hlt hk a1 a2 a3 HE HE2
          go_loopw [6, 3] (fun i nv wr => ∃ (k : Nat) (n : Int), k ≤ g.rules.length ∧ i = .int .i64 k ∧ nv = .int .i64 n ∧ (k : Int) ≤ n ∧ n ≤ 8001 ∧ Aside0 ((4000 < n ∨ ((g.terms.length : Int) ≤ n ∧ (g.names.length : Int) ≤ n)) ∧ ∀ j (hj : j < g.rules.length), j < k → (g.rules[j]'hj).right.length ≤ 4000 ∨ 4000 < n) ∧ Aside0 (wr.heap[w.heap.size]? = some (.cells #[.slice A1 g.terms.length c1, .slice A2 g.names.length c2, .slice A3 g.rules.length c3] 25 (0, 0))) ∧ Aside0 (Below w.heap.size w wr)) (fun i _ _ => g.rules.length - (intOf i).toNat)
          case atStart => exact ⟨0, n0, Nat.zero_le _, rfl, rfl, by omega, by omega, ⟨by omega, fun j hj h => by omega⟩, HP, HB⟩
          case round =>
            clear HP HB
            obtain ⟨k, n, hk, rfl, rfl, hkn, hn, HE, HP, HB⟩ := hrel
            have a1 := blk_cell HP.out 0
            have a2 := blk_cell HP.out 1
            have a3 := blk_cell HP.out 2
            simp only [List.getElem?_toArray, List.getElem?_cons_zero, List.getElem?_cons_succ] at a1 a2 a3
            by_cases hlt : k < g.rules.length
            · by_cases h4 : n ≤ 4000
              · have i1 : (0 : Int) ≤ (k : Int) := by omega
                have i2 : (k : Int) < (g.rules.length : Int) := by omega
                obtain ⟨ad, B1, d1, ead, _, hx, hd1, _⟩ := at_rule (Kd.C_below HG.out.rules HB.out) k hlt
                cases ead
                go_wp2
                go_roundw
                case rel =>
                  refine ⟨k + 1, _, by omega, by go_num, rfl, ?_, ?_, ⟨?_, fun j hj hjk => ?_⟩, HP, HB⟩
                  · split <;> omega
                  · split <;> omega
                  · have := HE.out.1; split <;> omega
                  · rcases Nat.lt_or_ge j k with h | h
                    · have := HE.out.2 j hj h; split <;> omega
                    · obtain rfl : j = k := by omega
                      split <;> omega
                case measure => simp [intOf]; omega
              · go_wp2
                go_ret
                exact ⟨⟨true, ret_bool (by first | rfl | (simp; omega)), fun h => by cases h⟩, HB.out⟩
            · by_cases h4 : n ≤ 4000
              · by_cases h200 : g.rules.length ≤ 200
                · go_wp2
                  go_ret
                  refine ⟨⟨false, ret_bool (by first | rfl | (simp; omega)), fun _ => ⟨?_, ?_, h200, fun r hr => ?_⟩⟩, HB.out⟩
                  · have := HE.out.1; omega
                  · have := HE.out.1; omega
                  · obtain ⟨j, hj, rfl⟩ := List.getElem_of_mem hr
                    have := HE.out.2 j hj (by omega)
                    omega
                · go_wp2
                  go_ret
                  exact ⟨⟨true, ret_bool (by first | rfl | (simp; omega)), fun h => by cases h⟩, HB.out⟩
              · go_wp2
                go_ret
                exact ⟨⟨true, ret_bool (by first | rfl | (simp; omega)), fun h => by cases h⟩, HB.out⟩
end Go.Proofs.Ytphmmppmhphgeaa

/- Words for GrammarSpoilt: a grammar of one's own with a rule of another one more. -/
set_option linter.unusedVariables false
set_option linter.unusedSimpArgs false
namespace Go.Proofs.Ytphmmppmhphgeaa
open Go.RowKit Go.Proofs.YtphmmppmhphgeaaW.PrintWords Go.Proofs.YtphmmppmhphgeaaW.PrintLast

/-- Rules whose right sides may have come in (in w0) or been made. -/
def kRuleM (w0 : World) : Kd Rule := Kd.iso (Kd.pair kInt (Kd.mix 3 kInt kInt w0)) (fun x : Rule => (x.left, x.right))
theorem rule_mix {w0 W : World} {base : Nat} {ok : Nat → Prop} {v : Value} {xs : List Rule} (h : kRule.R 56 W base ok v xs) : (kRuleM w0).R 56 W base ok v xs := by
  refine Kd.R_imp (d := kRule) (d' := kRuleM w0) rfl ?_ h
  rintro w base ok x cs ⟨a, b, rfl, ha, hb⟩
  exact ⟨a, b, rfl, ha, Kd.slice_mix rfl (fun _ _ _ _ _ h => h) hb⟩
theorem rule_came {w0 W : World} {base : Nat} {ok : Nat → Prop} {x : Rule} {A : Option Addr} {c : Nat} (hl : x.right.length ≤ c) (h : kInt.C w0 A x.right.length x.right) : (kRuleM w0).M W base ok x [.int .i64 x.left, .slice A x.right.length c] :=
  ⟨[.int .i64 x.left], [.slice A x.right.length c], rfl, rfl, Kd.mix_came hl h⟩
theorem rule_read {w0 W : World} {A : Option Addr} {n : Nat} {xs : List Rule} (hb : Below w0.heap.size w0 W) (h : (kRuleM w0).C W A n xs) : kRule.C W A n xs := by
  refine Kd.C_read (d := kRule) (dm := kRuleM w0) rfl ?_ h
  rintro x cs ⟨a, b, rfl, ha, hb'⟩
  obtain ⟨A, c, rfl, h1, h2⟩ := Kd.mix_read rfl (fun _ _ h => h) hb hb'
  exact ⟨a, _, rfl, ha, ⟨A, c, rfl, h1, h2⟩⟩
theorem OwnG.rep {W : World} {base : Nat} {g : Gram} {A1 A2 A3 : Option Addr} {c1 c2 c3 : Nat} (h : OwnG W base g (.slice A1 g.terms.length c1) (.slice A2 g.names.length c2) (.slice A3 g.rules.length c3)) : RepG W g A1 A2 A3 c1 c2 c3 := by
  obtain ⟨_, h1, h2⟩ := Kd.R_reads' h.terms
  obtain ⟨_, h3, h4⟩ := Kd.R_reads' h.names
  obtain ⟨_, h5, h6⟩ := Kd.R_reads' h.rules
  exact ⟨h2, h4, h6, h1, h3, h5⟩
theorem OwnG.below_ {W W1 : World} {base : Nat} {g : Gram} {v1 v2 v3 : Value} (h : OwnG W base g v1 v2 v3) (hb : Below W.heap.size W W1) : OwnG W1 base g v1 v2 v3 := ⟨Kd.R_below h.terms hb, Kd.R_below h.names hb, Kd.R_below h.rules hb⟩
theorem OwnG.lower {W : World} {base base' : Nat} {g : Gram} {v1 v2 v3 : Value} (h : OwnG W base g v1 v2 v3) (hb : base' ≤ base) : OwnG W base' g v1 v2 v3 := ⟨Kd.R_lower h.terms hb, Kd.R_lower h.names hb, Kd.R_lower h.rules hb⟩
/-- One's own with a rule more, read. -/
theorem own_more {w W W1 : World} {g : Gram} {A1 A2 A3 : Option Addr} {c1 c2 c3 : Nat} {A4 : Option Addr} {c4 n : Nat} {x : Rule} {L : List Rule} (hL : L = g.rules ++ [x]) (h : OwnG W w.heap.size g (.slice A1 g.terms.length c1) (.slice A2 g.names.length c2) (.slice A3 g.rules.length c3)) (hr : (kRuleM w).R 56 W1 w.heap.size (fun _ => True) (.slice A4 n c4) L) (hb : Below w.heap.size w W1) (hg : W.grownBy W1 (Value.slice A3 g.rules.length c3).ownBlock) {q : Nat} {cs : Array Value} (hh : W1.heap[q]? = some (.cells cs 25 (0, 0))) (hq : w.heap.size ≤ q) (u : Value) :
    RepG (W1.setCell ⟨q, 2, none⟩ u) ⟨g.terms, g.names, L⟩ A1 A2 A4 c1 c2 c4 := by
  have t1 := Kd.R_set (Kd.R_over h.terms h.rules (by decide) hg) hh (by decide) 2 u
  have t2 := Kd.R_set (Kd.R_over h.names h.rules (by decide) hg) hh (by decide) 2 u
  have hr := Kd.R_set hr hh (show ∀ q, q ∈ [56, 3] → q ≠ 25 by decide) 2 u
  have hb := below_set hb hq 2 u
  obtain ⟨_, h1, h2⟩ := Kd.R_reads' t1
  obtain ⟨_, h3, h4⟩ := Kd.R_reads' t2
  obtain ⟨hn, h5, h6⟩ := Kd.R_reads' hr
  exact ⟨h2, h4, rule_read hb h6, h1, h3, by rw [← hn]; exact h5⟩
/-- The same with a name more. -/
theorem own_name {w W W1 : World} {g : Gram} {A1 A2 A3 : Option Addr} {c1 c2 c3 : Nat} {A4 : Option Addr} {c4 n : Nat} {s : ByteArray} {L : List ByteArray} (hL : L = g.names ++ [s]) (h : OwnG W w.heap.size g (.slice A1 g.terms.length c1) (.slice A2 g.names.length c2) (.slice A3 g.rules.length c3)) (hr : kStr.R 9 W1 w.heap.size (fun k => True ∧ some k ≠ (Value.slice A1 g.terms.length c1).ownBlock) (.slice A4 n c4) L) (hg : W.grownBy W1 (Value.slice A2 g.names.length c2).ownBlock) {q : Nat} {cs : Array Value} (hh : W1.heap[q]? = some (.cells cs 25 (0, 0))) (u : Value) :
    RepG (W1.setCell ⟨q, 1, none⟩ u) ⟨g.terms, L, g.rules⟩ A1 A4 A3 c1 c4 c3 := by
  have t1 := Kd.R_set (Kd.R_grown h.terms hg (fun k hk => hk.2)) hh (by decide) 1 u
  have t2 := Kd.R_set (Kd.R_over h.rules h.names (by decide) hg) hh (by decide) 1 u
  have hr := Kd.R_set hr hh (by decide) 1 u
  obtain ⟨_, h1, h2⟩ := Kd.R_reads' t1
  obtain ⟨_, h3, h4⟩ := Kd.R_reads' t2
  obtain ⟨hn, h5, h6⟩ := Kd.R_reads' hr
  exact ⟨h2, h6, h4, h1, by rw [← hn]; exact h5, h3⟩
theorem own_cut0 {W : World} {base : Nat} {g : Gram} {A1 A2 A3 : Option Addr} {c1 c2 c3 : Nat} {L : List Rule} {last : Rule} (hL : g.rules = L ++ [last]) (h : OwnG W base g (.slice A1 g.terms.length c1) (.slice A2 g.names.length c2) (.slice A3 g.rules.length c3)) : RepG W ⟨g.terms, g.names, L⟩ A1 A2 A3 c1 c2 c3 := by
  obtain ⟨_, h1, h2⟩ := Kd.R_reads' h.terms
  obtain ⟨_, h3, h4⟩ := Kd.R_reads' h.names
  obtain ⟨_, h5, h6⟩ := Kd.R_reads' h.rules
  have hl : L.length ≤ g.rules.length := by rw [hL, List.length_append]; omega
  have h7 := C_take' h6 hl
  rw [show g.rules.take L.length = L by rw [hL]; simp] at h7
  exact ⟨h2, h4, h7, h1, h3, Nat.le_trans hl h5⟩
/-- The same but for the last rule. -/
theorem own_cut {W : World} {base : Nat} {g : Gram} {A1 A2 A3 : Option Addr} {c1 c2 c3 : Nat} {L : List Rule} {last : Rule} (hL : g.rules = L ++ [last]) (h : OwnG W base g (.slice A1 g.terms.length c1) (.slice A2 g.names.length c2) (.slice A3 g.rules.length c3)) {q : Nat} {cs : Array Value} (hh : W.heap[q]? = some (.cells cs 25 (0, 0))) (u : Value) :
    RepG (W.setCell ⟨q, 2, none⟩ u) ⟨g.terms, g.names, L⟩ A1 A2 A3 c1 c2 c3 := by
  have t1 := Kd.R_set h.terms hh (by decide) 2 u
  have t2 := Kd.R_set h.names hh (by decide) 2 u
  have t3 := Kd.R_set h.rules hh (by decide) 2 u
  obtain ⟨_, h1, h2⟩ := Kd.R_reads' t1
  obtain ⟨_, h3, h4⟩ := Kd.R_reads' t2
  obtain ⟨_, h5, h6⟩ := Kd.R_reads' t3
  have hl : L.length ≤ g.rules.length := by rw [hL, List.length_append]; omega
  have h7 := C_take' h6 hl
  rw [show g.rules.take L.length = L by rw [hL]; simp] at h7
  exact ⟨h2, h4, h7, h1, h3, Nat.le_trans hl h5⟩
theorem app_ruleM_step {ops : Array Oper} {o : Oper} {a : Act} {Q : Exit → Act → World → Prop} {Kc : Act → World → Prop} {w0 W : World} {v : Value} {s x : Operand} {xs : List Rule} {p : Rule} {A : Option Addr} {c : Nat} (hw : Region.wanted o (yielded ops a.tmps) = true) (ho : o.op = .call { callee := .builtin .append, args := #[s, x], argTypes := #[23, 23] })
    (HO : kRule.R 56 W w0.heap.size (fun _ => True) v xs) (hpl : p.right.length ≤ c) (HU : kInt.C w0 A p.right.length p.right) (HB : Below w0.heap.size w0 W) (hl : xs.length + 1 ≤ 2000000000000) (hs : a.eval s = v) (hx : a.eval x = .slice (some ⟨W.heap.size, 0, none⟩) 1 1)
    (h : ∀ v1 w1, (kRuleM w0).R 56 w1 w0.heap.size (fun _ => True) v1 (xs ++ [p]) → Below w0.heap.size w0 w1 → W.grownBy w1 v.ownBlock → Kc (a.put o.dst v1) w1) :
    if Region.wanted o (yielded ops a.tmps) = true then Oper.wp Try.prog o a (W.alloc (.cells #[.int .i64 p.left, .slice A p.right.length c] 56)) Kc Q else Kc (a.put o.dst undef) (W.alloc (.cells #[.int .i64 p.left, .slice A p.right.length c] 56)) :=
  Kd.R_append_step (kRuleM w0) w0.heap.size hw s x 23 56 _ 32 ho Try.underlying23 infoRule rfl (show 0 < 2 by decide) (by decide) v xs p [.int .i64 p.left, .slice A p.right.length c] (fun _ => True) (fun _ => False) hs hx (rule_came hpl HU) (fun _ h => h.elim) (fun _ _ => trivial) (rule_mix HO) HB HB.size (by omega) (fun v1 w1 h1 h2 h3 h4 => h v1 w1 h1 h2 h3)
abbrev kBool : Kd Bool := Kd.bool
theorem infoBool : (Try.prog.info? 4).map (fun i => (i.zero, i.size, i.bytes)) = some (some (.bool false), 1, 1) := by kernel_rfl
/-- A row of truth values, made. -/
theorem mk_bools {ops : Array Oper} {rest : List Oper} {o : Oper} {a : Act} {Q : Exit → Act → World → Prop} {w0 W : World} {base : Nat} {ok : Nat → Prop} {N : Tmp} {x y : Operand} (n : Nat) (hgd : o.guard = none) (hd : o.dst = some N) (ho : o.op = .makeSlice 57 x y) (hx : a.eval x = .int .i64 n) (hy : a.eval y = .int .i64 n)
    (hn : n ≤ 1000000000) (hfresh : ok W.heap.size) (HB : Below base w0 W) (hbase : base ≤ W.heap.size)
    (h : ∀ v1 w1, kBool.R 4 w1 base ok v1 (List.replicate n false) → Below base w0 w1 → W.grownBy w1 none → (∃ b, v1.ownBlock = some b ∧ W.heap.size ≤ b) → wpList Try.prog ops Q rest (a.put o.dst v1) w1) : wpList Try.prog ops Q (o :: rest) a W :=
  Kd.R_make kBool base 4 hgd hd 57 x y ho (n : Int) hx hy Try.underlying57 _ 1 infoBool rfl (by decide) (by decide) false (okp := fun _ => False) (ok := ok) rfl (fun _ h => h.elim) hfresh (by omega) (by simp only [Int.toNat_natCast]; omega) HB hbase (by simpa only [Int.toNat_natCast] using h)
structure TK (w W : World) (g : Gram) (A1 A2 A3 : Option Addr) (c1 c2 c3 : Nat) (init : List Rule) (last : Rule) (names : List ByteArray) (bi bj bl : Nat) (I1 I2 I3 E1 E2 E3 RL : Option Addr) (i1 i2 i3 e1 e2 e3 crl : Nat) : Prop where
  sk : Below w.heap.size w W
  rep : RepG W g A1 A2 A3 c1 c2 c3
  p : W.heap[w.heap.size]? = some (.cells #[.slice A1 g.terms.length c1, .slice A2 g.names.length c2, .slice A3 g.rules.length c3] 25 (0, 0))
  rj : RepG W ⟨g.terms, g.names, init⟩ I1 I2 I3 i1 i2 i3
  ri : RepG W ⟨g.terms, names, g.rules⟩ E1 E2 E3 e1 e2 e3
  pj : W.heap[bj]? = some (.cells #[.slice I1 g.terms.length i1, .slice I2 g.names.length i2, .slice I3 init.length i3] 25 (0, 0))
  pi : W.heap[bi]? = some (.cells #[.slice E1 g.terms.length e1, .slice E2 names.length e2, .slice E3 g.rules.length e3] 25 (0, 0))
  pl : W.heap[bl]? = some (.cells #[.int .i64 last.left, .slice RL last.right.length crl] 56 (0, 0))
  rl : kInt.C W RL last.right.length last.right
theorem TK.below_ {w W W1 : World} {g : Gram} {A1 A2 A3 : Option Addr} {c1 c2 c3 : Nat} {init : List Rule} {last : Rule} {names : List ByteArray} {bi bj bl : Nat} {I1 I2 I3 E1 E2 E3 RL : Option Addr} {i1 i2 i3 e1 e2 e3 crl : Nat} (h : TK w W g A1 A2 A3 c1 c2 c3 init last names bi bj bl I1 I2 I3 E1 E2 E3 RL i1 i2 i3 e1 e2 e3 crl) (hb : Below W.heap.size W W1) : TK w W1 g A1 A2 A3 c1 c2 c3 init last names bi bj bl I1 I2 I3 E1 E2 E3 RL i1 i2 i3 e1 e2 e3 crl :=
  ⟨below_then h.sk h.sk.size hb, h.rep.below_ hb, blk_below h.p hb, h.rj.below_ hb, h.ri.below_ hb, blk_below h.pj hb, blk_below h.pi hb, blk_below h.pl hb, Kd.C_below h.rl hb⟩
theorem add0 (q i : Nat) : (⟨q, 0, none⟩ : Addr).add i = ⟨q, i, none⟩ := by
  unfold Addr.add
  by_cases h : i = 0 <;> simp [h]
theorem cell_in {w W : World} {p : Addr} {v : Value} (hb : Below w.heap.size w W) (h : w.cell? p = some v) : W.cell? p = some v := (cell_keep hb h).trans h
/-- What the row of truth values says of the symbols below T. -/
structure CS (T : Nat) (cs : List Bool) (f : Int → Bool) : Prop where
  len : cs.length = T + 1
  at_ : ∀ s : Nat, s < T → cs[s]? = some (f s)
theorem CS.start (T : Nat) : CS T (List.replicate (T + 1) false) (fun _ => false) := ⟨by simp, fun s hs => by rw [List.getElem?_replicate, if_pos (by omega)]⟩
theorem CS.set {T : Nat} {cs : List Bool} {f : Int → Bool} (h : CS T cs f) (sym : Nat) : CS T (cs.set sym true) (fun s => f s || (sym : Int) == s) := by
  refine ⟨by rw [List.length_set]; exact h.len, fun s hs => ?_⟩
  have hl := h.len
  rw [List.getElem?_set]
  by_cases he : sym = s
  · subst he
    rw [if_pos rfl, if_pos (by omega)]
    simp
  · rw [if_neg he, h.at_ s hs]
    have : ((sym : Int) == (s : Int)) = false := by rw [beq_eq_false_iff_ne]; omega
    rw [this, Bool.or_false]
theorem CS.congr {T : Nat} {cs : List Bool} {f f' : Int → Bool} (h : CS T cs f) (he : ∀ s : Nat, s < T → f s = f' s) : CS T cs f' := ⟨h.len, fun s hs => by rw [h.at_ s hs, he s hs]⟩
end Go.Proofs.Ytphmmppmhphgeaa

/- The plain law of GrammarMay: alternative by alternative, its rule is the next one, or one that came. -/
set_option linter.unusedVariables false
set_option linter.unusedSimpArgs false
namespace Go.Proofs.Ytphmmppmhphgeaa
open Go.RowKit Go.Proofs.YtphmmppmhphgeaaW.PrintWords

def sameR (g : Gram) : List Int → List Tok → Bool
  | s :: l, t :: r => decide (nameF g s = some t.text) && (termF g s == decide (t.kind = 2)) && sameR g l r
  | _, _ => true
/-- Is a rule that alternative? -/
def isF (g : Gram) (x : Rule) (left : ByteArray) (right : List Tok) : Bool :=
  decide (nameF g x.left = some left) && !termF g x.left && decide (x.right.length = right.length) && sameR g x.right right
/-- What the law goes through, token by token. -/
def mayL (g : Gram) : List Tok → Nat → ByteArray → List Tok → Bool
  | [], rule, _, _ => rule == g.rules.length
  | t :: r, rule, left, right =>
    if t.kind = 3 then mayL g r rule left right
    else if t.kind = 1 ∧ (r.head?.map fun x => x.kind) = some 3 then mayL g r rule t.text right
    else if t.kind = 4 ∨ t.kind = 5 then
      if ((g.rules.take rule).any fun x => isF g x left right) = true then mayL g r rule left []
      else match g.rules[rule]? with
        | none => false
        | some x => if isF g x left right = true then mayL g r (rule + 1) left [] else false
    else mayL g r rule left (right ++ [t])
theorem mayL_cons (g : Gram) (t : Tok) (r : List Tok) (rule : Nat) (left : ByteArray) (right : List Tok) : mayL g (t :: r) rule left right =
    (if t.kind = 3 then mayL g r rule left right
    else if t.kind = 1 ∧ (r.head?.map fun x => x.kind) = some 3 then mayL g r rule t.text right
    else if t.kind = 4 ∨ t.kind = 5 then
      if ((g.rules.take rule).any fun x => isF g x left right) = true then mayL g r rule left []
      else match g.rules[rule]? with
        | none => false
        | some x => if isF g x left right = true then mayL g r (rule + 1) left [] else false
    else mayL g r rule left (right ++ [t])) := by rw [mayL]
def foldA (g : Gram) : List Alt → Nat → Option Nat
  | [], n => some n
  | a :: l, n =>
    if ((g.rules.take n).any fun x => isF g x a.left.text a.right) = true then foldA g l n
    else match g.rules[n]? with
      | none => none
      | some x => if isF g x a.left.text a.right = true then foldA g l (n + 1) else none
theorem foldA_append (g : Gram) : ∀ (l m : List Alt) (n : Nat), foldA g (l ++ m) n = (foldA g l n).bind (foldA g m)
  | [], m, n => rfl
  | a :: l, m, n => by
    rw [List.cons_append]
    unfold foldA
    split
    · exact foldA_append g l m n
    · split
      · rfl
      · split
        · exact foldA_append g l m _
        · rfl
section
variable {en : Int} {g : Gram}
theorem mayL_alt {lt : Tok} : ∀ {l acc right r : List Tok} {more : Bool}, altF en l acc = .ok (right, more, r) → ∀ n, mayL g l n lt.text acc = (match foldA g [⟨lt, right⟩] n with | none => false | some n' => mayL g r n' lt.text [])
  | [], acc, right, r, more, h, n => by cases h
  | t :: l, acc, right, r, more, h, n => by
    unfold altF at h
    split at h
    · rename_i hk
      rw [mayL_cons, if_neg (by omega), if_neg, if_neg (by omega)]
      · exact mayL_alt h n
      · rintro ⟨_, h3⟩
        cases l with
        | nil => cases h3
        | cons t2 l =>
          simp only [List.head?_cons, Option.map_some, Option.some.injEq] at h3
          unfold altF at h
          rw [if_neg (by omega), if_neg (by omega)] at h
          cases h
    · rename_i hk
      split at h
      · rename_i hk2
        injection h with h
        injection h with h1 h
        injection h with h2 h3
        subst h1 h3
        rw [mayL_cons, foldA, if_neg (by omega), if_neg (by omega), if_pos hk2]
        dsimp only
        split
        · rfl
        · split
          · rfl
          · split
            · rfl
            · rfl
      · cases h
theorem mayL_alts {lt : Tok} : ∀ {k : Nat} {l r : List Tok} {out out' : List Alt}, altsF en lt k l out = .ok (r, out') → ∃ new, out' = out ++ new ∧ ∀ n, mayL g l n lt.text [] = (match foldA g new n with | none => false | some n' => mayL g r n' lt.text [])
  | 0, l, r, out, out', h => by cases h
  | k + 1, l, r, out, out', h => by
    unfold altsF at h
    split at h
    · cases h
    · rename_i right more r1 ha
      split at h
      · cases h
      · split at h
        · obtain ⟨new, e, hn⟩ := mayL_alts h
          refine ⟨⟨lt, right⟩ :: new, by rw [e, List.append_assoc]; rfl, fun n => ?_⟩
          rw [mayL_alt ha n, show (⟨lt, right⟩ : Alt) :: new = [⟨lt, right⟩] ++ new from rfl, foldA_append]
          cases foldA g [⟨lt, right⟩] n with
          | none => rfl
          | some n' => exact hn n'
        · injection h with h
          injection h with h1 h2
          subst h1 h2
          exact ⟨[⟨lt, right⟩], rfl, fun n => mayL_alt ha n⟩
theorem mayL_def {l r : List Tok} {out out' : List Alt} (h : defF en l out = .ok (r, out')) : ∃ new lt, out' = out ++ new ∧ ∀ n left, mayL g l n left [] = (match foldA g new n with | none => false | some n' => mayL g r n' lt [])  := by
  cases l with
  | nil => cases h
  | cons t r1 =>
    cases r1 with
    | nil => rw [defF_one] at h; split at h <;> cases h
    | cons t2 r2 =>
      rw [defF_two] at h
      split at h
      · rename_i hk
        split at h
        · rename_i hk2
          obtain ⟨new, e, hn⟩ := mayL_alts (g := g) h
          refine ⟨new, t.text, e, fun n left => ?_⟩
          rw [← hn n]
          rw [mayL_cons]
          rw [if_neg (by omega), if_pos ⟨hk, by simp [hk2]⟩]
          rw [mayL_cons]
          rw [if_pos hk2]
        · cases h
      · cases h
theorem mayL_rest : ∀ {k : Nat} {l : List Tok} {out out' : List Alt}, restF en k l out = .ok out' → ∃ new, out' = out ++ new ∧ ∀ n left, mayL g l n left [] = (match foldA g new n with | none => false | some n' => n' == g.rules.length)
  | k, [], out, out', h => by
    have h : out = out' := by cases k <;> (injection h)
    exact ⟨[], by rw [h, List.append_nil], fun n left => rfl⟩
  | 0, t :: r, out, out', h => by cases h
  | k + 1, t :: r, out, out', h => by
    unfold restF at h
    split at h
    · cases h
    · rename_i r' o' hd
      obtain ⟨n1, lt, e1, h1⟩ := mayL_def (g := g) hd
      obtain ⟨n2, e2, h2⟩ := mayL_rest h
      refine ⟨n1 ++ n2, by rw [e2, e1, List.append_assoc], fun n left => ?_⟩
      rw [h1, foldA_append]
      cases foldA g n1 n with
      | none => rfl
      | some n' => exact h2 n' lt
theorem mayL_read {l : List Tok} {out : List Alt} (h : readF en l = .ok out) (n : Nat) (left : ByteArray) : mayL g l n left [] = (match foldA g out n with | none => false | some n' => n' == g.rules.length) := by
  unfold readF at h
  split at h
  · cases h
  · rename_i r o hd
    obtain ⟨n1, lt, e1, h1⟩ := mayL_def (g := g) hd
    obtain ⟨n2, e2, h2⟩ := mayL_rest (g := g) h
    rw [h1, e2, e1, List.nil_append, foldA_append]
    cases foldA g n1 n with
    | none => rfl
    | some n' => exact h2 n' lt
end
theorem quotesF_mem : ∀ {r : List Tok} {ts : List ByteArray} {t : Tok}, t ∈ r → t.kind = 2 → t.text ∈ quotesF r ts
  | x :: r, ts, t, h, hk => by
    unfold quotesF
    rcases List.mem_cons.1 h with rfl | h
    · rw [if_pos hk]; exact (quotesF_prefix r _).subset (addF_mem.2 (Or.inr rfl))
    · exact quotesF_mem h hk
theorem gatherF_mem : ∀ {l : List Alt} {ts ns : List ByteArray} {a : Alt}, a ∈ l → a.left.text ∈ (gatherF l ts ns).2 ∧ ∀ t ∈ a.right, t.kind = 2 → t.text ∈ (gatherF l ts ns).1
  | x :: l, ts, ns, a, h => by
    unfold gatherF
    rcases List.mem_cons.1 h with rfl | h
    · have hp := gatherF_prefix l (quotesF a.right ts) (addF ns a.left.text)
      exact ⟨hp.2.subset (addF_mem.2 (Or.inr rfl)), fun t ht hk => hp.1.subset (quotesF_mem ht hk)⟩
    · exact gatherF_mem h
theorem name_of {g : Gram} {s : ByteArray} (h : s ∈ g.names) : nameF g (g.terms.length + idxF g.names s) = some s ∧ termF g (g.terms.length + idxF g.names s) = false := by
  obtain ⟨h0, h1⟩ := idxF_some h
  refine ⟨?_, decide_eq_false (by omega)⟩
  unfold nameF
  rw [if_neg (by omega), if_neg (by omega), show ((g.terms.length : Int) + idxF g.names s).toNat - g.terms.length = (idxF g.names s).toNat by omega]
  exact h1
theorem term_of {g : Gram} {s : ByteArray} (h : s ∈ g.terms) : nameF g (idxF g.terms s) = some s ∧ termF g (idxF g.terms s) = true := by
  obtain ⟨h0, h1⟩ := idxF_some h
  have h2 := idxF_lt h
  refine ⟨?_, decide_eq_true ⟨h0, h2⟩⟩
  unfold nameF
  rw [if_neg (by omega), if_pos h2]
  exact h1
theorem sameR_num {g : Gram} : ∀ {l : List Tok} {m : List Int}, (∀ t ∈ l, (t.kind = 1 ∨ t.kind = 2) ∧ (t.kind = 2 → t.text ∈ g.terms)) → rightF g.terms g.names l [] = .ok m → sameR g m l = true
  | [], m, _, h => by injection h with h; subst h; rfl
  | t :: l, m, hk, h => by
    unfold rightF at h
    split at h
    · cases h
    · rename_i i hi
      obtain ⟨m', rfl, h1, _⟩ := rightF_acc h
      rw [List.nil_append, List.singleton_append]
      have ih := sameR_num (fun x hx => hk x (List.mem_cons_of_mem _ hx)) h1
      have h0 := hk t List.mem_cons_self
      unfold sameR
      rw [ih, Bool.and_true, Bool.and_eq_true, decide_eq_true_eq, beq_iff_eq]
      unfold symF at hi
      by_cases h2 : t.kind = 2
      · rw [if_pos h2] at hi
        injection hi with hi
        subst hi
        have := term_of (h0.2 h2)
        exact ⟨this.1, by rw [this.2, decide_eq_true h2]⟩
      · rw [if_neg h2] at hi
        split at hi
        · cases hi
        · rename_i h3
          injection hi with hi
          subst hi
          have := name_of (g := g) (idxF_in (l := g.names) (s := t.text) (by omega))
          exact ⟨this.1, by rw [this.2, decide_eq_false h2]⟩
theorem sameR_inj {g : Gram} (hg : goodF g = true) : ∀ {l m : List Int} {r : List Tok}, l.length = r.length → m.length = r.length → sameR g l r = true → sameR g m r = true → l = m
  | [], [], [], _, _, _, _ => rfl
  | [], _ :: _, [], _, h, _, _ => by cases h
  | _ :: _, _, [], h, _, _, _ => by cases h
  | [], _, _ :: _, h, _, _, _ => by cases h
  | _ :: _, [], _ :: _, _, h, _, _ => by cases h
  | a :: l, b :: m, t :: r, h1, h2, h3, h4 => by
    unfold sameR at h3 h4
    rw [Bool.and_eq_true, Bool.and_eq_true, decide_eq_true_eq, beq_iff_eq] at h3 h4
    rw [name_own hg h3.1.1 h4.1.1 (h3.1.2.trans h4.1.2.symm), sameR_inj hg (by simpa using h1) (by simpa using h2) h3.2 h4.2]
theorem isF_inj {g : Gram} (hg : goodF g = true) {x y : Rule} {left : ByteArray} {right : List Tok} (hx : isF g x left right = true) (hy : isF g y left right = true) : x = y := by
  unfold isF at hx hy
  simp only [Bool.and_eq_true, decide_eq_true_eq, Bool.not_eq_true'] at hx hy
  obtain ⟨⟨⟨x1, x2⟩, x3⟩, x4⟩ := hx
  obtain ⟨⟨⟨y1, y2⟩, y3⟩, y4⟩ := hy
  have e1 := name_own hg x1 y1 (x2.trans y2.symm)
  have e2 := sameR_inj hg x3 y3 x4 y4
  cases x; cases y; simp_all
theorem isF_num {g : Gram} {a : Alt} {x : Rule} (hx : numF g.terms g.names a = .ok x) (hl : a.left.text ∈ g.names) (hk : ∀ t ∈ a.right, (t.kind = 1 ∨ t.kind = 2) ∧ (t.kind = 2 → t.text ∈ g.terms)) : isF g x a.left.text a.right = true := by
  obtain ⟨h1, h2⟩ := numF_left hx
  have hn := name_of hl
  have hlen : x.right.length = a.right.length := by
    obtain ⟨m, e, _, h3⟩ := rightF_acc h2
    rw [List.nil_append] at e
    rw [e, h3]
  unfold isF
  rw [h1, hn.1, hn.2, sameR_num hk h2, hlen]
  simp
theorem rulesF_prefix {ts ns : List ByteArray} : ∀ {l : List Alt} {acc rs : List Rule}, rulesF ts ns l acc = .ok rs → acc <+: rs
  | [], acc, rs, h => by injection h with h; subst h; exact List.prefix_rfl
  | a :: l, acc, rs, h => by
    unfold rulesF at h
    split at h
    · cases h
    · rename_i x hx
      refine List.IsPrefix.trans ?_ (rulesF_prefix h)
      unfold pushF
      split
      · exact List.prefix_rfl
      · exact List.prefix_append _ _
theorem foldA_rules {g : Gram} (hg : goodF g = true) : ∀ {l : List Alt} {acc : List Rule}, rulesF g.terms g.names l acc = .ok g.rules → (∀ a ∈ l, a.left.text ∈ g.names ∧ ∀ t ∈ a.right, (t.kind = 1 ∨ t.kind = 2) ∧ (t.kind = 2 → t.text ∈ g.terms)) → foldA g l acc.length = some g.rules.length
  | [], acc, h, _ => by injection h with h; rw [← h]; rfl
  | a :: l, acc, h, ha => by
    unfold rulesF at h
    split at h
    · cases h
    · rename_i x hx
      have h0 := ha a List.mem_cons_self
      have h1 := isF_num hx h0.1 h0.2
      have ih := foldA_rules hg h (fun y hy => ha y (List.mem_cons_of_mem _ hy))
      have hp := rulesF_prefix h
      have hpa : acc <+: g.rules := by
        refine List.IsPrefix.trans ?_ hp
        unfold pushF
        split
        · exact List.prefix_rfl
        · exact List.prefix_append _ _
      have ht : g.rules.take acc.length = acc := by
        obtain ⟨m, e⟩ := hpa
        rw [← e]
        simp
      unfold foldA
      rw [ht]
      by_cases hm : x ∈ acc
      · rw [if_pos (List.any_eq_true.2 ⟨x, hm, h1⟩)]
        rw [show pushF acc x = acc from by unfold pushF; rw [if_pos (List.any_eq_true.2 ⟨x, hm, by simp⟩)]] at ih
        exact ih
      · rw [if_neg]
        · have hpu : pushF acc x = acc ++ [x] := by
            unfold pushF
            rw [if_neg]
            intro hh
            obtain ⟨y, hy, he⟩ := List.any_eq_true.1 hh
            have he := of_decide_eq_true he
            subst he
            exact hm hy
          rw [hpu] at ih hp
          have hx' : g.rules[acc.length]? = some x := by
            obtain ⟨m, e⟩ := hp
            rw [← e]
            simp
          rw [hx']
          dsimp only
          rw [if_pos h1, ← ih]
          congr 1
          simp
        · intro hh
          obtain ⟨y, hy, he⟩ := List.any_eq_true.1 hh
          exact hm (isF_inj hg h1 he ▸ hy)
/-- The plain law. -/
theorem may_law {s : ByteArray} {g : Gram} (h : ofF s = .ok g) : ∃ l, lexE s = .ok l ∧ goodF g = true ∧ 1 ≤ g.rules.length ∧ mayL g l 0 ⟨#[]⟩ [] = true := by
  obtain ⟨l, alts, h1, h2, h3, h4, h5, h6, h7⟩ := ofF_ok h
  obtain ⟨hg, ht, hn, hr⟩ := grammF_good h3 h4 h5 h6 h7
  refine ⟨l, h1, hg, ?_, ?_⟩
  · unfold goodF ruledF at hg
    simp only [Bool.and_eq_true, decide_eq_true_eq] at hg
    exact hg.1.1.2.1.1
  · rw [mayL_read h2, show (0 : Nat) = ([] : List Rule).length from rfl, foldA_rules hg hr]
    · simp
    · intro a ha
      have hm := gatherF_mem (ts := []) (ns := []) ha
      rw [← ht, ← hn] at hm
      exact ⟨hm.1, fun t h => ⟨((h4 a ha).right t h).2, hm.2 t h⟩⟩
end Go.Proofs.Ytphmmppmhphgeaa

/- The plain law of GrammarAgain: a text written twice, one behind the other. -/
set_option linter.unusedVariables false
set_option linter.unusedSimpArgs false
namespace Go.Proofs.Ytphmmppmhphgeaa
open Go.RowKit Go.Proofs.YtphmmppmhphgeaaW.PrintWords

/-! ### tokens of a text that goes on behind a line's end -/
theorem runF_line {p : Int → Bool} (hp : p 10 = false) (m : List UInt8) : ∀ l : List UInt8, runF (l ++ 10 :: m) p = runF l p
  | [] => by
    unfold runF
    rw [List.nil_append, List.takeWhile_cons, if_neg]
    · rfl
    · show ¬ p 10 = true
      rw [hp]; decide
  | a :: l => by
    have ih := runF_line hp m l
    unfold runF at ih ⊢
    rw [List.cons_append, List.takeWhile_cons, List.takeWhile_cons]
    split
    · rw [List.length_cons, List.length_cons, ih]
    · rfl
theorem take_line {l m : List UInt8} {n : Nat} (h : n ≤ l.length) : (l ++ 10 :: m).take n = l.take n := by
  rw [List.take_append_of_le_length h]
theorem tokenF_line {l : List UInt8} (hl : l ≠ []) (m : List UInt8) (at_ : Int) : tokenF (l ++ 10 :: m) at_ = tokenF l at_ := by
  cases l with
  | nil => exact absurd rfl hl
  | cons c r =>
    have h1 : runF (c :: (r ++ 10 :: m)) innerB = runF (c :: r) innerB := runF_line (by decide) m (c :: r)
    have h2 : runF (r ++ 10 :: m) insideB = runF r insideB := runF_line (by decide) m r
    have h3 : (c :: (r ++ 10 :: m)).take (runF (c :: r) innerB) = (c :: r).take (runF (c :: r) innerB) := take_line (l := c :: r) (runF_le _ _)
    have h4 : (r ++ 10 :: m).take (runF r insideB) = r.take (runF r insideB) := take_line (runF_le _ _)
    have h5 : ((r ++ 10 :: m)[runF r insideB]?).map UInt8.toNat = some 39 ↔ (r[runF r insideB]?).map UInt8.toNat = some 39 := by
      rcases Nat.lt_or_ge (runF r insideB) r.length with h | h
      · rw [List.getElem?_append_left h]
      · have e : runF r insideB = r.length := Nat.le_antisymm (runF_le _ _) h
        rw [e, List.getElem?_append_right (Nat.le_refl _), Nat.sub_self, List.getElem?_eq_none (Nat.le_refl _)]
        simp
    rw [List.cons_append]
    unfold tokenF
    dsimp only
    rw [h1, h2, h3, h4]
    simp only [h5]
theorem skipF_line (m : List UInt8) : ∀ (b : Bool) (l : List UInt8), skipF b (l ++ 10 :: m) = if skipF b l < l.length then skipF b l else l.length + 1 + skipF false m
  | true, [] => by simp [skipF]
  | false, [] => by simp [skipF]
  | true, c :: r => by
    have h1 := skipF_line m true r
    have h2 := skipF_line m false r
    rw [List.cons_append]
    simp only [skipF, List.length_cons]
    split
    · rw [h2]; split <;> split <;> omega
    · rw [h1]; split <;> split <;> omega
  | false, c :: r => by
    have h1 := skipF_line m true r
    have h2 := skipF_line m false r
    rw [List.cons_append]
    simp only [skipF, List.length_cons]
    split
    · rw [h2]; split <;> split <;> omega
    · split
      · rw [h1]; split <;> split <;> omega
      · rw [if_pos (by omega)]
theorem toksF_fuel : ∀ {k k' at_ : Nat} {l : List UInt8} {acc : List Tok}, l.length < k → l.length < k' → toksF k at_ l acc = toksF k' at_ l acc
  | 0, _, _, _, _, h, _ => absurd h (Nat.not_lt_zero _)
  | _ + 1, 0, _, _, _, _, h => absurd h (Nat.not_lt_zero _)
  | k + 1, k' + 1, at_, [], acc, _, _ => rfl
  | k + 1, k' + 1, at_, c :: r, acc, h, h' => by
    cases hT : tokenF (c :: r) at_ with
    | none => rw [toksF_none (by simp) hT, toksF_none (by simp) hT]
    | some q =>
      obtain ⟨t, n⟩ := q
      have hb := tokenF_bound hT
      rw [toksF_some hT, toksF_some hT]
      exact toksF_fuel (by simp only [List.length_drop, List.length_cons] at *; omega) (by simp only [List.length_drop, List.length_cons] at *; omega)
def toksU (at_ : Nat) (l : List UInt8) (acc : List Tok) : Except Nat (List Tok) := toksF (l.length + 1) at_ l acc
theorem toksU_some {at_ : Nat} {l : List UInt8} {acc : List Tok} {t : Tok} {n : Nat} (h : tokenF l at_ = some (t, n)) : toksU at_ l acc = toksU (at_ + n + skipF false (l.drop n)) ((l.drop n).drop (skipF false (l.drop n))) (acc ++ [t]) := by
  have hb := tokenF_bound h
  unfold toksU
  rw [toksF_some h]
  exact toksF_fuel (by simp only [List.length_drop]; omega) (by omega)
theorem toksU_line (m : List UInt8) : ∀ (q : Nat) {l : List UInt8} {at_ : Nat} {acc : List Tok}, l.length ≤ q → l ≠ [] →
    toksU at_ (l ++ 10 :: m) acc = (match toksU at_ l acc with | .error p => .error p | .ok r => toksU (at_ + l.length + 1 + skipF false m) (m.drop (skipF false m)) r)
  | 0, l, _, _, h, hl => absurd (List.eq_nil_of_length_eq_zero (by omega)) hl
  | q + 1, l, at_, acc, h, hl => by
    have hla : l ++ 10 :: m ≠ [] := by simp
    cases hT : tokenF l at_ with
    | none =>
      unfold toksU
      rw [toksF_none hl hT, toksF_none hla (by rw [tokenF_line hl, hT])]
    | some x =>
      obtain ⟨t, n⟩ := x
      have hb := tokenF_bound hT
      rw [toksU_some (by rw [tokenF_line hl, hT] : tokenF (l ++ 10 :: m) at_ = some (t, n)), toksU_some hT, List.drop_append_of_le_length hb.2, skipF_line]
      have hs := skipF_le false (l.drop n)
      split
      · rename_i hlt
        rw [List.drop_append_of_le_length (by omega)]
        rw [toksU_line m q (by simp only [List.length_drop] at *; omega) (by intro e; have := congrArg List.length e; simp only [List.length_drop, List.length_nil] at this hlt; omega)]
        split
        · rfl
        · congr 2
          simp only [List.length_drop] at *
          omega
      · rename_i hge
        have e : skipF false (l.drop n) = (l.drop n).length := by omega
        rw [e, List.drop_length]
        have e2 : (l.drop n ++ 10 :: m).drop ((l.drop n).length + 1 + skipF false m) = m.drop (skipF false m) := by
          rw [Nat.add_assoc, List.drop_append, List.drop_eq_nil_of_le (by omega), List.nil_append, Nat.add_sub_cancel_left, Nat.add_comm 1, List.drop_succ_cons]
        rw [e2]
        show _ = toksU _ _ _
        congr 1
        simp only [List.length_drop] at *
        omega
def sh (d : Nat) (t : Tok) : Tok := ⟨t.kind, t.text, t.pos + d⟩
theorem tokenF_sh (l : List UInt8) (at_ : Int) (d : Nat) : tokenF l (at_ + d) = (tokenF l at_).map fun x => (sh d x.1, x.2) := by
  cases l with
  | nil => rfl
  | cons c r =>
    unfold tokenF
    dsimp only
    split
    · split <;> rfl
    · split
      · split <;> rfl
      · split <;> rfl
theorem toksF_sh (d : Nat) (acc0 : List Tok) : ∀ (k : Nat) {at_ : Nat} {l : List UInt8} {acc : List Tok}, toksF k (at_ + d) l (acc0 ++ acc.map (sh d)) = (match toksF k at_ l acc with | .error p => .error (p + d) | .ok r => .ok (acc0 ++ r.map (sh d)))
  | 0, at_, l, acc => rfl
  | k + 1, at_, [], acc => rfl
  | k + 1, at_, c :: r, acc => by
    have hs := tokenF_sh (c :: r) at_ d
    cases hT : tokenF (c :: r) at_ with
    | none =>
      rw [hT] at hs
      rw [toksF_none (by simp) hT, toksF_none (by simp) (by rw [Int.natCast_add]; exact hs)]
    | some q =>
      obtain ⟨t, n⟩ := q
      rw [hT] at hs
      have hs' : tokenF (c :: r) ((at_ + d : Nat) : Int) = some (sh d t, n) := by rw [Int.natCast_add]; exact hs
      rw [toksF_some hT, toksF_some hs', ← toksF_sh d acc0 k, List.map_append, List.append_assoc]
      congr 1
      omega
theorem toksU_sh {at_ d : Nat} {l : List UInt8} (acc0 : List Tok) : toksU (at_ + d) l acc0 = (match toksU at_ l [] with | .error p => .error (p + d) | .ok r => .ok (acc0 ++ r.map (sh d))) := by
  have h := toksF_sh d acc0 (l.length + 1) (at_ := at_) (l := l) (acc := [])
  rw [List.map_nil, List.append_nil] at h
  exact h
/-- A text, a line's end, the text. -/
def twice (s : ByteArray) : ByteArray := s ++ ⟨#[10]⟩ ++ s
theorem bsl_append (a b : ByteArray) : bsl (a ++ b) = bsl a ++ bsl b := by simp [bsl]
theorem bsl_twice (s : ByteArray) : bsl (twice s) = bsl s ++ 10 :: bsl s := by
  unfold twice
  rw [bsl_append, bsl_append, List.append_assoc]
  rfl
theorem size_twice (s : ByteArray) : (twice s).size = 2 * s.size + 1 := by
  rw [← size_data, bsl_twice, List.length_append, List.length_cons, size_data]; omega
theorem lexE_eq (s : ByteArray) (h : s.size ≤ 2000) : lexE s = (match toksU (skipF false (bsl s)) ((bsl s).drop (skipF false (bsl s))) [] with | .error p => .error (11, (p : Int)) | .ok l => .ok l) := by
  unfold lexE
  rw [if_neg (by omega)]
  unfold toksU
  rw [toksF_fuel (k' := ((bsl s).drop (skipF false (bsl s))).length + 1) (by simp only [List.length_drop]; omega) (by omega)]
  generalize toksF _ _ _ [] = R
  cases R <;> rfl
theorem lexE_twice {s : ByteArray} (hs : s.size ≤ 900) : lexE (twice s) = (match lexE s with | .error e => .error e | .ok l => .ok (l ++ l.map (sh (s.size + 1)))) := by
  have hz := size_data s
  have hl := skipF_le false (bsl s)
  rw [lexE_eq (twice s) (by rw [size_twice]; omega), lexE_eq s (by omega), bsl_twice, skipF_line]
  generalize bsl s = L at *
  have key : ∀ acc, toksU (L.length + 1 + skipF false L) (L.drop (skipF false L)) acc = (match toksU (skipF false L) (L.drop (skipF false L)) [] with | .error p => .error (p + (s.size + 1)) | .ok r => .ok (acc ++ r.map (sh (s.size + 1)))) := fun acc => by
    rw [show L.length + 1 + skipF false L = skipF false L + (s.size + 1) by omega]
    exact toksU_sh acc
  by_cases hlt : skipF false L < L.length
  · rw [if_pos hlt, List.drop_append_of_le_length hl, toksU_line L (L.drop (skipF false L)).length (Nat.le_refl _) (by intro e; have := congrArg List.length e; simp only [List.length_drop, List.length_nil] at this; omega)]
    rw [show skipF false L + (L.drop (skipF false L)).length + 1 + skipF false L = L.length + 1 + skipF false L by simp only [List.length_drop]; omega]
    cases hT : toksU (skipF false L) (L.drop (skipF false L)) [] with
    | error p => rfl
    | ok r =>
      dsimp only
      rw [key, hT]
  · rw [if_neg hlt]
    have e : skipF false L = L.length := by omega
    have e2 : (L ++ 10 :: L).drop (L.length + 1 + skipF false L) = L.drop (skipF false L) := by
      rw [Nat.add_assoc, List.drop_append, List.drop_eq_nil_of_le (by omega), List.nil_append, Nat.add_sub_cancel_left, Nat.add_comm 1, List.drop_succ_cons]
    rw [e2, key, e, List.drop_length]
    rfl
end Go.Proofs.Ytphmmppmhphgeaa

/- The plain law of GrammarAgain: alternatives and rules of tokens that come twice. -/
set_option linter.unusedVariables false
set_option linter.unusedSimpArgs false
namespace Go.Proofs.Ytphmmppmhphgeaa
open Go.RowKit Go.Proofs.YtphmmppmhphgeaaW.PrintWords

section
variable {en en' : Int} {m : List Tok}
theorem altF_more : ∀ {l acc right r : List Tok} {more : Bool}, altF en l acc = .ok (right, more, r) → altF en' (l ++ m) acc = .ok (right, more, r ++ m)
  | [], _, _, _, _, h => by cases h
  | t :: l, acc, right, r, more, h => by
    rw [List.cons_append]
    unfold altF at h ⊢
    split at h
    · rename_i hk; rw [if_pos hk]; exact altF_more h
    · rename_i hk
      rw [if_neg hk]
      split at h
      · rename_i hk2
        rw [if_pos hk2]
        injection h with h; injection h with h1 h; injection h with h2 h3
        subst h1 h2 h3
        rfl
      · cases h
/-- The tokens behind begin as a definition does. -/
def Head (m : List Tok) : Prop := ∃ t1 t2 r, m = t1 :: t2 :: r ∧ t1.kind = 1 ∧ t2.kind = 3
theorem altF_bad (hm : Head m) : ∀ {l acc : List Tok} {e : Int × Int}, altF en l acc = .error e → ∃ e', altF en' (l ++ m) acc = .error e'
  | [], acc, e, h => by
    obtain ⟨t1, t2, r, rfl, h1, h2⟩ := hm
    refine ⟨(12, t2.pos), ?_⟩
    rw [List.nil_append]
    unfold altF
    rw [if_pos (Or.inl h1)]
    unfold altF
    rw [if_neg (by omega), if_neg (by omega)]
  | t :: l, acc, e, h => by
    rw [List.cons_append]
    unfold altF at h ⊢
    split at h
    · rename_i hk; rw [if_pos hk]; exact altF_bad hm h
    · rename_i hk
      rw [if_neg hk]
      split at h
      · cases h
      · rename_i hk2; rw [if_neg hk2]; exact ⟨_, rfl⟩
theorem altsF_more {left : Tok} : ∀ {k k' : Nat} {l r : List Tok} {out out' : List Alt}, altsF en left k l out = .ok (r, out') → k ≤ k' → altsF en' left k' (l ++ m) out = .ok (r ++ m, out')
  | 0, _, _, _, _, _, h, _ => by cases h
  | _ + 1, 0, _, _, _, _, _, h => absurd h (by omega)
  | k + 1, k' + 1, l, r, out, out', h, hk => by
    unfold altsF at h ⊢
    split at h
    · cases h
    · rename_i right more r1 ha
      rw [altF_more ha]
      dsimp only
      split at h
      · cases h
      · rename_i hn
        rw [if_neg hn]
        split at h
        · rename_i hm; rw [if_pos hm]; exact altsF_more h (by omega)
        · rename_i hm
          rw [if_neg hm]
          injection h with h; injection h with h1 h2
          subst h1 h2
          rfl
theorem altsF_bad (hm : Head m) {left : Tok} : ∀ {k k' : Nat} {l : List Tok} {out : List Alt} {e : Int × Int}, altsF en left k l out = .error e → l.length < k → ∃ e', altsF en' left k' (l ++ m) out = .error e'
  | 0, _, _, _, _, _, h => absurd h (by omega)
  | _ + 1, 0, _, _, _, _, _ => ⟨_, rfl⟩
  | k + 1, k' + 1, l, out, e, h, hk => by
    unfold altsF at h ⊢
    split at h
    · rename_i e1 he
      obtain ⟨e', he'⟩ := altF_bad (en' := en') hm he
      rw [he']
      exact ⟨_, rfl⟩
    · rename_i right more r1 ha
      rw [altF_more ha]
      dsimp only
      split at h
      · rename_i hn; rw [if_pos hn]; exact ⟨_, rfl⟩
      · rename_i hn
        rw [if_neg hn]
        split at h
        · rename_i hmo
          rw [if_pos hmo]
          have := altF_lt ha
          exact altsF_bad hm h (by omega)
        · cases h
theorem defF_more {l r : List Tok} {out out' : List Alt} (h : defF en l out = .ok (r, out')) : defF en' (l ++ m) out = .ok (r ++ m, out') := by
  cases l with
  | nil => cases h
  | cons t r1 =>
    cases r1 with
    | nil => rw [defF_one] at h; split at h <;> cases h
    | cons t2 r2 =>
      rw [List.cons_append, List.cons_append, defF_two]
      rw [defF_two] at h
      split at h
      · rename_i hk
        rw [if_pos hk]
        split at h
        · rename_i hk2
          rw [if_pos hk2]
          exact altsF_more h (by rw [List.length_append]; omega)
        · cases h
      · cases h
theorem defF_bad (hm : Head m) {l : List Tok} {out : List Alt} {e : Int × Int} (hl : l ≠ []) (h : defF en l out = .error e) : ∃ e', defF en' (l ++ m) out = .error e' := by
  cases l with
  | nil => exact absurd rfl hl
  | cons t r1 =>
    cases r1 with
    | nil =>
      obtain ⟨t1, t2, r, rfl, h1, h2⟩ := hm
      show ∃ e', defF en' (t :: t1 :: t2 :: r) out = .error e'
      rw [defF_two]
      split
      · rw [if_neg (by omega)]; exact ⟨_, rfl⟩
      · exact ⟨_, rfl⟩
    | cons t2 r2 =>
      rw [List.cons_append, List.cons_append, defF_two]
      rw [defF_two] at h
      split at h
      · rename_i hk
        rw [if_pos hk]
        split at h
        · rename_i hk2
          rw [if_pos hk2]
          exact altsF_bad hm h (by omega)
        · rename_i hk2; rw [if_neg hk2]; exact ⟨_, rfl⟩
      · rename_i hk; rw [if_neg hk]; exact ⟨_, rfl⟩
theorem restF_more : ∀ {k k' : Nat} {l : List Tok} {out out' : List Alt}, restF en k l out = .ok out' → k + m.length ≤ k' → ∃ k'', m.length ≤ k'' ∧ restF en' k' (l ++ m) out = restF en' k'' m out'
  | k, k', [], out, out', h, hk => by
    have h : out = out' := by cases k <;> (injection h)
    exact ⟨k', by omega, by rw [h, List.nil_append]⟩
  | 0, _, t :: r, _, _, h, _ => by cases h
  | k + 1, 0, t :: r, _, _, _, h => absurd h (by omega)
  | k + 1, k' + 1, t :: r, out, out', h, hk => by
    rw [List.cons_append]
    unfold restF at h
    split at h
    · cases h
    · rename_i r' o' hd
      have hd' := defF_more (en' := en') (m := m) hd
      rw [List.cons_append] at hd'
      obtain ⟨k'', h1, h2⟩ := restF_more (k' := k') h (by omega)
      refine ⟨k'', h1, ?_⟩
      conv => lhs; unfold restF
      rw [hd']
      exact h2
theorem restF_bad (hm : Head m) : ∀ {k k' : Nat} {l : List Tok} {out : List Alt} {e : Int × Int}, restF en k l out = .error e → l.length ≤ k → ∃ e', restF en' k' (l ++ m) out = .error e'
  | k, k', [], out, e, h, _ => by cases k <;> cases h
  | 0, _, t :: r, _, _, _, h => absurd h (by simp)
  | k + 1, 0, t :: r, _, _, _, h => ⟨_, rfl⟩
  | k + 1, k' + 1, t :: r, out, e, h, hk => by
    rw [List.cons_append]
    unfold restF at h ⊢
    split at h
    · rename_i e1 he
      obtain ⟨e', he'⟩ := defF_bad (en' := en') hm (by simp) he
      rw [List.cons_append] at he'
      rw [he']
      exact ⟨_, rfl⟩
    · rename_i r' o' hd
      have hd' := defF_more (en' := en') (m := m) hd
      rw [List.cons_append] at hd'
      rw [hd']
      have := (defF_le hd).1
      rw [List.length_cons] at this hk
      exact restF_bad hm h (by omega)
end
theorem readF_twice_bad {en en' : Int} {d : Nat} {l : List Tok} {e : Int × Int} (h : readF en l = .error e) : ∃ e', readF en' (l ++ l.map (sh d)) = .error e' := by
  unfold readF at h ⊢
  cases l with
  | nil => exact ⟨_, rfl⟩
  | cons t r =>
    by_cases hk : t.kind = 1
    · cases r with
      | nil =>
        refine ⟨(12, (sh d t).pos), ?_⟩
        have : defF en' ([t] ++ List.map (sh d) [t]) [] = .error (12, (sh d t).pos) := by
          show defF en' [t, sh d t] [] = _
          rw [defF_two, if_pos hk, if_neg (by show ¬ t.kind = 3; omega)]
        rw [this]
      | cons t2 r2 =>
        by_cases hk2 : t2.kind = 3
        · have hm : Head ((t :: t2 :: r2).map (sh d)) := ⟨sh d t, sh d t2, r2.map (sh d), rfl, hk, hk2⟩
          split at h
          · rename_i e1 he
            obtain ⟨e', he'⟩ := defF_bad (en' := en') hm (by simp) he
            rw [he']
            exact ⟨_, rfl⟩
          · rename_i r' o' hd
            rw [defF_more (en' := en') hd]
            exact restF_bad hm h (Nat.le_refl _)
        · refine ⟨(12, t2.pos), ?_⟩
          have : defF en' (t :: t2 :: r2 ++ List.map (sh d) (t :: t2 :: r2)) [] = .error (12, t2.pos) := by
            show defF en' (t :: t2 :: (r2 ++ List.map (sh d) (t :: t2 :: r2))) [] = _
            rw [defF_two, if_pos hk, if_neg hk2]
          rw [this]
    · refine ⟨(12, t.pos), ?_⟩
      have : defF en' (t :: r ++ List.map (sh d) (t :: r)) [] = .error (12, t.pos) := by
        cases r with
        | nil =>
          show defF en' [t, sh d t] [] = _
          rw [defF_two, if_neg hk]
        | cons t2 r2 =>
          show defF en' (t :: t2 :: (r2 ++ List.map (sh d) (t :: t2 :: r2))) [] = _
          rw [defF_two, if_neg hk]
      rw [this]

/-! ### the same tokens further on -/
def shA (d : Nat) (a : Alt) : Alt := ⟨sh d a.left, a.right.map (sh d)⟩
/-- How many alternatives end. -/
def ends (l : List Tok) : Nat := l.countP fun t => decide (t.kind = 4 ∨ t.kind = 5)
theorem ends_cons (t : Tok) (l : List Tok) : ends (t :: l) = ends l + if t.kind = 4 ∨ t.kind = 5 then 1 else 0 := by
  unfold ends
  rw [List.countP_cons]
  simp only [decide_eq_true_eq]
section
variable {en en' : Int} {d : Nat}
theorem altF_sh : ∀ {l acc right r : List Tok} {more : Bool}, altF en l acc = .ok (right, more, r) → altF en' (l.map (sh d)) (acc.map (sh d)) = .ok (right.map (sh d), more, r.map (sh d)) ∧ ends l = 1 + ends r
  | [], _, _, _, _, h => by cases h
  | t :: l, acc, right, r, more, h => by
    rw [List.map_cons, ends_cons]
    unfold altF at h ⊢
    split at h
    · rename_i hk
      rw [if_pos (by exact hk), if_neg (by omega)]
      have := altF_sh h
      rw [List.map_append] at this
      exact this
    · rename_i hk
      rw [if_neg (by exact hk)]
      split at h
      · rename_i hk2
        rw [if_pos (by exact hk2), if_pos hk2]
        injection h with h; injection h with h1 h; injection h with h2 h3
        subst h1 h2 h3
        exact ⟨rfl, by omega⟩
      · cases h
theorem altsF_sh {left : Tok} : ∀ {k : Nat} {l r : List Tok} {out out' : List Alt}, altsF en left k l out = .ok (r, out') → ∃ new, out' = out ++ new ∧ ends l = new.length + ends r ∧
    ∀ k' out0, k ≤ k' → (out0.length + new.length ≤ 60 → altsF en' (sh d left) k' (l.map (sh d)) out0 = .ok (r.map (sh d), out0 ++ new.map (shA d))) ∧ (60 < out0.length + new.length → ∃ p, altsF en' (sh d left) k' (l.map (sh d)) out0 = .error (14, p))
  | 0, _, _, _, _, h => by cases h
  | k + 1, l, r, out, out', h => by
    unfold altsF at h
    split at h
    · cases h
    · rename_i right more r1 ha
      have hs := altF_sh (en' := en') (d := d) ha
      rw [List.map_nil] at hs
      split at h
      · cases h
      · rename_i hn
        split at h
        · rename_i hm
          obtain ⟨new, e1, e2, e3⟩ := altsF_sh h
          refine ⟨⟨left, right⟩ :: new, by rw [e1, List.append_assoc]; rfl, by rw [List.length_cons]; omega, fun k' out0 hk => ?_⟩
          cases k' with
          | zero => omega
          | succ k' =>
            unfold altsF
            rw [hs.1]
            dsimp only
            have e4 := e3 k' (out0 ++ [⟨sh d left, right.map (sh d)⟩]) (by omega)
            simp only [List.length_append, List.length_cons, List.length_nil] at e4 ⊢
            rw [if_pos hm]
            refine ⟨fun h60 => ?_, fun h60 => ?_⟩
            · rw [if_neg (by rw [List.length_map]; omega), e4.1 (by omega), List.append_assoc]
              rfl
            · split
              · exact ⟨_, rfl⟩
              · exact e4.2 (by omega)
        · rename_i hm
          injection h with h; injection h with h1 h2
          subst h1 h2
          refine ⟨[⟨left, right⟩], rfl, by simpa using hs.2, fun k' out0 hk => ?_⟩
          cases k' with
          | zero => omega
          | succ k' =>
            unfold altsF
            rw [hs.1]
            dsimp only
            rw [if_neg hm]
            simp only [List.length_cons, List.length_nil]
            refine ⟨fun h60 => ?_, fun h60 => ?_⟩
            · rw [if_neg (by rw [List.length_map]; omega)]; rfl
            · rw [if_pos (Or.inl (by omega))]; exact ⟨_, rfl⟩
theorem defF_sh {l r : List Tok} {out out' : List Alt} (h : defF en l out = .ok (r, out')) : ∃ new, out' = out ++ new ∧ ends l = new.length + ends r ∧
    ∀ out0, (out0.length + new.length ≤ 60 → defF en' (l.map (sh d)) out0 = .ok (r.map (sh d), out0 ++ new.map (shA d))) ∧ (60 < out0.length + new.length → ∃ p, defF en' (l.map (sh d)) out0 = .error (14, p)) := by
  cases l with
  | nil => cases h
  | cons t r1 =>
    cases r1 with
    | nil => rw [defF_one] at h; split at h <;> cases h
    | cons t2 r2 =>
      rw [defF_two] at h
      split at h
      · rename_i hk
        split at h
        · rename_i hk2
          obtain ⟨new, e1, e2, e3⟩ := altsF_sh (en' := en') (d := d) h
          refine ⟨new, e1, by rw [ends_cons, ends_cons, if_neg (by omega), if_neg (by omega)]; omega, fun out0 => ?_⟩
          have e4 := e3 ((r2.map (sh d)).length + 1) out0 (by rw [List.length_map]; omega)
          rw [List.map_cons, List.map_cons, defF_two, if_pos (show (sh d t).kind = 1 from hk), if_pos (show (sh d t2).kind = 3 from hk2)]
          exact e4
        · cases h
      · cases h
theorem restF_sh : ∀ {k : Nat} {l : List Tok} {out out' : List Alt}, restF en k l out = .ok out' → ∃ new, out' = out ++ new ∧ ends l = new.length ∧
    ∀ k' out0, l.length ≤ k' → (out0.length + new.length ≤ 60 → restF en' k' (l.map (sh d)) out0 = .ok (out0 ++ new.map (shA d))) ∧ (out0.length ≤ 60 → 60 < out0.length + new.length → ∃ p, restF en' k' (l.map (sh d)) out0 = .error (14, p))
  | k, [], out, out', h => by
    have h : out = out' := by cases k <;> (injection h)
    refine ⟨[], by rw [h, List.append_nil], rfl, fun k' out0 _ => ⟨fun _ => ?_, fun h1 h2 => ?_⟩⟩
    · rw [List.map_nil, List.map_nil, List.append_nil]; cases k' <;> rfl
    · simp only [List.length_nil] at h2; omega
  | 0, t :: r, out, out', h => by cases h
  | k + 1, t :: r, out, out', h => by
    unfold restF at h
    split at h
    · cases h
    · rename_i r' o' hd
      have hlt := (defF_le hd).1
      obtain ⟨n1, e1, c1, f1⟩ := defF_sh (en' := en') (d := d) hd
      obtain ⟨n2, e2, c2, f2⟩ := restF_sh h
      refine ⟨n1 ++ n2, by rw [e2, e1, List.append_assoc], by rw [List.length_append]; omega, fun k' out0 hk => ?_⟩
      cases k' with
      | zero => simp at hk
      | succ k' =>
        rw [List.length_cons] at hlt hk
        rw [List.map_cons] at f1 ⊢
        have g1 := f1 out0
        have g2 := f2 k' (out0 ++ n1.map (shA d)) (by omega)
        simp only [List.length_append, List.length_map] at g2 ⊢
        unfold restF
        refine ⟨fun h60 => ?_, fun h0 h60 => ?_⟩
        · rw [g1.1 (by omega)]
          dsimp only
          rw [g2.1 (by omega), List.append_assoc, List.map_append]
        · by_cases h1 : out0.length + n1.length ≤ 60
          · rw [g1.1 h1]
            exact g2.2 (by omega) (by omega)
          · obtain ⟨p, hp⟩ := g1.2 (by omega)
            rw [hp]
            exact ⟨p, rfl⟩
end
theorem readF_twice {en en' : Int} {d : Nat} {l : List Tok} {alts : List Alt} (h : readF en l = .ok alts) : ends l = alts.length ∧ (2 * alts.length ≤ 60 → readF en' (l ++ l.map (sh d)) = .ok (alts ++ alts.map (shA d))) ∧ (60 < 2 * alts.length → ∃ p, readF en' (l ++ l.map (sh d)) = .error (14, p)) := by
  have h60 := (readF_short h).2
  unfold readF at h ⊢
  split at h
  · cases h
  · rename_i r out hd
    rw [defF_more (en' := en') hd]
    dsimp only
    have hlt := (defF_le hd).1
    obtain ⟨k'', hk, hr⟩ := restF_more (en' := en') (m := l.map (sh d)) (k' := (r ++ l.map (sh d)).length) h (by rw [List.length_append]; omega)
    rw [hr]
    obtain ⟨n1, e1, c1, f1⟩ := defF_sh (en' := en') (d := d) hd
    obtain ⟨n2, e2, c2, f2⟩ := restF_sh (en' := en') (d := d) h
    rw [List.nil_append] at e1
    subst e1
    rw [List.length_map] at hk
    have e3 : alts.length = out.length + n2.length := by rw [e2, List.length_append]
    refine ⟨by omega, ?_⟩
    cases hl : l with
    | nil => rw [hl] at hd; cases hd
    | cons t r0 =>
      rw [hl] at f1 hk hlt
      rw [List.length_cons] at hk hlt
      cases k'' with
      | zero => omega
      | succ k'' =>
        rw [List.map_cons] at f1 ⊢
        have g1 := f1 alts
        have g2 := f2 k'' (alts ++ out.map (shA d)) (by omega)
        simp only [List.length_append, List.length_map] at g2
        unfold restF
        refine ⟨fun h1 => ?_, fun h1 => ?_⟩
        · rw [g1.1 (by omega)]
          dsimp only
          rw [g2.1 (by omega), List.append_assoc, ← List.map_append, ← e2]
        · by_cases h2 : alts.length + out.length ≤ 60
          · rw [g1.1 h2]
            exact g2.2 (by omega) (by omega)
          · obtain ⟨p, hp⟩ := g1.2 (by omega)
            rw [hp]
            exact ⟨p, rfl⟩

/-! ### the rules of alternatives that come twice -/
theorem gatherF_cons (a : Alt) (l : List Alt) (ts ns : List ByteArray) : gatherF (a :: l) ts ns = gatherF l (quotesF a.right ts) (addF ns a.left.text) := rfl
theorem rulesF_cons (ts ns : List ByteArray) (a : Alt) (l : List Alt) (acc : List Rule) : rulesF ts ns (a :: l) acc = (match numF ts ns a with | .error e => .error e | .ok x => rulesF ts ns l (pushF acc x)) := rfl
theorem gatherF_append : ∀ (l m : List Alt) (ts ns : List ByteArray), gatherF (l ++ m) ts ns = gatherF m (gatherF l ts ns).1 (gatherF l ts ns).2
  | [], m, ts, ns => rfl
  | a :: l, m, ts, ns => by
    rw [List.cons_append, gatherF_cons, gatherF_cons]
    exact gatherF_append l m _ _
theorem quotesF_old : ∀ {r : List Tok} {ts : List ByteArray}, (∀ t ∈ r, t.kind = 2 → t.text ∈ ts) → quotesF r ts = ts
  | [], ts, _ => rfl
  | t :: r, ts, h => by
    unfold quotesF
    split
    · rename_i hk
      rw [addF_old (h t List.mem_cons_self hk)]
      exact quotesF_old (fun x hx => h x (List.mem_cons_of_mem _ hx))
    · exact quotesF_old (fun x hx => h x (List.mem_cons_of_mem _ hx))
theorem gatherF_old : ∀ {l : List Alt} {ts ns : List ByteArray}, (∀ a ∈ l, a.left.text ∈ ns ∧ ∀ t ∈ a.right, t.kind = 2 → t.text ∈ ts) → gatherF l ts ns = (ts, ns)
  | [], ts, ns, _ => rfl
  | a :: l, ts, ns, h => by
    unfold gatherF
    have h0 := h a List.mem_cons_self
    rw [quotesF_old h0.2, addF_old h0.1]
    exact gatherF_old (fun x hx => h x (List.mem_cons_of_mem _ hx))
theorem gatherF_twice (d : Nat) (l : List Alt) : gatherF (l ++ l.map (shA d)) [] [] = gatherF l [] [] := by
  rw [gatherF_append]
  refine (gatherF_old ?_).trans rfl
  intro a ha
  obtain ⟨b, hb, rfl⟩ := List.mem_map.1 ha
  have h := gatherF_mem (ts := []) (ns := []) hb
  refine ⟨h.1, fun t ht hk => ?_⟩
  obtain ⟨x, hx, rfl⟩ := List.mem_map.1 ht
  exact h.2 x hx hk
theorem rightF_sh {ts ns : List ByteArray} {d : Nat} : ∀ {l : List Tok} {acc r : List Int}, rightF ts ns l acc = .ok r → rightF ts ns (l.map (sh d)) acc = .ok r
  | [], acc, r, h => h
  | t :: l, acc, r, h => by
    rw [List.map_cons]
    unfold rightF at h ⊢
    have hs : ∀ i, symF ts ns t = .ok i → symF ts ns (sh d t) = .ok i := by
      intro i hi
      unfold symF at hi ⊢
      show (if t.kind = 2 then _ else _) = _
      split at hi
      · rename_i hk; rw [if_pos hk]; exact hi
      · rename_i hk
        rw [if_neg hk]
        split at hi
        · cases hi
        · rename_i hn; rw [if_neg (by exact hn)]; exact hi
    split at h
    · cases h
    · rename_i i hi
      rw [hs i hi]
      exact rightF_sh h
theorem numF_sh {ts ns : List ByteArray} {d : Nat} {a : Alt} {x : Rule} (h : numF ts ns a = .ok x) : numF ts ns (shA d a) = .ok x := by
  unfold numF at h ⊢
  split at h
  · cases h
  · rename_i r hr
    rw [show (shA d a).right = a.right.map (sh d) from rfl, rightF_sh hr]
    exact h
theorem rulesF_append {ts ns : List ByteArray} : ∀ {l m : List Alt} {acc : List Rule}, rulesF ts ns (l ++ m) acc = (match rulesF ts ns l acc with | .error e => .error e | .ok rs => rulesF ts ns m rs)
  | [], m, acc => rfl
  | a :: l, m, acc => by
    rw [List.cons_append, rulesF_cons, rulesF_cons]
    cases numF ts ns a with
    | error e => rfl
    | ok x => exact rulesF_append
theorem rulesF_mem {ts ns : List ByteArray} : ∀ {l : List Alt} {acc rs : List Rule}, rulesF ts ns l acc = .ok rs → ∀ a ∈ l, ∃ x ∈ rs, numF ts ns a = .ok x
  | a :: l, acc, rs, h, b, hb => by
    unfold rulesF at h
    split at h
    · cases h
    · rename_i x hx
      rcases List.mem_cons.1 hb with rfl | hb
      · exact ⟨x, (rulesF_prefix h).subset pushF_mem, hx⟩
      · exact rulesF_mem h b hb
theorem rulesF_old {ts ns : List ByteArray} : ∀ {l : List Alt} {acc : List Rule}, (∀ a ∈ l, ∃ x ∈ acc, numF ts ns a = .ok x) → rulesF ts ns l acc = .ok acc
  | [], acc, _ => rfl
  | a :: l, acc, h => by
    obtain ⟨x, hx, he⟩ := h a List.mem_cons_self
    unfold rulesF
    rw [he]
    dsimp only
    rw [show pushF acc x = acc from by unfold pushF; rw [if_pos (List.any_eq_true.2 ⟨x, hx, by simp⟩)]]
    exact rulesF_old (fun y hy => h y (List.mem_cons_of_mem _ hy))
theorem grammF_twice (d : Nat) (alts : List Alt) : grammF (alts ++ alts.map (shA d)) = grammF alts := by
  unfold grammF
  rw [gatherF_twice, rulesF_append]
  cases hr : rulesF (gatherF alts [] []).1 (gatherF alts [] []).2 alts [] with
  | error e => rfl
  | ok rs =>
    dsimp only
    rw [rulesF_old]
    intro a ha
    obtain ⟨b, hb, rfl⟩ := List.mem_map.1 ha
    obtain ⟨x, hx, he⟩ := rulesF_mem hr b hb
    exact ⟨x, hx, numF_sh he⟩
/-- The plain law. -/
theorem again_bad {s : ByteArray} {e : Int × Int} (hs : s.size ≤ 900) (h : ofF s = .error e) : ∃ e', ofF (twice s) = .error e' := by
  unfold ofF at h ⊢
  rw [lexE_twice hs]
  split at h
  · rename_i e1 he; rw [he]; exact ⟨_, rfl⟩
  · rename_i l hl
    rw [hl]
    dsimp only
    split at h
    · rename_i e1 he
      obtain ⟨e', he'⟩ := readF_twice_bad (en' := ((twice s).size : Int)) (d := s.size + 1) he
      rw [he']
      exact ⟨_, rfl⟩
    · rename_i alts ha
      obtain ⟨_, h1, h2⟩ := readF_twice (en' := ((twice s).size : Int)) (d := s.size + 1) ha
      by_cases h60 : 2 * alts.length ≤ 60
      · rw [h1 h60]
        dsimp only
        rw [grammF_twice, h]
        exact ⟨_, rfl⟩
      · obtain ⟨p, hp⟩ := h2 (by omega)
        rw [hp]
        exact ⟨_, rfl⟩
theorem again_ok {s : ByteArray} {g : Gram} (hs : s.size ≤ 900) (h : ofF s = .ok g) : ∃ l, lexE s = .ok l ∧ (if 60 < 2 * ends l then ∃ p, ofF (twice s) = .error (14, p) else ofF (twice s) = .ok g) := by
  obtain ⟨l, alts, h1, h2, h3, _⟩ := ofF_ok h
  refine ⟨l, h1, ?_⟩
  obtain ⟨e1, e2, e3⟩ := readF_twice (en' := ((twice s).size : Int)) (d := s.size + 1) h2
  rw [e1]
  unfold ofF
  rw [lexE_twice hs, h1]
  dsimp only
  split
  · rename_i h60
    obtain ⟨p, hp⟩ := e3 h60
    rw [hp]
    exact ⟨p, rfl⟩
  · rename_i h60
    rw [e2 (by omega)]
    dsimp only
    rw [grammF_twice, h3]
end Go.Proofs.Ytphmmppmhphgeaa

/- The contract of keep.Grammar: two grammars are the same. -/
set_option linter.unusedVariables false
set_option linter.unusedSimpArgs false
namespace Go.Proofs.Ytphmmppmhphgeaa
open Go.RowKit Go.Proofs.YtphmmppmhphgeaaW.PrintWords Go.Proofs.YtphmmppmhphgeaaW.PrintLast

def sameF (g h : Gram) : Bool := decide (g.terms = h.terms) && decide (g.names = h.names) && decide (g.rules = h.rules)
structure GK (w W : World) (g h : Gram) (A1 A2 A3 B1 B2 B3 : Option Addr) (c1 c2 c3 d1 d2 d3 : Nat) : Prop where
  rg : RepG W g A1 A2 A3 c1 c2 c3
  rh : RepG W h B1 B2 B3 d1 d2 d3
  p : W.heap[w.heap.size]? = some (.cells #[.slice A1 g.terms.length c1, .slice A2 g.names.length c2, .slice A3 g.rules.length c3] 25 (0, 0))
  q : W.heap[w.heap.size + 1]? = some (.cells #[.slice B1 h.terms.length d1, .slice B2 h.names.length d2, .slice B3 h.rules.length d3] 25 (0, 0))
  b : Below w.heap.size w W
theorem GK.below_ {w W W1 : World} {g h : Gram} {A1 A2 A3 B1 B2 B3 : Option Addr} {c1 c2 c3 d1 d2 d3 : Nat} (k : GK w W g h A1 A2 A3 B1 B2 B3 c1 c2 c3 d1 d2 d3) (hb : Below W.heap.size W W1) : GK w W1 g h A1 A2 A3 B1 B2 B3 c1 c2 c3 d1 d2 d3 :=
  ⟨k.rg.below_ hb, k.rh.below_ hb, blk_below k.p hb, blk_below k.q hb, below_then k.b k.b.size hb⟩

set_option maxRecDepth 100000 in
set_option maxHeartbeats 4000000 in
theorem keepGrammar_c (g h : Gram) (A1 A2 A3 B1 B2 B3 : Option Addr) (c1 c2 c3 d1 d2 d3 : Nat) (w : World) (hg : RepG w g A1 A2 A3 c1 c2 c3) (hh : RepG w h B1 B2 B3 d1 d2 d3) :
    Calls Try.prog 22 #[.agg #[.slice A1 g.terms.length c1, .slice A2 g.names.length c2, .slice A3 g.rules.length c3], .agg #[.slice B1 h.terms.length d1, .slice B2 h.names.length d2, .slice B3 h.rules.length d3]] w fun e w' => e = .returned (.bool (sameF g h)) ∧ Below w.heap.size w w' := by
  have HK0 : Aside0 (GK w ((w.alloc (.cells #[.slice A1 g.terms.length c1, .slice A2 g.names.length c2, .slice A3 g.rules.length c3] 25 (0, 0))).alloc (.cells #[.slice B1 h.terms.length d1, .slice B2 h.names.length d2, .slice B3 h.rules.length d3] 25 (0, 0))) g h A1 A2 A3 B1 B2 B3 c1 c2 c3 d1 d2 d3) := ⟨by
    have hW : Below w.heap.size w ((w.alloc (.cells #[.slice A1 g.terms.length c1, .slice A2 g.names.length c2, .slice A3 g.rules.length c3] 25 (0, 0))).alloc (.cells #[.slice B1 h.terms.length d1, .slice B2 h.names.length d2, .slice B3 h.rules.length d3] 25 (0, 0))) := ((Below.refl w.heap.size w).alloc (Nat.le_refl _) _).alloc (by simp) _
    exact ⟨hg.below_ hW, hh.below_ hW, blk_alloc (blk_new w _) _, blk_two w _ _, hW⟩⟩
  have hm1 := C_max hg.rules
  have hm2 := C_max hh.rules
  clear hg hh
  cases ht : decide (g.terms = h.terms) with
  | false =>
    have HT := Lib.hid ht
    clear ht
    go_enter Try.func22, Try.ntmps22
    go_wp2_with (go_at_call 54; go_loud (refine (keepTexts_c _ _ _ _ _ _ _ _ _ HK0.out.rg.terms HK0.out.rh.terms).mono ?_; rw [HT.out]; rintro e w1 ⟨rfl, hb1⟩; have HK1 := Aside0.mk (HK0.out.below_ hb1); clear hb1; have a1 := blk_cell HK1.out.p 1; have a2 := blk_cell HK1.out.q 1; simp only [List.getElem?_toArray, List.getElem?_cons_zero, List.getElem?_cons_succ] at a1 a2))
    go_ret
    exact ⟨ret_bool (by unfold sameF; rw [HT.out]; rfl), HK1.out.b⟩
  | true =>
    have HT := Lib.hid ht
    clear ht
    cases hn : decide (g.names = h.names) with
    | false =>
      have HN := Lib.hid hn
      clear hn
      go_enter Try.func22, Try.ntmps22
      go_wp2_with (first | (have hx := HK1.out; go_at_call 54; go_loud (refine (keepTexts_c _ _ _ _ _ _ _ _ _ HK1.out.rg.names HK1.out.rh.names).mono ?_; rw [HN.out]; rintro e w2 ⟨rfl, hb2⟩; have HK2 := Aside0.mk (HK1.out.below_ hb2); clear hb2; have b1 := blk_cell HK2.out.p 2; have b2 := blk_cell HK2.out.q 2; simp only [List.getElem?_toArray, List.getElem?_cons_zero, List.getElem?_cons_succ] at b1 b2)) | (go_at_call 54; go_loud (refine (keepTexts_c _ _ _ _ _ _ _ _ _ HK0.out.rg.terms HK0.out.rh.terms).mono ?_; rw [HT.out]; rintro e w1 ⟨rfl, hb1⟩; have HK1 := Aside0.mk (HK0.out.below_ hb1); clear hb1; have a1 := blk_cell HK1.out.p 1; have a2 := blk_cell HK1.out.q 1; simp only [List.getElem?_toArray, List.getElem?_cons_zero, List.getElem?_cons_succ] at a1 a2)))
      go_ret
      exact ⟨ret_bool (by unfold sameF; rw [HT.out, HN.out]; rfl), HK2.out.b⟩
    | true =>
      have HN := Lib.hid hn
      clear hn
      by_cases hl : g.rules.length = h.rules.length
      · have HL := Lib.hid hl
        have hlb : ((g.rules.length : Int) != (h.rules.length : Int)) = false := by rw [hl]; simp
        clear hl
        go_enter Try.func22, Try.ntmps22
        go_wp2_with (first | (have hx := HK1.out; go_at_call 54; go_loud (refine (keepTexts_c _ _ _ _ _ _ _ _ _ HK1.out.rg.names HK1.out.rh.names).mono ?_; rw [HN.out]; rintro e w2 ⟨rfl, hb2⟩; have HK2 := Aside0.mk (HK1.out.below_ hb2); clear hb2; have b1 := blk_cell HK2.out.p 2; have b2 := blk_cell HK2.out.q 2; simp only [List.getElem?_toArray, List.getElem?_cons_zero, List.getElem?_cons_succ] at b1 b2)) | (go_at_call 54; go_loud (refine (keepTexts_c _ _ _ _ _ _ _ _ _ HK0.out.rg.terms HK0.out.rh.terms).mono ?_; rw [HT.out]; rintro e w1 ⟨rfl, hb1⟩; have HK1 := Aside0.mk (HK0.out.below_ hb1); clear hb1; have a1 := blk_cell HK1.out.p 1; have a2 := blk_cell HK1.out.q 1; simp only [List.getElem?_toArray, List.getElem?_cons_zero, List.getElem?_cons_succ] at a1 a2)))
        clear HK0 HK1 a1 a2 b1 b2
        go_loopw [5] (fun i wr => ∃ k : Nat, k ≤ g.rules.length ∧ i = .int .i64 k ∧ Aside0 (∀ j (hj : j < g.rules.length), j < k → g.rules[j] = h.rules[j]'(by have := HL.out; omega)) ∧ Aside0 (GK w wr g h A1 A2 A3 B1 B2 B3 c1 c2 c3 d1 d2 d3)) (fun i _ => g.rules.length - (intOf i).toNat)
        case atStart => exact ⟨0, Nat.zero_le _, rfl, ⟨fun j hj hjk => by omega⟩, HK2⟩
        case round =>
          clear HK2
          obtain ⟨k, hk, rfl, HJ, HK⟩ := hrel
          have q1 := blk_cell HK.out.p 2
          have q2 := blk_cell HK.out.q 2
          simp only [List.getElem?_toArray, List.getElem?_cons_zero, List.getElem?_cons_succ] at q1 q2
          by_cases hlt : k < g.rules.length
          · have hlt2 : k < h.rules.length := by have := HL.out; omega
            obtain ⟨ad, E1, e1, ead, hx1, hx2, _, hE1⟩ := at_rule HK.out.rg.rules k hlt
            obtain ⟨bd, F1, f1, ebd, hy1, hy2, _, hF1⟩ := at_rule HK.out.rh.rules k hlt2
            cases ead
            cases ebd
            obtain ⟨a, ha⟩ : ∃ a, a = g.rules[k]'hlt := ⟨_, rfl⟩
            obtain ⟨b, hb⟩ : ∃ b, b = h.rules[k]'hlt2 := ⟨_, rfl⟩
            rw [← ha] at hx1 hx2 hE1
            rw [← hb] at hy1 hy2 hF1
            have HAB := Aside0.mk (And.intro ha hb)
            clear ha hb
            obtain ⟨al, ar⟩ := a
            obtain ⟨bl, br⟩ := b
            dsimp only at hx1 hx2 hE1 hy1 hy2 hF1
            have HE1 := Aside0.mk hE1
            have HF1 := Aside0.mk hF1
            clear hE1 hF1
            have i1 : (0 : Int) ≤ (k : Int) := by omega
            have i2 : (k : Int) < (g.rules.length : Int) := by omega
            have i3 : (k : Int) < (h.rules.length : Int) := by omega
            by_cases hab : al = bl
            · have dab : (al != bl) = false := by simp [hab]
              cases hi : decide (ar = br) with
              | true =>
                have HI := Lib.hid hi
                have HAL := Aside0.mk hab
                clear hab hi
                go_wp2
                refine start_ (n := 29) (S := fun w' => w'.heap[w.heap.size]? = some (.cells #[.slice A1 g.terms.length c1, .slice A2 g.names.length c2, .slice (some ad) g.rules.length c3] 25 (0, 0)) ∧ w'.heap[w.heap.size + 1]? = some (.cells #[.slice B1 h.terms.length d1, .slice B2 h.names.length d2, .slice (some bd) h.rules.length d3] 25 (0, 0)) ∧ w'.cell? (ad.add (k * 2)) = some (.int .i64 al) ∧ w'.cell? ⟨(ad.add (k * 2)).block, (ad.add (k * 2)).off + 1, none⟩ = some (.slice E1 ar.length e1) ∧ w'.cell? (bd.add (k * 2)) = some (.int .i64 bl) ∧ w'.cell? ⟨(bd.add (k * 2)).block, (bd.add (k * 2)).off + 1, none⟩ = some (.slice F1 br.length f1)) (ds := [26]) #[false, false, false, false, false, false, false, false, false, false, false, false, false, false, false, false, false, false, false, false, false, false, false, false, false, false, false, false, false] (by kernel_rfl) rfl rfl (⟨blk_drew HK.out.p, blk_drew HK.out.q, hx1, hx2, hy1, hy2⟩) (fun hHeld => ?_)
                refine pure_ (i := 0) (N := (some 36)) (v := ?_) (a' := ?_) #[true, false, false, false, false, false, false, false, false, false, false, false, false, false, false, false, false, false, false, false, false, false, false, false, false, false, false, false, false] rfl rfl (by kernel_rfl) (fun _ _ _ h => h) (Or.inl ⟨by rfl, ?_⟩) ?_ ?_
                rotate_left
                · (intro w'; go_simp; with_reducible rfl)
                rotate_left
                · (simp only [Act.put, List.setIfInBounds_toArray, List.set_cons_zero, List.set_cons_succ]; rfl)
                refine pure_ (i := 2) (N := (some 38)) (v := ?_) (a' := ?_) #[true, false, true, false, false, false, false, false, false, false, false, false, false, false, false, false, false, false, false, false, false, false, false, false, false, false, false, false, false] rfl rfl (by kernel_rfl) (fun _ _ _ h => h) (Or.inl ⟨by rfl, ?_⟩) ?_ ?_
                rotate_left
                · (intro w'; go_simp; with_reducible rfl)
                rotate_left
                · (simp only [Act.put, List.setIfInBounds_toArray, List.set_cons_zero, List.set_cons_succ]; rfl)
                refine pure_ (i := 6) (N := (some 42)) (v := ?_) (a' := ?_) #[true, false, true, false, false, false, true, false, false, false, false, false, false, false, false, false, false, false, false, false, false, false, false, false, false, false, false, false, false] rfl rfl (by kernel_rfl) (fun _ _ _ h => h) (Or.inl ⟨by rfl, ?_⟩) ?_ ?_
                rotate_left
                · (intro w'; go_simp; with_reducible rfl)
                rotate_left
                · (simp only [Act.put, List.setIfInBounds_toArray, List.set_cons_zero, List.set_cons_succ]; rfl)
                refine pure_ (i := 8) (N := (some 44)) (v := ?_) (a' := ?_) #[true, false, true, false, false, false, true, false, true, false, false, false, false, false, false, false, false, false, false, false, false, false, false, false, false, false, false, false, false] rfl rfl (by kernel_rfl) (fun _ _ _ h => h) (Or.inl ⟨by rfl, ?_⟩) ?_ ?_
                rotate_left
                · (intro w'; go_simp; with_reducible rfl)
                rotate_left
                · (simp only [Act.put, List.setIfInBounds_toArray, List.set_cons_zero, List.set_cons_succ]; rfl)
                refine take_ (i := 1) (N := (some 37)) (v := ?_) (a' := ?_) #[true, true, true, false, false, false, true, false, true, false, false, false, false, false, false, false, false, false, false, false, false, false, false, false, false, false, false, false, false] rfl rfl (by kernel_rfl) (fun _ _ _ h => h) (Or.inl ⟨by rfl, ?_⟩) hHeld ?_ ?_
                rotate_left
                · (rintro w' ⟨s0, s1, s2, s3, s4, s5⟩; have z0 := blk_cell s0 2; have z1 := blk_cell s1 2; simp only [List.getElem?_toArray, List.getElem?_cons_zero, List.getElem?_cons_succ] at z0 z1; go_simp; with_reducible rfl)
                rotate_left
                · (simp only [Act.put, List.setIfInBounds_toArray, List.set_cons_zero, List.set_cons_succ]; rfl)
                refine pure_ (i := 3) (N := (some 39)) (v := ?_) (a' := ?_) #[true, true, true, true, false, false, true, false, true, false, false, false, false, false, false, false, false, false, false, false, false, false, false, false, false, false, false, false, false] rfl rfl (by kernel_rfl) (fun _ _ _ h => h) (Or.inl ⟨by rfl, ?_⟩) ?_ ?_
                rotate_left
                · (intro w'; go_simp; with_reducible rfl)
                rotate_left
                · (simp only [Act.put, List.setIfInBounds_toArray, List.set_cons_zero, List.set_cons_succ]; rfl)
                refine pure_ (i := 4) (N := (some 40)) (v := ?_) (a' := ?_) #[true, true, true, true, true, false, true, false, true, false, false, false, false, false, false, false, false, false, false, false, false, false, false, false, false, false, false, false, false] rfl rfl (by kernel_rfl) (fun _ _ _ h => h) (Or.inl ⟨by rfl, ?_⟩) ?_ ?_
                rotate_left
                · (intro w'; go_simp; with_reducible rfl)
                rotate_left
                · (simp only [Act.put, List.setIfInBounds_toArray, List.set_cons_zero, List.set_cons_succ]; rfl)
                refine take_ (i := 5) (N := (some 41)) (v := ?_) (a' := ?_) #[true, true, true, true, true, true, true, false, true, false, false, false, false, false, false, false, false, false, false, false, false, false, false, false, false, false, false, false, false] rfl rfl (by kernel_rfl) (fun _ _ _ h => h) (Or.inl ⟨by rfl, ?_⟩) hHeld ?_ ?_
                rotate_left
                · (rintro w' ⟨s0, s1, s2, s3, s4, s5⟩; have z0 := blk_cell s0 2; have z1 := blk_cell s1 2; simp only [List.getElem?_toArray, List.getElem?_cons_zero, List.getElem?_cons_succ] at z0 z1; go_simp; with_reducible rfl)
                rotate_left
                · (simp only [Act.put, List.setIfInBounds_toArray, List.set_cons_zero, List.set_cons_succ]; rfl)
                refine take_ (i := 7) (N := (some 43)) (v := ?_) (a' := ?_) #[true, true, true, true, true, true, true, true, true, false, false, false, false, false, false, false, false, false, false, false, false, false, false, false, false, false, false, false, false] rfl rfl (by kernel_rfl) (fun _ _ _ h => h) (Or.inl ⟨by rfl, ?_⟩) hHeld ?_ ?_
                rotate_left
                · (rintro w' ⟨s0, s1, s2, s3, s4, s5⟩; have z0 := blk_cell s0 2; have z1 := blk_cell s1 2; simp only [List.getElem?_toArray, List.getElem?_cons_zero, List.getElem?_cons_succ] at z0 z1; go_simp; with_reducible rfl)
                rotate_left
                · (simp only [Act.put, List.setIfInBounds_toArray, List.set_cons_zero, List.set_cons_succ]; rfl)
                refine pure_ (i := 9) (N := (some 45)) (v := ?_) (a' := ?_) #[true, true, true, true, true, true, true, true, true, true, false, false, false, false, false, false, false, false, false, false, false, false, false, false, false, false, false, false, false] rfl rfl (by kernel_rfl) (fun _ _ _ h => h) (Or.inl ⟨by rfl, ?_⟩) ?_ ?_
                rotate_left
                · (intro w'; go_simp; with_reducible rfl)
                rotate_left
                · (simp only [Act.put, List.setIfInBounds_toArray, List.set_cons_zero, List.set_cons_succ]; rfl)
                refine pure_ (i := 10) (N := (some 46)) (v := ?_) (a' := ?_) #[true, true, true, true, true, true, true, true, true, true, true, false, false, false, false, false, false, false, false, false, false, false, false, false, false, false, false, false, false] rfl rfl (by kernel_rfl) (fun _ _ _ h => h) (Or.inl ⟨by rfl, ?_⟩) ?_ ?_
                rotate_left
                · (intro w'; go_simp; with_reducible rfl)
                rotate_left
                · (simp only [Act.put, List.setIfInBounds_toArray, List.set_cons_zero, List.set_cons_succ]; rfl)
                refine take_ (i := 11) (N := (some 47)) (v := ?_) (a' := ?_) #[true, true, true, true, true, true, true, true, true, true, true, true, false, false, false, false, false, false, false, false, false, false, false, false, false, false, false, false, false] rfl rfl (by kernel_rfl) (fun _ _ _ h => h) (Or.inl ⟨by rfl, ?_⟩) hHeld ?_ ?_
                rotate_left
                · (rintro w' ⟨s0, s1, s2, s3, s4, s5⟩; have z0 := blk_cell s0 2; have z1 := blk_cell s1 2; simp only [List.getElem?_toArray, List.getElem?_cons_zero, List.getElem?_cons_succ] at z0 z1; go_simp; with_reducible rfl)
                rotate_left
                · (simp only [Act.put, List.setIfInBounds_toArray, List.set_cons_zero, List.set_cons_succ]; rfl)
                refine pure_ (i := 12) (N := (some 48)) (v := ?_) (a' := ?_) #[true, true, true, true, true, true, true, true, true, true, true, true, true, false, false, false, false, false, false, false, false, false, false, false, false, false, false, false, false] rfl rfl (by kernel_rfl) (fun _ _ _ h => h) (Or.inl ⟨by rfl, ?_⟩) ?_ ?_
                rotate_left
                · (intro w'; go_simp; with_reducible rfl)
                rotate_left
                · (simp only [Act.put, List.setIfInBounds_toArray, List.set_cons_zero, List.set_cons_succ]; rfl)
                refine pure_ (i := 13) (N := (some 49)) (v := ?_) (a' := ?_) #[true, true, true, true, true, true, true, true, true, true, true, true, true, true, false, false, false, false, false, false, false, false, false, false, false, false, false, false, false] rfl rfl (by kernel_rfl) (fun _ _ _ h => h) (Or.inl ⟨by rfl, ?_⟩) ?_ ?_
                rotate_left
                · (intro w'; go_simp; with_reducible rfl)
                rotate_left
                · (simp only [Act.put, List.setIfInBounds_toArray, List.set_cons_zero, List.set_cons_succ]; rfl)
                refine pure_ (i := 14) (N := (some 50)) (v := ?_) (a' := ?_) #[true, true, true, true, true, true, true, true, true, true, true, true, true, true, true, false, false, false, false, false, false, false, false, false, false, false, false, false, false] rfl rfl (by kernel_rfl) (fun _ _ _ h => h) (Or.inl ⟨by rfl, ?_⟩) ?_ ?_
                rotate_left
                · (intro w'; go_simp; with_reducible rfl)
                rotate_left
                · (simp only [Act.put, List.setIfInBounds_toArray, List.set_cons_zero, List.set_cons_succ]; rfl)
                refine pure_ (i := 16) (N := (some 52)) (v := ?_) (a' := ?_) #[true, true, true, true, true, true, true, true, true, true, true, true, true, true, true, false, true, false, false, false, false, false, false, false, false, false, false, false, false] rfl rfl (by kernel_rfl) (fun _ _ _ h => h) (Or.inl ⟨by rfl, ?_⟩) ?_ ?_
                rotate_left
                · (intro w'; go_simp; with_reducible rfl)
                rotate_left
                · (simp only [Act.put, List.setIfInBounds_toArray, List.set_cons_zero, List.set_cons_succ]; rfl)
                refine pure_ (i := 20) (N := (some 56)) (v := ?_) (a' := ?_) #[true, true, true, true, true, true, true, true, true, true, true, true, true, true, true, false, true, false, false, false, true, false, false, false, false, false, false, false, false] rfl rfl (by kernel_rfl) (fun _ _ _ h => h) (Or.inl ⟨by rfl, ?_⟩) ?_ ?_
                rotate_left
                · (intro w'; go_simp; with_reducible rfl)
                rotate_left
                · (simp only [Act.put, List.setIfInBounds_toArray, List.set_cons_zero, List.set_cons_succ]; rfl)
                refine pure_ (i := 22) (N := (some 58)) (v := ?_) (a' := ?_) #[true, true, true, true, true, true, true, true, true, true, true, true, true, true, true, false, true, false, false, false, true, false, true, false, false, false, false, false, false] rfl rfl (by kernel_rfl) (fun _ _ _ h => h) (Or.inl ⟨by rfl, ?_⟩) ?_ ?_
                rotate_left
                · (intro w'; go_simp; with_reducible rfl)
                rotate_left
                · (simp only [Act.put, List.setIfInBounds_toArray, List.set_cons_zero, List.set_cons_succ]; rfl)
                refine take_ (i := 15) (N := (some 51)) (v := ?_) (a' := ?_) #[true, true, true, true, true, true, true, true, true, true, true, true, true, true, true, true, true, false, false, false, true, false, true, false, false, false, false, false, false] rfl rfl (by kernel_rfl) (fun _ _ _ h => h) (Or.inl ⟨by rfl, ?_⟩) hHeld ?_ ?_
                rotate_left
                · (rintro w' ⟨s0, s1, s2, s3, s4, s5⟩; have z0 := blk_cell s0 2; have z1 := blk_cell s1 2; simp only [List.getElem?_toArray, List.getElem?_cons_zero, List.getElem?_cons_succ] at z0 z1; go_simp; with_reducible rfl)
                rotate_left
                · (simp only [Act.put, List.setIfInBounds_toArray, List.set_cons_zero, List.set_cons_succ]; rfl)
                refine pure_ (i := 17) (N := (some 53)) (v := ?_) (a' := ?_) #[true, true, true, true, true, true, true, true, true, true, true, true, true, true, true, true, true, true, false, false, true, false, true, false, false, false, false, false, false] rfl rfl (by kernel_rfl) (fun _ _ _ h => h) (Or.inl ⟨by rfl, ?_⟩) ?_ ?_
                rotate_left
                · (intro w'; go_simp; with_reducible rfl)
                rotate_left
                · (simp only [Act.put, List.setIfInBounds_toArray, List.set_cons_zero, List.set_cons_succ]; rfl)
                refine pure_ (i := 18) (N := (some 54)) (v := ?_) (a' := ?_) #[true, true, true, true, true, true, true, true, true, true, true, true, true, true, true, true, true, true, true, false, true, false, true, false, false, false, false, false, false] rfl rfl (by kernel_rfl) (fun _ _ _ h => h) (Or.inl ⟨by rfl, ?_⟩) ?_ ?_
                rotate_left
                · (intro w'; go_simp; with_reducible rfl)
                rotate_left
                · (simp only [Act.put, List.setIfInBounds_toArray, List.set_cons_zero, List.set_cons_succ]; rfl)
                refine take_ (i := 19) (N := (some 55)) (v := ?_) (a' := ?_) #[true, true, true, true, true, true, true, true, true, true, true, true, true, true, true, true, true, true, true, true, true, false, true, false, false, false, false, false, false] rfl rfl (by kernel_rfl) (fun _ _ _ h => h) (Or.inl ⟨by rfl, ?_⟩) hHeld ?_ ?_
                rotate_left
                · (rintro w' ⟨s0, s1, s2, s3, s4, s5⟩; have z0 := blk_cell s0 2; have z1 := blk_cell s1 2; simp only [List.getElem?_toArray, List.getElem?_cons_zero, List.getElem?_cons_succ] at z0 z1; go_simp; with_reducible rfl)
                rotate_left
                · (simp only [Act.put, List.setIfInBounds_toArray, List.set_cons_zero, List.set_cons_succ]; rfl)
                refine take_ (i := 21) (N := (some 57)) (v := ?_) (a' := ?_) #[true, true, true, true, true, true, true, true, true, true, true, true, true, true, true, true, true, true, true, true, true, true, true, false, false, false, false, false, false] rfl rfl (by kernel_rfl) (fun _ _ _ h => h) (Or.inl ⟨by rfl, ?_⟩) hHeld ?_ ?_
                rotate_left
                · (rintro w' ⟨s0, s1, s2, s3, s4, s5⟩; have z0 := blk_cell s0 2; have z1 := blk_cell s1 2; simp only [List.getElem?_toArray, List.getElem?_cons_zero, List.getElem?_cons_succ] at z0 z1; go_simp; with_reducible rfl)
                rotate_left
                · (simp only [Act.put, List.setIfInBounds_toArray, List.set_cons_zero, List.set_cons_succ]; rfl)
                refine pure_ (i := 23) (N := (some 59)) (v := ?_) (a' := ?_) #[true, true, true, true, true, true, true, true, true, true, true, true, true, true, true, true, true, true, true, true, true, true, true, true, false, false, false, false, false] rfl rfl (by kernel_rfl) (fun _ _ _ h => h) (Or.inl ⟨by rfl, ?_⟩) ?_ ?_
                rotate_left
                · (intro w'; go_simp; with_reducible rfl)
                rotate_left
                · (simp only [Act.put, List.setIfInBounds_toArray, List.set_cons_zero, List.set_cons_succ]; rfl)
                refine pure_ (i := 24) (N := (some 60)) (v := ?_) (a' := ?_) #[true, true, true, true, true, true, true, true, true, true, true, true, true, true, true, true, true, true, true, true, true, true, true, true, true, false, false, false, false] rfl rfl (by kernel_rfl) (fun _ _ _ h => h) (Or.inl ⟨by rfl, ?_⟩) ?_ ?_
                rotate_left
                · (intro w'; go_simp; with_reducible rfl)
                rotate_left
                · (simp only [Act.put, List.setIfInBounds_toArray, List.set_cons_zero, List.set_cons_succ]; rfl)
                refine take_ (i := 25) (N := (some 61)) (v := ?_) (a' := ?_) #[true, true, true, true, true, true, true, true, true, true, true, true, true, true, true, true, true, true, true, true, true, true, true, true, true, true, false, false, false] rfl rfl (by kernel_rfl) (fun _ _ _ h => h) (Or.inl ⟨by rfl, ?_⟩) hHeld ?_ ?_
                rotate_left
                · (rintro w' ⟨s0, s1, s2, s3, s4, s5⟩; have z0 := blk_cell s0 2; have z1 := blk_cell s1 2; simp only [List.getElem?_toArray, List.getElem?_cons_zero, List.getElem?_cons_succ] at z0 z1; go_simp; with_reducible rfl)
                rotate_left
                · (simp only [Act.put, List.setIfInBounds_toArray, List.set_cons_zero, List.set_cons_succ]; rfl)
                refine last_ (i := 26) (N := (some 62)) #[true, true, true, true, true, true, true, true, true, true, true, true, true, true, true, true, true, true, true, true, true, true, true, true, true, true, true, false, false] rfl rfl (by kernel_rfl) (by decide) (fun K hK => ?_)
                (refine goes_ Try.func36 (by kernel_rfl) rfl #[.slice E1 ar.length e1, .slice F1 br.length f1] (by rfl) rfl rfl (by simp [Act.eval]) ?_; refine (keepInts_c _ _ _ _ _ _ _ _ _ (Kd.C_below HE1.out (below_drew1 (Below.refl _ _))) (Kd.C_below HF1.out (below_drew1 (Below.refl _ _)))).mono ?_; rw [HI.out]; rintro e w5 ⟨rfl, hb5⟩; refine ⟨_, rfl, ?_⟩; have HK5 := Aside0.mk ((HK.out.below_ (below_drew1 (Below.refl _ _))).below_ hb5); clear hb5)
                refine hK.out _ _ ?_
                clear hK K
                refine norm_ (a' := ?_) ?_ ?_
                rotate_left
                · (show Act.put _ (some 62) _ = _; simp only [Act.put, List.setIfInBounds_toArray, List.set_cons_zero, List.set_cons_succ]; rfl)
                refine pure_ (i := 27) (N := (some 63)) (v := ?_) (a' := ?_) #[true, true, true, true, true, true, true, true, true, true, true, true, true, true, true, true, true, true, true, true, true, true, true, true, true, true, true, true, false] rfl rfl (by kernel_rfl) (fun _ _ _ h => h) (Or.inl ⟨by rfl, ?_⟩) ?_ ?_
                rotate_left
                · (intro w'; go_simp; with_reducible rfl)
                rotate_left
                · (simp only [Act.put, List.setIfInBounds_toArray, List.set_cons_zero, List.set_cons_succ]; rfl)
                refine pure_ (i := 28) (N := (some 64)) (v := ?_) (a' := ?_) #[true, true, true, true, true, true, true, true, true, true, true, true, true, true, true, true, true, true, true, true, true, true, true, true, true, true, true, true, true] rfl rfl (by kernel_rfl) (fun _ _ _ h => h) (Or.inl ⟨by rfl, ?_⟩) ?_ ?_
                rotate_left
                · (intro w'; go_simp; with_reducible rfl)
                rotate_left
                · (simp only [Act.put, List.setIfInBounds_toArray, List.set_cons_zero, List.set_cons_succ]; rfl)
                refine done_ (by kernel_rfl) ?_
                go_wp2
                go_roundw
                case rel => exact ⟨k + 1, by omega, by go_num, ⟨fun j hj hjk => by
                  rcases Nat.lt_or_ge j k with h2 | h2
                  · exact HJ.out j hj h2
                  · obtain rfl : j = k := by omega
                    rw [← HAB.out.1, ← HAB.out.2, HAL.out, of_decide_eq_true HI.out]⟩, HK5⟩
                case measure => simp [intOf]; omega
              | false =>
                have HI := Lib.hid hi
                have HAL := Aside0.mk hab
                clear hab hi
                go_wp2
                refine start_ (n := 29) (S := fun w' => w'.heap[w.heap.size]? = some (.cells #[.slice A1 g.terms.length c1, .slice A2 g.names.length c2, .slice (some ad) g.rules.length c3] 25 (0, 0)) ∧ w'.heap[w.heap.size + 1]? = some (.cells #[.slice B1 h.terms.length d1, .slice B2 h.names.length d2, .slice (some bd) h.rules.length d3] 25 (0, 0)) ∧ w'.cell? (ad.add (k * 2)) = some (.int .i64 al) ∧ w'.cell? ⟨(ad.add (k * 2)).block, (ad.add (k * 2)).off + 1, none⟩ = some (.slice E1 ar.length e1) ∧ w'.cell? (bd.add (k * 2)) = some (.int .i64 bl) ∧ w'.cell? ⟨(bd.add (k * 2)).block, (bd.add (k * 2)).off + 1, none⟩ = some (.slice F1 br.length f1)) (ds := [26]) #[false, false, false, false, false, false, false, false, false, false, false, false, false, false, false, false, false, false, false, false, false, false, false, false, false, false, false, false, false] (by kernel_rfl) rfl rfl (⟨blk_drew HK.out.p, blk_drew HK.out.q, hx1, hx2, hy1, hy2⟩) (fun hHeld => ?_)
                refine pure_ (i := 0) (N := (some 36)) (v := ?_) (a' := ?_) #[true, false, false, false, false, false, false, false, false, false, false, false, false, false, false, false, false, false, false, false, false, false, false, false, false, false, false, false, false] rfl rfl (by kernel_rfl) (fun _ _ _ h => h) (Or.inl ⟨by rfl, ?_⟩) ?_ ?_
                rotate_left
                · (intro w'; go_simp; with_reducible rfl)
                rotate_left
                · (simp only [Act.put, List.setIfInBounds_toArray, List.set_cons_zero, List.set_cons_succ]; rfl)
                refine pure_ (i := 2) (N := (some 38)) (v := ?_) (a' := ?_) #[true, false, true, false, false, false, false, false, false, false, false, false, false, false, false, false, false, false, false, false, false, false, false, false, false, false, false, false, false] rfl rfl (by kernel_rfl) (fun _ _ _ h => h) (Or.inl ⟨by rfl, ?_⟩) ?_ ?_
                rotate_left
                · (intro w'; go_simp; with_reducible rfl)
                rotate_left
                · (simp only [Act.put, List.setIfInBounds_toArray, List.set_cons_zero, List.set_cons_succ]; rfl)
                refine pure_ (i := 6) (N := (some 42)) (v := ?_) (a' := ?_) #[true, false, true, false, false, false, true, false, false, false, false, false, false, false, false, false, false, false, false, false, false, false, false, false, false, false, false, false, false] rfl rfl (by kernel_rfl) (fun _ _ _ h => h) (Or.inl ⟨by rfl, ?_⟩) ?_ ?_
                rotate_left
                · (intro w'; go_simp; with_reducible rfl)
                rotate_left
                · (simp only [Act.put, List.setIfInBounds_toArray, List.set_cons_zero, List.set_cons_succ]; rfl)
                refine pure_ (i := 8) (N := (some 44)) (v := ?_) (a' := ?_) #[true, false, true, false, false, false, true, false, true, false, false, false, false, false, false, false, false, false, false, false, false, false, false, false, false, false, false, false, false] rfl rfl (by kernel_rfl) (fun _ _ _ h => h) (Or.inl ⟨by rfl, ?_⟩) ?_ ?_
                rotate_left
                · (intro w'; go_simp; with_reducible rfl)
                rotate_left
                · (simp only [Act.put, List.setIfInBounds_toArray, List.set_cons_zero, List.set_cons_succ]; rfl)
                refine take_ (i := 1) (N := (some 37)) (v := ?_) (a' := ?_) #[true, true, true, false, false, false, true, false, true, false, false, false, false, false, false, false, false, false, false, false, false, false, false, false, false, false, false, false, false] rfl rfl (by kernel_rfl) (fun _ _ _ h => h) (Or.inl ⟨by rfl, ?_⟩) hHeld ?_ ?_
                rotate_left
                · (rintro w' ⟨s0, s1, s2, s3, s4, s5⟩; have z0 := blk_cell s0 2; have z1 := blk_cell s1 2; simp only [List.getElem?_toArray, List.getElem?_cons_zero, List.getElem?_cons_succ] at z0 z1; go_simp; with_reducible rfl)
                rotate_left
                · (simp only [Act.put, List.setIfInBounds_toArray, List.set_cons_zero, List.set_cons_succ]; rfl)
                refine pure_ (i := 3) (N := (some 39)) (v := ?_) (a' := ?_) #[true, true, true, true, false, false, true, false, true, false, false, false, false, false, false, false, false, false, false, false, false, false, false, false, false, false, false, false, false] rfl rfl (by kernel_rfl) (fun _ _ _ h => h) (Or.inl ⟨by rfl, ?_⟩) ?_ ?_
                rotate_left
                · (intro w'; go_simp; with_reducible rfl)
                rotate_left
                · (simp only [Act.put, List.setIfInBounds_toArray, List.set_cons_zero, List.set_cons_succ]; rfl)
                refine pure_ (i := 4) (N := (some 40)) (v := ?_) (a' := ?_) #[true, true, true, true, true, false, true, false, true, false, false, false, false, false, false, false, false, false, false, false, false, false, false, false, false, false, false, false, false] rfl rfl (by kernel_rfl) (fun _ _ _ h => h) (Or.inl ⟨by rfl, ?_⟩) ?_ ?_
                rotate_left
                · (intro w'; go_simp; with_reducible rfl)
                rotate_left
                · (simp only [Act.put, List.setIfInBounds_toArray, List.set_cons_zero, List.set_cons_succ]; rfl)
                refine take_ (i := 5) (N := (some 41)) (v := ?_) (a' := ?_) #[true, true, true, true, true, true, true, false, true, false, false, false, false, false, false, false, false, false, false, false, false, false, false, false, false, false, false, false, false] rfl rfl (by kernel_rfl) (fun _ _ _ h => h) (Or.inl ⟨by rfl, ?_⟩) hHeld ?_ ?_
                rotate_left
                · (rintro w' ⟨s0, s1, s2, s3, s4, s5⟩; have z0 := blk_cell s0 2; have z1 := blk_cell s1 2; simp only [List.getElem?_toArray, List.getElem?_cons_zero, List.getElem?_cons_succ] at z0 z1; go_simp; with_reducible rfl)
                rotate_left
                · (simp only [Act.put, List.setIfInBounds_toArray, List.set_cons_zero, List.set_cons_succ]; rfl)
                refine take_ (i := 7) (N := (some 43)) (v := ?_) (a' := ?_) #[true, true, true, true, true, true, true, true, true, false, false, false, false, false, false, false, false, false, false, false, false, false, false, false, false, false, false, false, false] rfl rfl (by kernel_rfl) (fun _ _ _ h => h) (Or.inl ⟨by rfl, ?_⟩) hHeld ?_ ?_
                rotate_left
                · (rintro w' ⟨s0, s1, s2, s3, s4, s5⟩; have z0 := blk_cell s0 2; have z1 := blk_cell s1 2; simp only [List.getElem?_toArray, List.getElem?_cons_zero, List.getElem?_cons_succ] at z0 z1; go_simp; with_reducible rfl)
                rotate_left
                · (simp only [Act.put, List.setIfInBounds_toArray, List.set_cons_zero, List.set_cons_succ]; rfl)
                refine pure_ (i := 9) (N := (some 45)) (v := ?_) (a' := ?_) #[true, true, true, true, true, true, true, true, true, true, false, false, false, false, false, false, false, false, false, false, false, false, false, false, false, false, false, false, false] rfl rfl (by kernel_rfl) (fun _ _ _ h => h) (Or.inl ⟨by rfl, ?_⟩) ?_ ?_
                rotate_left
                · (intro w'; go_simp; with_reducible rfl)
                rotate_left
                · (simp only [Act.put, List.setIfInBounds_toArray, List.set_cons_zero, List.set_cons_succ]; rfl)
                refine pure_ (i := 10) (N := (some 46)) (v := ?_) (a' := ?_) #[true, true, true, true, true, true, true, true, true, true, true, false, false, false, false, false, false, false, false, false, false, false, false, false, false, false, false, false, false] rfl rfl (by kernel_rfl) (fun _ _ _ h => h) (Or.inl ⟨by rfl, ?_⟩) ?_ ?_
                rotate_left
                · (intro w'; go_simp; with_reducible rfl)
                rotate_left
                · (simp only [Act.put, List.setIfInBounds_toArray, List.set_cons_zero, List.set_cons_succ]; rfl)
                refine take_ (i := 11) (N := (some 47)) (v := ?_) (a' := ?_) #[true, true, true, true, true, true, true, true, true, true, true, true, false, false, false, false, false, false, false, false, false, false, false, false, false, false, false, false, false] rfl rfl (by kernel_rfl) (fun _ _ _ h => h) (Or.inl ⟨by rfl, ?_⟩) hHeld ?_ ?_
                rotate_left
                · (rintro w' ⟨s0, s1, s2, s3, s4, s5⟩; have z0 := blk_cell s0 2; have z1 := blk_cell s1 2; simp only [List.getElem?_toArray, List.getElem?_cons_zero, List.getElem?_cons_succ] at z0 z1; go_simp; with_reducible rfl)
                rotate_left
                · (simp only [Act.put, List.setIfInBounds_toArray, List.set_cons_zero, List.set_cons_succ]; rfl)
                refine pure_ (i := 12) (N := (some 48)) (v := ?_) (a' := ?_) #[true, true, true, true, true, true, true, true, true, true, true, true, true, false, false, false, false, false, false, false, false, false, false, false, false, false, false, false, false] rfl rfl (by kernel_rfl) (fun _ _ _ h => h) (Or.inl ⟨by rfl, ?_⟩) ?_ ?_
                rotate_left
                · (intro w'; go_simp; with_reducible rfl)
                rotate_left
                · (simp only [Act.put, List.setIfInBounds_toArray, List.set_cons_zero, List.set_cons_succ]; rfl)
                refine pure_ (i := 13) (N := (some 49)) (v := ?_) (a' := ?_) #[true, true, true, true, true, true, true, true, true, true, true, true, true, true, false, false, false, false, false, false, false, false, false, false, false, false, false, false, false] rfl rfl (by kernel_rfl) (fun _ _ _ h => h) (Or.inl ⟨by rfl, ?_⟩) ?_ ?_
                rotate_left
                · (intro w'; go_simp; with_reducible rfl)
                rotate_left
                · (simp only [Act.put, List.setIfInBounds_toArray, List.set_cons_zero, List.set_cons_succ]; rfl)
                refine pure_ (i := 14) (N := (some 50)) (v := ?_) (a' := ?_) #[true, true, true, true, true, true, true, true, true, true, true, true, true, true, true, false, false, false, false, false, false, false, false, false, false, false, false, false, false] rfl rfl (by kernel_rfl) (fun _ _ _ h => h) (Or.inl ⟨by rfl, ?_⟩) ?_ ?_
                rotate_left
                · (intro w'; go_simp; with_reducible rfl)
                rotate_left
                · (simp only [Act.put, List.setIfInBounds_toArray, List.set_cons_zero, List.set_cons_succ]; rfl)
                refine pure_ (i := 16) (N := (some 52)) (v := ?_) (a' := ?_) #[true, true, true, true, true, true, true, true, true, true, true, true, true, true, true, false, true, false, false, false, false, false, false, false, false, false, false, false, false] rfl rfl (by kernel_rfl) (fun _ _ _ h => h) (Or.inl ⟨by rfl, ?_⟩) ?_ ?_
                rotate_left
                · (intro w'; go_simp; with_reducible rfl)
                rotate_left
                · (simp only [Act.put, List.setIfInBounds_toArray, List.set_cons_zero, List.set_cons_succ]; rfl)
                refine pure_ (i := 20) (N := (some 56)) (v := ?_) (a' := ?_) #[true, true, true, true, true, true, true, true, true, true, true, true, true, true, true, false, true, false, false, false, true, false, false, false, false, false, false, false, false] rfl rfl (by kernel_rfl) (fun _ _ _ h => h) (Or.inl ⟨by rfl, ?_⟩) ?_ ?_
                rotate_left
                · (intro w'; go_simp; with_reducible rfl)
                rotate_left
                · (simp only [Act.put, List.setIfInBounds_toArray, List.set_cons_zero, List.set_cons_succ]; rfl)
                refine pure_ (i := 22) (N := (some 58)) (v := ?_) (a' := ?_) #[true, true, true, true, true, true, true, true, true, true, true, true, true, true, true, false, true, false, false, false, true, false, true, false, false, false, false, false, false] rfl rfl (by kernel_rfl) (fun _ _ _ h => h) (Or.inl ⟨by rfl, ?_⟩) ?_ ?_
                rotate_left
                · (intro w'; go_simp; with_reducible rfl)
                rotate_left
                · (simp only [Act.put, List.setIfInBounds_toArray, List.set_cons_zero, List.set_cons_succ]; rfl)
                refine take_ (i := 15) (N := (some 51)) (v := ?_) (a' := ?_) #[true, true, true, true, true, true, true, true, true, true, true, true, true, true, true, true, true, false, false, false, true, false, true, false, false, false, false, false, false] rfl rfl (by kernel_rfl) (fun _ _ _ h => h) (Or.inl ⟨by rfl, ?_⟩) hHeld ?_ ?_
                rotate_left
                · (rintro w' ⟨s0, s1, s2, s3, s4, s5⟩; have z0 := blk_cell s0 2; have z1 := blk_cell s1 2; simp only [List.getElem?_toArray, List.getElem?_cons_zero, List.getElem?_cons_succ] at z0 z1; go_simp; with_reducible rfl)
                rotate_left
                · (simp only [Act.put, List.setIfInBounds_toArray, List.set_cons_zero, List.set_cons_succ]; rfl)
                refine pure_ (i := 17) (N := (some 53)) (v := ?_) (a' := ?_) #[true, true, true, true, true, true, true, true, true, true, true, true, true, true, true, true, true, true, false, false, true, false, true, false, false, false, false, false, false] rfl rfl (by kernel_rfl) (fun _ _ _ h => h) (Or.inl ⟨by rfl, ?_⟩) ?_ ?_
                rotate_left
                · (intro w'; go_simp; with_reducible rfl)
                rotate_left
                · (simp only [Act.put, List.setIfInBounds_toArray, List.set_cons_zero, List.set_cons_succ]; rfl)
                refine pure_ (i := 18) (N := (some 54)) (v := ?_) (a' := ?_) #[true, true, true, true, true, true, true, true, true, true, true, true, true, true, true, true, true, true, true, false, true, false, true, false, false, false, false, false, false] rfl rfl (by kernel_rfl) (fun _ _ _ h => h) (Or.inl ⟨by rfl, ?_⟩) ?_ ?_
                rotate_left
                · (intro w'; go_simp; with_reducible rfl)
                rotate_left
                · (simp only [Act.put, List.setIfInBounds_toArray, List.set_cons_zero, List.set_cons_succ]; rfl)
                refine take_ (i := 19) (N := (some 55)) (v := ?_) (a' := ?_) #[true, true, true, true, true, true, true, true, true, true, true, true, true, true, true, true, true, true, true, true, true, false, true, false, false, false, false, false, false] rfl rfl (by kernel_rfl) (fun _ _ _ h => h) (Or.inl ⟨by rfl, ?_⟩) hHeld ?_ ?_
                rotate_left
                · (rintro w' ⟨s0, s1, s2, s3, s4, s5⟩; have z0 := blk_cell s0 2; have z1 := blk_cell s1 2; simp only [List.getElem?_toArray, List.getElem?_cons_zero, List.getElem?_cons_succ] at z0 z1; go_simp; with_reducible rfl)
                rotate_left
                · (simp only [Act.put, List.setIfInBounds_toArray, List.set_cons_zero, List.set_cons_succ]; rfl)
                refine take_ (i := 21) (N := (some 57)) (v := ?_) (a' := ?_) #[true, true, true, true, true, true, true, true, true, true, true, true, true, true, true, true, true, true, true, true, true, true, true, false, false, false, false, false, false] rfl rfl (by kernel_rfl) (fun _ _ _ h => h) (Or.inl ⟨by rfl, ?_⟩) hHeld ?_ ?_
                rotate_left
                · (rintro w' ⟨s0, s1, s2, s3, s4, s5⟩; have z0 := blk_cell s0 2; have z1 := blk_cell s1 2; simp only [List.getElem?_toArray, List.getElem?_cons_zero, List.getElem?_cons_succ] at z0 z1; go_simp; with_reducible rfl)
                rotate_left
                · (simp only [Act.put, List.setIfInBounds_toArray, List.set_cons_zero, List.set_cons_succ]; rfl)
                refine pure_ (i := 23) (N := (some 59)) (v := ?_) (a' := ?_) #[true, true, true, true, true, true, true, true, true, true, true, true, true, true, true, true, true, true, true, true, true, true, true, true, false, false, false, false, false] rfl rfl (by kernel_rfl) (fun _ _ _ h => h) (Or.inl ⟨by rfl, ?_⟩) ?_ ?_
                rotate_left
                · (intro w'; go_simp; with_reducible rfl)
                rotate_left
                · (simp only [Act.put, List.setIfInBounds_toArray, List.set_cons_zero, List.set_cons_succ]; rfl)
                refine pure_ (i := 24) (N := (some 60)) (v := ?_) (a' := ?_) #[true, true, true, true, true, true, true, true, true, true, true, true, true, true, true, true, true, true, true, true, true, true, true, true, true, false, false, false, false] rfl rfl (by kernel_rfl) (fun _ _ _ h => h) (Or.inl ⟨by rfl, ?_⟩) ?_ ?_
                rotate_left
                · (intro w'; go_simp; with_reducible rfl)
                rotate_left
                · (simp only [Act.put, List.setIfInBounds_toArray, List.set_cons_zero, List.set_cons_succ]; rfl)
                refine take_ (i := 25) (N := (some 61)) (v := ?_) (a' := ?_) #[true, true, true, true, true, true, true, true, true, true, true, true, true, true, true, true, true, true, true, true, true, true, true, true, true, true, false, false, false] rfl rfl (by kernel_rfl) (fun _ _ _ h => h) (Or.inl ⟨by rfl, ?_⟩) hHeld ?_ ?_
                rotate_left
                · (rintro w' ⟨s0, s1, s2, s3, s4, s5⟩; have z0 := blk_cell s0 2; have z1 := blk_cell s1 2; simp only [List.getElem?_toArray, List.getElem?_cons_zero, List.getElem?_cons_succ] at z0 z1; go_simp; with_reducible rfl)
                rotate_left
                · (simp only [Act.put, List.setIfInBounds_toArray, List.set_cons_zero, List.set_cons_succ]; rfl)
                refine last_ (i := 26) (N := (some 62)) #[true, true, true, true, true, true, true, true, true, true, true, true, true, true, true, true, true, true, true, true, true, true, true, true, true, true, true, false, false] rfl rfl (by kernel_rfl) (by decide) (fun K hK => ?_)
                (refine goes_ Try.func36 (by kernel_rfl) rfl #[.slice E1 ar.length e1, .slice F1 br.length f1] (by rfl) rfl rfl (by simp [Act.eval]) ?_; refine (keepInts_c _ _ _ _ _ _ _ _ _ (Kd.C_below HE1.out (below_drew1 (Below.refl _ _))) (Kd.C_below HF1.out (below_drew1 (Below.refl _ _)))).mono ?_; rw [HI.out]; rintro e w5 ⟨rfl, hb5⟩; refine ⟨_, rfl, ?_⟩; have HK5 := Aside0.mk ((HK.out.below_ (below_drew1 (Below.refl _ _))).below_ hb5); clear hb5)
                refine hK.out _ _ ?_
                clear hK K
                refine norm_ (a' := ?_) ?_ ?_
                rotate_left
                · (show Act.put _ (some 62) _ = _; simp only [Act.put, List.setIfInBounds_toArray, List.set_cons_zero, List.set_cons_succ]; rfl)
                refine pure_ (i := 27) (N := (some 63)) (v := ?_) (a' := ?_) #[true, true, true, true, true, true, true, true, true, true, true, true, true, true, true, true, true, true, true, true, true, true, true, true, true, true, true, true, false] rfl rfl (by kernel_rfl) (fun _ _ _ h => h) (Or.inl ⟨by rfl, ?_⟩) ?_ ?_
                rotate_left
                · (intro w'; go_simp; with_reducible rfl)
                rotate_left
                · (simp only [Act.put, List.setIfInBounds_toArray, List.set_cons_zero, List.set_cons_succ]; rfl)
                refine pure_ (i := 28) (N := (some 64)) (v := ?_) (a' := ?_) #[true, true, true, true, true, true, true, true, true, true, true, true, true, true, true, true, true, true, true, true, true, true, true, true, true, true, true, true, true] rfl rfl (by kernel_rfl) (fun _ _ _ h => h) (Or.inl ⟨by rfl, ?_⟩) ?_ ?_
                rotate_left
                · (intro w'; go_simp; with_reducible rfl)
                rotate_left
                · (simp only [Act.put, List.setIfInBounds_toArray, List.set_cons_zero, List.set_cons_succ]; rfl)
                refine done_ (by kernel_rfl) ?_
                go_wp2
                go_ret
                refine ⟨ret_bool ?_, HK5.out.b⟩
                have hne : ¬ g.rules = h.rules := fun e => by
                  have h3 : (⟨al, ar⟩ : Rule) = ⟨bl, br⟩ := by rw [HAB.out.1, HAB.out.2]; simp only [e]
                  injection h3 with _ h3
                  exact of_decide_eq_false HI.out h3
                unfold sameF
                rw [decide_eq_false hne, Bool.and_false]
            · have dab : (al != bl) = true := by simp [hab]
              have HAL := Aside0.mk hab
              clear hab
              go_wp2
              refine start_ (n := 29) (S := fun w' => w'.heap[w.heap.size]? = some (.cells #[.slice A1 g.terms.length c1, .slice A2 g.names.length c2, .slice (some ad) g.rules.length c3] 25 (0, 0)) ∧ w'.heap[w.heap.size + 1]? = some (.cells #[.slice B1 h.terms.length d1, .slice B2 h.names.length d2, .slice (some bd) h.rules.length d3] 25 (0, 0)) ∧ w'.cell? (ad.add (k * 2)) = some (.int .i64 al) ∧ w'.cell? ⟨(ad.add (k * 2)).block, (ad.add (k * 2)).off + 1, none⟩ = some (.slice E1 ar.length e1) ∧ w'.cell? (bd.add (k * 2)) = some (.int .i64 bl) ∧ w'.cell? ⟨(bd.add (k * 2)).block, (bd.add (k * 2)).off + 1, none⟩ = some (.slice F1 br.length f1)) (ds := []) #[false, false, false, false, false, false, false, false, false, false, false, false, false, false, false, false, false, false, false, false, false, false, false, false, false, false, false, false, false] (by kernel_rfl) rfl rfl (⟨blk_drew HK.out.p, blk_drew HK.out.q, hx1, hx2, hy1, hy2⟩) (fun hHeld => ?_)
              refine pure_ (i := 0) (N := (some 36)) (v := ?_) (a' := ?_) #[true, false, false, false, false, false, false, false, false, false, false, false, false, false, false, false, false, false, false, false, false, false, false, false, false, false, false, false, false] rfl rfl (by kernel_rfl) (fun _ _ _ h => h) (Or.inl ⟨by rfl, ?_⟩) ?_ ?_
              rotate_left
              · (intro w'; go_simp; with_reducible rfl)
              rotate_left
              · (simp only [Act.put, List.setIfInBounds_toArray, List.set_cons_zero, List.set_cons_succ]; rfl)
              refine pure_ (i := 2) (N := (some 38)) (v := ?_) (a' := ?_) #[true, false, true, false, false, false, false, false, false, false, false, false, false, false, false, false, false, false, false, false, false, false, false, false, false, false, false, false, false] rfl rfl (by kernel_rfl) (fun _ _ _ h => h) (Or.inl ⟨by rfl, ?_⟩) ?_ ?_
              rotate_left
              · (intro w'; go_simp; with_reducible rfl)
              rotate_left
              · (simp only [Act.put, List.setIfInBounds_toArray, List.set_cons_zero, List.set_cons_succ]; rfl)
              refine pure_ (i := 6) (N := (some 42)) (v := ?_) (a' := ?_) #[true, false, true, false, false, false, true, false, false, false, false, false, false, false, false, false, false, false, false, false, false, false, false, false, false, false, false, false, false] rfl rfl (by kernel_rfl) (fun _ _ _ h => h) (Or.inl ⟨by rfl, ?_⟩) ?_ ?_
              rotate_left
              · (intro w'; go_simp; with_reducible rfl)
              rotate_left
              · (simp only [Act.put, List.setIfInBounds_toArray, List.set_cons_zero, List.set_cons_succ]; rfl)
              refine pure_ (i := 8) (N := (some 44)) (v := ?_) (a' := ?_) #[true, false, true, false, false, false, true, false, true, false, false, false, false, false, false, false, false, false, false, false, false, false, false, false, false, false, false, false, false] rfl rfl (by kernel_rfl) (fun _ _ _ h => h) (Or.inl ⟨by rfl, ?_⟩) ?_ ?_
              rotate_left
              · (intro w'; go_simp; with_reducible rfl)
              rotate_left
              · (simp only [Act.put, List.setIfInBounds_toArray, List.set_cons_zero, List.set_cons_succ]; rfl)
              refine take_ (i := 1) (N := (some 37)) (v := ?_) (a' := ?_) #[true, true, true, false, false, false, true, false, true, false, false, false, false, false, false, false, false, false, false, false, false, false, false, false, false, false, false, false, false] rfl rfl (by kernel_rfl) (fun _ _ _ h => h) (Or.inl ⟨by rfl, ?_⟩) hHeld ?_ ?_
              rotate_left
              · (rintro w' ⟨s0, s1, s2, s3, s4, s5⟩; have z0 := blk_cell s0 2; have z1 := blk_cell s1 2; simp only [List.getElem?_toArray, List.getElem?_cons_zero, List.getElem?_cons_succ] at z0 z1; go_simp; with_reducible rfl)
              rotate_left
              · (simp only [Act.put, List.setIfInBounds_toArray, List.set_cons_zero, List.set_cons_succ]; rfl)
              refine pure_ (i := 3) (N := (some 39)) (v := ?_) (a' := ?_) #[true, true, true, true, false, false, true, false, true, false, false, false, false, false, false, false, false, false, false, false, false, false, false, false, false, false, false, false, false] rfl rfl (by kernel_rfl) (fun _ _ _ h => h) (Or.inl ⟨by rfl, ?_⟩) ?_ ?_
              rotate_left
              · (intro w'; go_simp; with_reducible rfl)
              rotate_left
              · (simp only [Act.put, List.setIfInBounds_toArray, List.set_cons_zero, List.set_cons_succ]; rfl)
              refine pure_ (i := 4) (N := (some 40)) (v := ?_) (a' := ?_) #[true, true, true, true, true, false, true, false, true, false, false, false, false, false, false, false, false, false, false, false, false, false, false, false, false, false, false, false, false] rfl rfl (by kernel_rfl) (fun _ _ _ h => h) (Or.inl ⟨by rfl, ?_⟩) ?_ ?_
              rotate_left
              · (intro w'; go_simp; with_reducible rfl)
              rotate_left
              · (simp only [Act.put, List.setIfInBounds_toArray, List.set_cons_zero, List.set_cons_succ]; rfl)
              refine take_ (i := 5) (N := (some 41)) (v := ?_) (a' := ?_) #[true, true, true, true, true, true, true, false, true, false, false, false, false, false, false, false, false, false, false, false, false, false, false, false, false, false, false, false, false] rfl rfl (by kernel_rfl) (fun _ _ _ h => h) (Or.inl ⟨by rfl, ?_⟩) hHeld ?_ ?_
              rotate_left
              · (rintro w' ⟨s0, s1, s2, s3, s4, s5⟩; have z0 := blk_cell s0 2; have z1 := blk_cell s1 2; simp only [List.getElem?_toArray, List.getElem?_cons_zero, List.getElem?_cons_succ] at z0 z1; go_simp; with_reducible rfl)
              rotate_left
              · (simp only [Act.put, List.setIfInBounds_toArray, List.set_cons_zero, List.set_cons_succ]; rfl)
              refine take_ (i := 7) (N := (some 43)) (v := ?_) (a' := ?_) #[true, true, true, true, true, true, true, true, true, false, false, false, false, false, false, false, false, false, false, false, false, false, false, false, false, false, false, false, false] rfl rfl (by kernel_rfl) (fun _ _ _ h => h) (Or.inl ⟨by rfl, ?_⟩) hHeld ?_ ?_
              rotate_left
              · (rintro w' ⟨s0, s1, s2, s3, s4, s5⟩; have z0 := blk_cell s0 2; have z1 := blk_cell s1 2; simp only [List.getElem?_toArray, List.getElem?_cons_zero, List.getElem?_cons_succ] at z0 z1; go_simp; with_reducible rfl)
              rotate_left
              · (simp only [Act.put, List.setIfInBounds_toArray, List.set_cons_zero, List.set_cons_succ]; rfl)
              refine pure_ (i := 9) (N := (some 45)) (v := ?_) (a' := ?_) #[true, true, true, true, true, true, true, true, true, true, false, false, false, false, false, false, false, false, false, false, false, false, false, false, false, false, false, false, false] rfl rfl (by kernel_rfl) (fun _ _ _ h => h) (Or.inl ⟨by rfl, ?_⟩) ?_ ?_
              rotate_left
              · (intro w'; go_simp; with_reducible rfl)
              rotate_left
              · (simp only [Act.put, List.setIfInBounds_toArray, List.set_cons_zero, List.set_cons_succ]; rfl)
              refine pure_ (i := 10) (N := (some 46)) (v := ?_) (a' := ?_) #[true, true, true, true, true, true, true, true, true, true, true, false, false, false, false, false, false, false, false, false, false, false, false, false, false, false, false, false, false] rfl rfl (by kernel_rfl) (fun _ _ _ h => h) (Or.inl ⟨by rfl, ?_⟩) ?_ ?_
              rotate_left
              · (intro w'; go_simp; with_reducible rfl)
              rotate_left
              · (simp only [Act.put, List.setIfInBounds_toArray, List.set_cons_zero, List.set_cons_succ]; rfl)
              refine take_ (i := 11) (N := (some 47)) (v := ?_) (a' := ?_) #[true, true, true, true, true, true, true, true, true, true, true, true, false, false, false, false, false, false, false, false, false, false, false, false, false, false, false, false, false] rfl rfl (by kernel_rfl) (fun _ _ _ h => h) (Or.inl ⟨by rfl, ?_⟩) hHeld ?_ ?_
              rotate_left
              · (rintro w' ⟨s0, s1, s2, s3, s4, s5⟩; have z0 := blk_cell s0 2; have z1 := blk_cell s1 2; simp only [List.getElem?_toArray, List.getElem?_cons_zero, List.getElem?_cons_succ] at z0 z1; go_simp; with_reducible rfl)
              rotate_left
              · (simp only [Act.put, List.setIfInBounds_toArray, List.set_cons_zero, List.set_cons_succ]; rfl)
              refine pure_ (i := 12) (N := (some 48)) (v := ?_) (a' := ?_) #[true, true, true, true, true, true, true, true, true, true, true, true, true, false, false, false, false, false, false, false, false, false, false, false, false, false, false, false, false] rfl rfl (by kernel_rfl) (fun _ _ _ h => h) (Or.inl ⟨by rfl, ?_⟩) ?_ ?_
              rotate_left
              · (intro w'; go_simp; with_reducible rfl)
              rotate_left
              · (simp only [Act.put, List.setIfInBounds_toArray, List.set_cons_zero, List.set_cons_succ]; rfl)
              refine pure_ (i := 13) (N := (some 49)) (v := ?_) (a' := ?_) #[true, true, true, true, true, true, true, true, true, true, true, true, true, true, false, false, false, false, false, false, false, false, false, false, false, false, false, false, false] rfl rfl (by kernel_rfl) (fun _ _ _ h => h) (Or.inl ⟨by rfl, ?_⟩) ?_ ?_
              rotate_left
              · (intro w'; go_simp; with_reducible rfl)
              rotate_left
              · (simp only [Act.put, List.setIfInBounds_toArray, List.set_cons_zero, List.set_cons_succ]; rfl)
              refine pure_ (i := 14) (N := (some 50)) (v := undef) (a' := ?_) #[true, true, true, true, true, true, true, true, true, true, true, true, true, true, true, false, false, false, false, false, false, false, false, false, false, false, false, false, false] rfl rfl (by kernel_rfl) (fun _ _ _ h => h) (Or.inr ⟨by rfl, rfl⟩) ?_ ?_
              rotate_left
              · (simp only [Act.put, List.setIfInBounds_toArray, List.set_cons_zero, List.set_cons_succ]; rfl)
              refine pure_ (i := 16) (N := (some 52)) (v := undef) (a' := ?_) #[true, true, true, true, true, true, true, true, true, true, true, true, true, true, true, false, true, false, false, false, false, false, false, false, false, false, false, false, false] rfl rfl (by kernel_rfl) (fun _ _ _ h => h) (Or.inr ⟨by rfl, rfl⟩) ?_ ?_
              rotate_left
              · (simp only [Act.put, List.setIfInBounds_toArray, List.set_cons_zero, List.set_cons_succ]; rfl)
              refine pure_ (i := 20) (N := (some 56)) (v := undef) (a' := ?_) #[true, true, true, true, true, true, true, true, true, true, true, true, true, true, true, false, true, false, false, false, true, false, false, false, false, false, false, false, false] rfl rfl (by kernel_rfl) (fun _ _ _ h => h) (Or.inr ⟨by rfl, rfl⟩) ?_ ?_
              rotate_left
              · (simp only [Act.put, List.setIfInBounds_toArray, List.set_cons_zero, List.set_cons_succ]; rfl)
              refine pure_ (i := 22) (N := (some 58)) (v := undef) (a' := ?_) #[true, true, true, true, true, true, true, true, true, true, true, true, true, true, true, false, true, false, false, false, true, false, true, false, false, false, false, false, false] rfl rfl (by kernel_rfl) (fun _ _ _ h => h) (Or.inr ⟨by rfl, rfl⟩) ?_ ?_
              rotate_left
              · (simp only [Act.put, List.setIfInBounds_toArray, List.set_cons_zero, List.set_cons_succ]; rfl)
              refine pure_ (i := 15) (N := (some 51)) (v := undef) (a' := ?_) #[true, true, true, true, true, true, true, true, true, true, true, true, true, true, true, true, true, false, false, false, true, false, true, false, false, false, false, false, false] rfl rfl (by kernel_rfl) (fun _ _ _ h => h) (Or.inr ⟨by rfl, rfl⟩) ?_ ?_
              rotate_left
              · (simp only [Act.put, List.setIfInBounds_toArray, List.set_cons_zero, List.set_cons_succ]; rfl)
              refine pure_ (i := 17) (N := (some 53)) (v := undef) (a' := ?_) #[true, true, true, true, true, true, true, true, true, true, true, true, true, true, true, true, true, true, false, false, true, false, true, false, false, false, false, false, false] rfl rfl (by kernel_rfl) (fun _ _ _ h => h) (Or.inr ⟨by rfl, rfl⟩) ?_ ?_
              rotate_left
              · (simp only [Act.put, List.setIfInBounds_toArray, List.set_cons_zero, List.set_cons_succ]; rfl)
              refine pure_ (i := 18) (N := (some 54)) (v := undef) (a' := ?_) #[true, true, true, true, true, true, true, true, true, true, true, true, true, true, true, true, true, true, true, false, true, false, true, false, false, false, false, false, false] rfl rfl (by kernel_rfl) (fun _ _ _ h => h) (Or.inr ⟨by rfl, rfl⟩) ?_ ?_
              rotate_left
              · (simp only [Act.put, List.setIfInBounds_toArray, List.set_cons_zero, List.set_cons_succ]; rfl)
              refine pure_ (i := 19) (N := (some 55)) (v := undef) (a' := ?_) #[true, true, true, true, true, true, true, true, true, true, true, true, true, true, true, true, true, true, true, true, true, false, true, false, false, false, false, false, false] rfl rfl (by kernel_rfl) (fun _ _ _ h => h) (Or.inr ⟨by rfl, rfl⟩) ?_ ?_
              rotate_left
              · (simp only [Act.put, List.setIfInBounds_toArray, List.set_cons_zero, List.set_cons_succ]; rfl)
              refine pure_ (i := 21) (N := (some 57)) (v := undef) (a' := ?_) #[true, true, true, true, true, true, true, true, true, true, true, true, true, true, true, true, true, true, true, true, true, true, true, false, false, false, false, false, false] rfl rfl (by kernel_rfl) (fun _ _ _ h => h) (Or.inr ⟨by rfl, rfl⟩) ?_ ?_
              rotate_left
              · (simp only [Act.put, List.setIfInBounds_toArray, List.set_cons_zero, List.set_cons_succ]; rfl)
              refine pure_ (i := 23) (N := (some 59)) (v := undef) (a' := ?_) #[true, true, true, true, true, true, true, true, true, true, true, true, true, true, true, true, true, true, true, true, true, true, true, true, false, false, false, false, false] rfl rfl (by kernel_rfl) (fun _ _ _ h => h) (Or.inr ⟨by rfl, rfl⟩) ?_ ?_
              rotate_left
              · (simp only [Act.put, List.setIfInBounds_toArray, List.set_cons_zero, List.set_cons_succ]; rfl)
              refine pure_ (i := 24) (N := (some 60)) (v := undef) (a' := ?_) #[true, true, true, true, true, true, true, true, true, true, true, true, true, true, true, true, true, true, true, true, true, true, true, true, true, false, false, false, false] rfl rfl (by kernel_rfl) (fun _ _ _ h => h) (Or.inr ⟨by rfl, rfl⟩) ?_ ?_
              rotate_left
              · (simp only [Act.put, List.setIfInBounds_toArray, List.set_cons_zero, List.set_cons_succ]; rfl)
              refine pure_ (i := 25) (N := (some 61)) (v := undef) (a' := ?_) #[true, true, true, true, true, true, true, true, true, true, true, true, true, true, true, true, true, true, true, true, true, true, true, true, true, true, false, false, false] rfl rfl (by kernel_rfl) (fun _ _ _ h => h) (Or.inr ⟨by rfl, rfl⟩) ?_ ?_
              rotate_left
              · (simp only [Act.put, List.setIfInBounds_toArray, List.set_cons_zero, List.set_cons_succ]; rfl)
              refine one_ (i := 26) (N := (some 62)) #[true, true, true, true, true, true, true, true, true, true, true, true, true, true, true, true, true, true, true, true, true, true, true, true, true, true, true, false, false] rfl rfl (by kernel_rfl) (by decide) (fun K hK => ?_)
              refine off_ (by rfl) ?_
              refine hK.out _ _ hHeld (fun hHeld => ?_)
              clear hK K
              refine norm_ (a' := ?_) ?_ ?_
              rotate_left
              · (show Act.put _ (some 62) _ = _; simp only [Act.put, List.setIfInBounds_toArray, List.set_cons_zero, List.set_cons_succ]; rfl)
              refine pure_ (i := 27) (N := (some 63)) (v := undef) (a' := ?_) #[true, true, true, true, true, true, true, true, true, true, true, true, true, true, true, true, true, true, true, true, true, true, true, true, true, true, true, true, false] rfl rfl (by kernel_rfl) (fun _ _ _ h => h) (Or.inr ⟨by rfl, rfl⟩) ?_ ?_
              rotate_left
              · (simp only [Act.put, List.setIfInBounds_toArray, List.set_cons_zero, List.set_cons_succ]; rfl)
              refine pure_ (i := 28) (N := (some 64)) (v := ?_) (a' := ?_) #[true, true, true, true, true, true, true, true, true, true, true, true, true, true, true, true, true, true, true, true, true, true, true, true, true, true, true, true, true] rfl rfl (by kernel_rfl) (fun _ _ _ h => h) (Or.inl ⟨by rfl, ?_⟩) ?_ ?_
              rotate_left
              · (intro w'; go_simp; with_reducible rfl)
              rotate_left
              · (simp only [Act.put, List.setIfInBounds_toArray, List.set_cons_zero, List.set_cons_succ]; rfl)
              refine done_ (by kernel_rfl) ?_
              go_wp2
              go_ret
              refine ⟨ret_bool ?_, below_drew1 HK.out.b⟩
              have hne : ¬ g.rules = h.rules := fun e => by
                have h3 : (⟨al, ar⟩ : Rule) = ⟨bl, br⟩ := by rw [HAB.out.1, HAB.out.2]; simp only [e]
                injection h3 with h3 _
                exact HAL.out h3
              unfold sameF
              rw [decide_eq_false hne, Bool.and_false]
          · have HE : Aside0 (g.rules = h.rules) := ⟨List.ext_getElem HL.out (fun j h1 h2 => HJ.out j h1 (by omega))⟩
            go_wp2
            go_ret
            refine ⟨ret_bool ?_, HK.out.b⟩
            unfold sameF
            rw [HT.out, HN.out, decide_eq_true HE.out]
            rfl
      · have hlb : ((g.rules.length : Int) != (h.rules.length : Int)) = true := by simp; omega
        have HE : Aside0 (decide (g.rules = h.rules) = false) := ⟨decide_eq_false (fun e => hl (by rw [e]))⟩
        clear hl
        go_enter Try.func22, Try.ntmps22
        go_wp2_with (first | (have hx := HK1.out; go_at_call 54; go_loud (refine (keepTexts_c _ _ _ _ _ _ _ _ _ HK1.out.rg.names HK1.out.rh.names).mono ?_; rw [HN.out]; rintro e w2 ⟨rfl, hb2⟩; have HK2 := Aside0.mk (HK1.out.below_ hb2); clear hb2; have b1 := blk_cell HK2.out.p 2; have b2 := blk_cell HK2.out.q 2; simp only [List.getElem?_toArray, List.getElem?_cons_zero, List.getElem?_cons_succ] at b1 b2)) | (go_at_call 54; go_loud (refine (keepTexts_c _ _ _ _ _ _ _ _ _ HK0.out.rg.terms HK0.out.rh.terms).mono ?_; rw [HT.out]; rintro e w1 ⟨rfl, hb1⟩; have HK1 := Aside0.mk (HK0.out.below_ hb1); clear hb1; have a1 := blk_cell HK1.out.p 1; have a2 := blk_cell HK1.out.q 1; simp only [List.getElem?_toArray, List.getElem?_cons_zero, List.getElem?_cons_succ] at a1 a2)))
        go_ret
        exact ⟨ret_bool (by unfold sameF; rw [HT.out, HN.out, HE.out]; rfl), HK2.out.b⟩
end Go.Proofs.Ytphmmppmhphgeaa

/- The law GrammarAgain, walked: it answers true. -/
set_option linter.unusedVariables false
set_option linter.unusedSimpArgs false
namespace Go.Proofs.Ytphmmppmhphgeaa
open Go.RowKit Go.Proofs.YtphmmppmhphgeaaW.PrintWords Go.Proofs.YtphmmppmhphgeaaW.PrintLast

theorem sameF_self (g : Gram) : sameF g g = true := by simp [sameF]
def emptyG : Gram := ⟨[], [], []⟩
/-- What grammar.Of tells: the grammar, the error, where. -/
def ofT (s : ByteArray) : Gram × Int × Int := match ofF s with
  | .error (a, p) => (emptyG, a, p)
  | .ok g => (g, 0, 0)
theorem empty_rep (W : World) : RepG W emptyG none none none 0 0 0 := by
  have h : ∀ {α : Type} (d : Kd α), d.C W none 0 [] := fun d => ⟨rfl, by omega, fun h => by omega⟩
  exact ⟨h _, h _, h _, Nat.le_refl _, Nat.le_refl _, Nat.le_refl _⟩
theorem of_t (s : ByteArray) (w : World) {g : Gram} {a p : Int} (ht : ofT s = (g, a, p)) : Calls Try.prog 17 #[.string s] w fun e w' => (∃ A1 A2 A3 c1 c2 c3, e = .returned (.tuple #[.agg #[.slice A1 g.terms.length c1, .slice A2 g.names.length c2, .slice A3 g.rules.length c3], .agg #[.int .i64 a, .int .i64 p]]) ∧ RepG w' g A1 A2 A3 c1 c2 c3) ∧ Below w.heap.size w w' := by
  refine (of_c s w).mono ?_
  rintro e w' ⟨he, hb⟩
  refine ⟨?_, hb⟩
  unfold ofT at ht
  cases hof : ofF s with
  | error q =>
    obtain ⟨x, y⟩ := q
    rw [hof] at he ht
    injection ht with h1 h2
    injection h2 with h2 h3
    subst h1 h2 h3
    exact ⟨none, none, none, 0, 0, 0, he, empty_rep w'⟩
  | ok g' =>
    rw [hof] at he ht
    injection ht with h1 h2
    injection h2 with h2 h3
    subst h1 h2 h3
    exact he
theorem again_cases (s : ByteArray) (hs : s.size ≤ 900) : ∃ g a p h a' p', ofT s = (g, a, p) ∧ ofT (twice s) = (h, a', p') ∧
    (a ≠ 0 ∧ a' ≠ 0 ∧ h = emptyG ∨ a = 0 ∧ ∃ l, lexE s = .ok l ∧ (60 < 2 * ends l ∧ a' = 14 ∨ ¬ 60 < 2 * ends l ∧ a' = 0 ∧ h = g)) := by
  cases hof : ofF s with
  | error q =>
    obtain ⟨a, p⟩ := q
    obtain ⟨⟨a', p'⟩, he⟩ := again_bad hs hof
    exact ⟨emptyG, a, p, emptyG, a', p', by unfold ofT; rw [hof], by unfold ofT; rw [he], Or.inl ⟨(ofF_err hof).1, (ofF_err he).1, rfl⟩⟩
  | ok g =>
    obtain ⟨l, h1, h2⟩ := again_ok hs hof
    split at h2
    · rename_i h60
      obtain ⟨p', hp⟩ := h2
      exact ⟨g, 0, 0, emptyG, 14, p', by unfold ofT; rw [hof], by unfold ofT; rw [hp], Or.inr ⟨rfl, l, h1, Or.inl ⟨h60, rfl⟩⟩⟩
    · rename_i h60
      exact ⟨g, 0, 0, g, 0, 0, by unfold ofT; rw [hof], by unfold ofT; rw [h2], Or.inr ⟨rfl, l, h1, Or.inr ⟨h60, rfl, rfl⟩⟩⟩
theorem ends_take {l : List Tok} {k : Nat} (h : k < l.length) : ends (l.take (k + 1)) = ends (l.take k) + if (l[k]'h).kind = 4 ∨ (l[k]'h).kind = 5 then 1 else 0 := by
  unfold ends
  rw [List.take_succ_eq_append_getElem h, List.countP_append, List.countP_cons, List.countP_nil]
  simp
theorem ends_le (l : List Tok) : ends l ≤ l.length := List.countP_le_length
theorem lex_ok {s : ByteArray} {l : List Tok} (hl : lexE s = .ok l) (w : World) : Calls Try.prog 26 #[.string s] w fun e w' => (∃ A c, e = .returned (.tuple #[.slice A l.length c, .agg #[.int .i64 0, .int .i64 0]]) ∧ kTok.C w' A l.length l) ∧ Below w.heap.size w w' := by
  refine (lex_c s w).mono ?_
  rintro e w' ⟨he, hb⟩
  refine ⟨?_, hb⟩
  rw [hl] at he
  obtain ⟨v, rfl, hr⟩ := he
  obtain ⟨A, c, rfl⟩ := Kd.R_slice hr
  exact ⟨A, c, rfl, (Kd.R_reads' hr).2.2⟩
structure AK (w W : World) (b3 b5 : Nat) (g : Gram) (A1 A2 A3 : Option Addr) (c1 c2 c3 : Nat) (h : Gram) (B1 B2 B3 : Option Addr) (d1 d2 d3 : Nat) (a p a' p' : Int) : Prop where
  rg : RepG W g A1 A2 A3 c1 c2 c3
  rh : RepG W h B1 B2 B3 d1 d2 d3
  p3 : W.heap[b3]? = some (.cells #[.slice A1 g.terms.length c1, .slice A2 g.names.length c2, .slice A3 g.rules.length c3] 25 (0, 0))
  p4 : W.heap[b3 + 1]? = some (.cells #[.int .i64 a, .int .i64 p] 30 (0, 0))
  p5 : W.heap[b5]? = some (.cells #[.slice B1 h.terms.length d1, .slice B2 h.names.length d2, .slice B3 h.rules.length d3] 25 (0, 0))
  p6 : W.heap[b5 + 1]? = some (.cells #[.int .i64 a', .int .i64 p'] 30 (0, 0))
  b : Below w.heap.size w W
section
variable {w W W1 : World} {b3 b5 : Nat} {g : Gram} {A1 A2 A3 : Option Addr} {c1 c2 c3 : Nat} {h : Gram} {B1 B2 B3 : Option Addr} {d1 d2 d3 : Nat} {a p a' p' : Int}
theorem AK.below_ (k : AK w W b3 b5 g A1 A2 A3 c1 c2 c3 h B1 B2 B3 d1 d2 d3 a p a' p') (hb : Below W.heap.size W W1) : AK w W1 b3 b5 g A1 A2 A3 c1 c2 c3 h B1 B2 B3 d1 d2 d3 a p a' p' :=
  ⟨k.rg.below_ hb, k.rh.below_ hb, blk_below k.p3 hb, blk_below k.p4 hb, blk_below k.p5 hb, blk_below k.p6 hb, below_then k.b k.b.size hb⟩
theorem AK.cells (k : AK w W b3 b5 g A1 A2 A3 c1 c2 c3 h B1 B2 B3 d1 d2 d3 a p a' p') :
    W.cell? ⟨b3, 0, none⟩ = some (.slice A1 g.terms.length c1) ∧ W.cell? ⟨b3, 1, none⟩ = some (.slice A2 g.names.length c2) ∧ W.cell? ⟨b3, 2, none⟩ = some (.slice A3 g.rules.length c3) ∧ W.cell? ⟨b3 + 1, 0, none⟩ = some (.int .i64 a) ∧
    W.cell? ⟨b5, 0, none⟩ = some (.slice B1 h.terms.length d1) ∧ W.cell? ⟨b5, 1, none⟩ = some (.slice B2 h.names.length d2) ∧ W.cell? ⟨b5, 2, none⟩ = some (.slice B3 h.rules.length d3) ∧ W.cell? ⟨b5 + 1, 0, none⟩ = some (.int .i64 a') :=
  ⟨(blk_cell k.p3 0).trans rfl, (blk_cell k.p3 1).trans rfl, (blk_cell k.p3 2).trans rfl, (blk_cell k.p4 0).trans rfl, (blk_cell k.p5 0).trans rfl, (blk_cell k.p5 1).trans rfl, (blk_cell k.p5 2).trans rfl, (blk_cell k.p6 0).trans rfl⟩
end
set_option maxRecDepth 100000 in
set_option maxHeartbeats 8000000 in
theorem again_c (s : ByteArray) (w : World) : Calls Try.prog 5 #[.string s] w fun e w' => e = .returned (.bool true) ∧ Below w.heap.size w w' := by
  by_cases hbig : 900 < s.size
  · go_enter Try.func5, Try.ntmps5
    go_wp2_with (go_at_call 16; refine (wakes03_c _).mono ?_; rintro e w1 ⟨rfl, hb1⟩)
    go_ret
    exact ⟨ret_bool rfl, hb1⟩
  · obtain ⟨g, a, p, h, a', p', hT1, hT2, hcs⟩ := again_cases s (by omega)
    have H1 := Aside0.mk hT1
    have H2 := Aside0.mk hT2
    clear hT1 hT2
    rcases hcs with ⟨ha, ha', rfl⟩ | ⟨rfl, l, hl, hcs⟩
    · have hab : (a != 0) = true := by rw [bne_iff_ne]; exact ha
      have hab' : (a' != 0) = true := by rw [bne_iff_ne]; exact ha'
      clear ha ha'
      go_enter Try.func5, Try.ntmps5
      go_wp2_with (first | (have hx := HK2.out; go_at_call 16; go_loud (refine (wakes03_c _).mono ?_; rintro e w9 ⟨rfl, hb9⟩; have HB9 := Aside0.mk (below_then hx.b hx.b.size hb9); clear hb9)) | (have hx := HB1.out; go_at_call 17; go_loud (refine (of_t (twice s) _ H2.out).mono ?_; rintro e w2 ⟨⟨B1, B2, B3, d1, d2, d3, rfl, hg2⟩, hb2⟩; have HK2 := Aside0.mk (AK.mk (b3 := w1.heap.size) (b5 := w2.heap.size) ((HG1.out.below_ (below_alloc (below_alloc (Below.refl _ _) (.cells #[.slice A1 g.terms.length c1, .slice A2 g.names.length c2, .slice A3 g.rules.length c3] 25 (0, 0))) (.cells #[.int .i64 a, .int .i64 p] 30 (0, 0)))).below_ (below_alloc (below_alloc hb2 (.cells #[.slice B1 emptyG.terms.length d1, .slice B2 emptyG.names.length d2, .slice B3 emptyG.rules.length d3] 25 (0, 0))) (.cells #[.int .i64 a', .int .i64 p'] 30 (0, 0)))) (hg2.below_ (below_alloc (below_alloc (Below.refl _ _) (.cells #[.slice B1 emptyG.terms.length d1, .slice B2 emptyG.names.length d2, .slice B3 emptyG.rules.length d3] 25 (0, 0))) (.cells #[.int .i64 a', .int .i64 p'] 30 (0, 0)))) (blk_alloc (blk_alloc (blk_below (blk_alloc (blk_new w1 (.cells #[.slice A1 g.terms.length c1, .slice A2 g.names.length c2, .slice A3 g.rules.length c3] 25 (0, 0))) (.cells #[.int .i64 a, .int .i64 p] 30 (0, 0))) hb2) (.cells #[.slice B1 emptyG.terms.length d1, .slice B2 emptyG.names.length d2, .slice B3 emptyG.rules.length d3] 25 (0, 0))) (.cells #[.int .i64 a', .int .i64 p'] 30 (0, 0))) (blk_alloc (blk_alloc (blk_below (blk_two w1 (.cells #[.slice A1 g.terms.length c1, .slice A2 g.names.length c2, .slice A3 g.rules.length c3] 25 (0, 0)) (.cells #[.int .i64 a, .int .i64 p] 30 (0, 0))) hb2) (.cells #[.slice B1 emptyG.terms.length d1, .slice B2 emptyG.names.length d2, .slice B3 emptyG.rules.length d3] 25 (0, 0))) (.cells #[.int .i64 a', .int .i64 p'] 30 (0, 0))) (blk_alloc (blk_new w2 (.cells #[.slice B1 emptyG.terms.length d1, .slice B2 emptyG.names.length d2, .slice B3 emptyG.rules.length d3] 25 (0, 0))) (.cells #[.int .i64 a', .int .i64 p'] 30 (0, 0))) (blk_two w2 (.cells #[.slice B1 emptyG.terms.length d1, .slice B2 emptyG.names.length d2, .slice B3 emptyG.rules.length d3] 25 (0, 0)) (.cells #[.int .i64 a', .int .i64 p'] 30 (0, 0))) (below_alloc (below_alloc (below_then (below_alloc (below_alloc HB1.out (.cells #[.slice A1 g.terms.length c1, .slice A2 g.names.length c2, .slice A3 g.rules.length c3] 25 (0, 0))) (.cells #[.int .i64 a, .int .i64 p] 30 (0, 0))) (by have := HB1.out.size; simp; omega) hb2) (.cells #[.slice B1 emptyG.terms.length d1, .slice B2 emptyG.names.length d2, .slice B3 emptyG.rules.length d3] 25 (0, 0))) (.cells #[.int .i64 a', .int .i64 p'] 30 (0, 0)))); clear hg2 hb2; obtain ⟨z1, z2, z3, z4, z5, z6, z7, z8⟩ := HK2.out.cells)) | (go_at_call 17; go_loud (refine (of_t s w H1.out).mono ?_; rintro e w1 ⟨⟨A1, A2, A3, c1, c2, c3, rfl, hg1⟩, hb1⟩; have HB1 := Aside0.mk hb1; have HG1 := Aside0.mk hg1; clear hb1 hg1)))
      go_ret
      exact ⟨ret_bool rfl, HB9.out⟩
    · have hlen := (lexE_len hl).1
      have HLX := Aside0.mk hl
      clear hl
      go_enter Try.func5, Try.ntmps5
      go_wp2_with (first | (have hx := HK2.out; go_at_call 26; go_loud (refine (lex_ok HLX.out _).mono ?_; rintro e w3 ⟨⟨L, c, rfl, hL⟩, hb3⟩; have HK3 := Aside0.mk (hx.below_ (below_alloc hb3 (.cells #[.int .i64 0, .int .i64 0] 30 (0, 0)))); have HL3 := Aside0.mk (Kd.C_below hL (below_alloc (Below.refl _ _) (.cells #[.int .i64 0, .int .i64 0] 30 (0, 0)))); clear hL hb3; obtain ⟨y1, y2, y3, y4, y5, y6, y7, y8⟩ := HK3.out.cells)) | (have hx := HB1.out; go_at_call 17; go_loud (refine (of_t (twice s) _ H2.out).mono ?_; rintro e w2 ⟨⟨B1, B2, B3, d1, d2, d3, rfl, hg2⟩, hb2⟩; have HK2 := Aside0.mk (AK.mk (b3 := w1.heap.size) (b5 := w2.heap.size) ((HG1.out.below_ (below_alloc (below_alloc (Below.refl _ _) (.cells #[.slice A1 g.terms.length c1, .slice A2 g.names.length c2, .slice A3 g.rules.length c3] 25 (0, 0))) (.cells #[.int .i64 0, .int .i64 p] 30 (0, 0)))).below_ (below_alloc (below_alloc hb2 (.cells #[.slice B1 h.terms.length d1, .slice B2 h.names.length d2, .slice B3 h.rules.length d3] 25 (0, 0))) (.cells #[.int .i64 a', .int .i64 p'] 30 (0, 0)))) (hg2.below_ (below_alloc (below_alloc (Below.refl _ _) (.cells #[.slice B1 h.terms.length d1, .slice B2 h.names.length d2, .slice B3 h.rules.length d3] 25 (0, 0))) (.cells #[.int .i64 a', .int .i64 p'] 30 (0, 0)))) (blk_alloc (blk_alloc (blk_below (blk_alloc (blk_new w1 (.cells #[.slice A1 g.terms.length c1, .slice A2 g.names.length c2, .slice A3 g.rules.length c3] 25 (0, 0))) (.cells #[.int .i64 0, .int .i64 p] 30 (0, 0))) hb2) (.cells #[.slice B1 h.terms.length d1, .slice B2 h.names.length d2, .slice B3 h.rules.length d3] 25 (0, 0))) (.cells #[.int .i64 a', .int .i64 p'] 30 (0, 0))) (blk_alloc (blk_alloc (blk_below (blk_two w1 (.cells #[.slice A1 g.terms.length c1, .slice A2 g.names.length c2, .slice A3 g.rules.length c3] 25 (0, 0)) (.cells #[.int .i64 0, .int .i64 p] 30 (0, 0))) hb2) (.cells #[.slice B1 h.terms.length d1, .slice B2 h.names.length d2, .slice B3 h.rules.length d3] 25 (0, 0))) (.cells #[.int .i64 a', .int .i64 p'] 30 (0, 0))) (blk_alloc (blk_new w2 (.cells #[.slice B1 h.terms.length d1, .slice B2 h.names.length d2, .slice B3 h.rules.length d3] 25 (0, 0))) (.cells #[.int .i64 a', .int .i64 p'] 30 (0, 0))) (blk_two w2 (.cells #[.slice B1 h.terms.length d1, .slice B2 h.names.length d2, .slice B3 h.rules.length d3] 25 (0, 0)) (.cells #[.int .i64 a', .int .i64 p'] 30 (0, 0))) (below_alloc (below_alloc (below_then (below_alloc (below_alloc HB1.out (.cells #[.slice A1 g.terms.length c1, .slice A2 g.names.length c2, .slice A3 g.rules.length c3] 25 (0, 0))) (.cells #[.int .i64 0, .int .i64 p] 30 (0, 0))) (by have := HB1.out.size; simp; omega) hb2) (.cells #[.slice B1 h.terms.length d1, .slice B2 h.names.length d2, .slice B3 h.rules.length d3] 25 (0, 0))) (.cells #[.int .i64 a', .int .i64 p'] 30 (0, 0)))); clear hg2 hb2; obtain ⟨z1, z2, z3, z4, z5, z6, z7, z8⟩ := HK2.out.cells)) | (go_at_call 17; go_loud (refine (of_t s w H1.out).mono ?_; rintro e w1 ⟨⟨A1, A2, A3, c1, c2, c3, rfl, hg1⟩, hb1⟩; have HB1 := Aside0.mk hb1; have HG1 := Aside0.mk hg1; clear hb1 hg1)))
      go_loop [10, 9] (fun i av => ∃ k : Nat, k ≤ l.length ∧ i = .int .i64 k ∧ av = .int .i64 (ends (l.take k) : Nat)) (fun i _ => l.length - (intOf i).toNat)
      case atStart => exact ⟨0, Nat.zero_le _, rfl, rfl⟩
      case round =>
        obtain ⟨k, hk, rfl, rfl⟩ := hrel
        have he1 : ends (l.take k) ≤ 2000 := by
          have h1 := ends_le (l.take k)
          rw [List.length_take] at h1
          omega
        by_cases hlt : k < l.length
        · obtain ⟨ld, eL, t1, t2, t3⟩ := at_tok HL3.out k hlt
          subst eL
          have j1 : (0 : Int) ≤ (k : Int) := by omega
          have j2 : (k : Int) < (l.length : Int) := by omega
          have HS := ends_take hlt
          obtain ⟨tk, htk⟩ : ∃ tk, tk = (l[k]'hlt) := ⟨_, rfl⟩
          rw [← htk] at t1 t2 t3 HS
          have HTK := Aside0.mk htk
          clear htk
          by_cases k4 : tk.kind = 4
          · have b4 : (tk.kind == 4) = true := by rw [k4]; rfl
            rw [if_pos (Or.inl k4)] at HS
            have HSS := Lib.hid HS
            clear k4 HS
            go_wp2
            go_round
            case rel => exact ⟨k + 1, by omega, by go_num, by rw [HSS.out]; go_num⟩
            case measure => simp [intOf]; omega
          · have b4 : (tk.kind == 4) = false := by rw [beq_eq_false_iff_ne]; exact k4
            by_cases k5 : tk.kind = 5
            · have b5 : (tk.kind == 5) = true := by rw [k5]; rfl
              rw [if_pos (Or.inr k5)] at HS
              have HSS := Lib.hid HS
              clear k4 k5 HS
              go_wp2
              go_round
              case rel => exact ⟨k + 1, by omega, by go_num, by rw [HSS.out]; go_num⟩
              case measure => simp [intOf]; omega
            · have b5 : (tk.kind == 5) = false := by rw [beq_eq_false_iff_ne]; exact k5
              rw [if_neg (by omega)] at HS
              have HSS := Lib.hid HS
              clear k4 k5 HS
              go_wp2
              go_round
              case rel => exact ⟨k + 1, by omega, by go_num, by rw [HSS.out]; go_num⟩
              case measure => simp [intOf]; omega
        · have hen : ends (l.take k) = ends l := by rw [List.take_of_length_le (by omega)]
          have hw2 : IntKind.i64.wrap (2 * ((ends (l.take k) : Nat) : Int)) = 2 * ((ends (l.take k) : Nat) : Int) := by rw [IntWalk.i64_in _ (by omega)]
          rcases hcs with ⟨h60, rfl⟩ | ⟨h60, rfl, rfl⟩
          · have q1 : (60 : Int) < 2 * ((ends (l.take k) : Nat) : Int) := by omega
            clear h60 hen
            go_wp2_with (go_at_call 16; go_loud (refine (wakes03_c _).mono ?_; rintro e w9 ⟨rfl, hb9⟩; have HB9 := Aside0.mk (below_then HK3.out.b HK3.out.b.size hb9); clear hb9))
            go_ret
            exact ⟨ret_bool rfl, HB9.out⟩
          · have q1 : ¬ (60 : Int) < 2 * ((ends (l.take k) : Nat) : Int) := by omega
            clear h60 hen
            go_wp2_with (first | (have hx := HK4.out; go_at_call 16; go_loud (refine (wakes03_c _).mono ?_; rintro e w9 ⟨rfl, hb9⟩; have HB9 := Aside0.mk (below_then hx.b hx.b.size hb9); clear hb9)) | (go_at_call 22; go_loud (refine (keepGrammar_c _ _ _ _ _ _ _ _ _ _ _ _ _ _ _ HK3.out.rg HK3.out.rh).mono ?_; rw [sameF_self]; rintro e w4 ⟨rfl, hb4⟩; have HK4 := Aside0.mk (HK3.out.below_ hb4); clear hb4)))
            go_ret
            exact ⟨ret_bool rfl, HB9.out⟩
end Go.Proofs.Ytphmmppmhphgeaa
