/- Texts Y2, X3, E3, S0, F1, F3, F6, joined: contracts of functions of the program, and plain laws; each says what it proves. -/
import Derived.Test.YtmkgcjhimajgiaaJD
import Derived.Test.YtmkgcjhimajgiaaJC
import Derived.Test.YtmkgcjhimajgiaaJB
import Derived.Test.YtmkgcjhimajgiaaJA
import Derived.Deep.Slices
import Derived.Lib.SmallJoins
import Derived.ProofKit
import Derived.OpenShut
import Derived.ShutString
import Derived.ChangeOld
/- The contract of keep.Own: a grammar of one's own. -/
set_option linter.unusedVariables false
set_option linter.unusedSimpArgs false
namespace Go.Proofs.Ytmkgcjhimajgiaa
open Go.RowKit Go.Proofs.YtmkgcjhimajgiaaW.PrintWords Go.Proofs.YtmkgcjhimajgiaaW.PrintLast

theorem OF.fresh {w W : World} {g : Gram} {A1 A2 A3 : Option Addr} {c1 c2 c3 : Nat} {v u : Value} {xs ys : List ByteArray} {ob : Option Nat} (h : OF w W g A1 A2 A3 c1 c2 c3 v xs u ys ob) : ∀ k, W.heap.size ≤ k → some k ≠ ob ∧ some k ≠ u.ownBlock := by
  intro k hk
  refine ⟨fun e => ?_, fresh_ne h.ru k hk⟩
  have := blk_lt (h.cell k e.symm).2
  omega
/-- A grammar of the call's own. -/
structure OwnG (W : World) (base : Nat) (g : Gram) (v1 v2 v3 : Value) : Prop where
  terms : kStr.R 9 W base (fun k => True ∧ some k ≠ v2.ownBlock) v1 g.terms
  names : kStr.R 9 W base (fun k => True ∧ some k ≠ v1.ownBlock) v2 g.names
  rules : kRule.R 46 W base (fun _ => True) v3 g.rules

/-- While its rules are made. -/
structure OwSt (w W : World) (b : Nat) (g : Gram) (A1 A2 A3 : Option Addr) (c1 c2 c3 : Nat) (v1 v2 v3 : Value) (k : Nat) : Prop where
  below : Below w.heap.size w W
  p : W.heap[w.heap.size]? = some (.cells #[.slice A1 g.terms.length c1, .slice A2 g.names.length c2, .slice A3 g.rules.length c3] 25 (0, 0))
  r : W.heap[w.heap.size + 1]? = some (.cells #[.slice none 0 0, .slice none 0 0, .slice none 0 0] 25 (0, 0))
  h : W.heap[b]? = some (.cells #[v1, v2, v3] 25 (0, 0))
  hb : w.heap.size + 1 < b
  R1 : kStr.R 9 W w.heap.size (fun k => True ∧ some k ≠ v2.ownBlock) v1 g.terms
  R2 : kStr.R 9 W w.heap.size (fun k => True ∧ some k ≠ v1.ownBlock) v2 g.names
  R3 : kRule.R 46 W w.heap.size (fun _ => True) v3 (g.rules.take k)
section
variable {w W W1 : World} {b k : Nat} {g : Gram} {A1 A2 A3 : Option Addr} {c1 c2 c3 : Nat} {v1 v2 v3 : Value}
theorem OwSt.start (h : OF w W g A1 A2 A3 c1 c2 c3 v1 g.terms v2 g.names (some b)) : OwSt w (((W.setCell ⟨b, 0, none⟩ v1).setCell ⟨b, 1, none⟩ v2).setCell ⟨b, 2, none⟩ (.slice none 0 0)) b g A1 A2 A3 c1 c2 c3 v1 v2 (.slice none 0 0) 0 := by
  obtain ⟨hbl, hbh⟩ := h.cell b rfl
  have h1 := blk_set hbh 0 v1
  have h2 := blk_set h1 1 v2
  have h3 := blk_set h2 2 (.slice none 0 0)
  have n1 : w.heap.size ≠ b := by omega
  have n2 : w.heap.size + 1 ≠ b := by omega
  have hb : w.heap.size ≤ b := by omega
  refine ⟨below_set (below_set (below_set h.below hb _ _) hb _ _) hb _ _, blk_far (blk_far (blk_far h.p n1 _) n1 _) n1 _, blk_far (blk_far (blk_far h.r n2 _) n2 _) n2 _, h3, hbl, ?_, ?_, Kd.R_nil _ _ _ _ _⟩
  · exact Kd.R_mono (Kd.R_set (Kd.R_set (Kd.R_set h.rv hbh (by decide) 0 _) h1 (by decide) 1 _) h2 (by decide) 2 _) (fun k hk => ⟨trivial, hk.2⟩)
  · exact Kd.R_mono (Kd.R_set (Kd.R_set (Kd.R_set h.ru hbh (by decide) 0 _) h1 (by decide) 1 _) h2 (by decide) 2 _) (fun k hk => ⟨trivial, hk.2⟩)
theorem OwSt.below_ (h : OwSt w W b g A1 A2 A3 c1 c2 c3 v1 v2 v3 k) (hb : Below W.heap.size W W1) : OwSt w W1 b g A1 A2 A3 c1 c2 c3 v1 v2 v3 k :=
  ⟨below_then h.below h.below.size hb, blk_below h.p hb, blk_below h.r hb, blk_below h.h hb, h.hb, Kd.R_below h.R1 hb, Kd.R_below h.R2 hb, Kd.R_below h.R3 hb⟩
theorem OwSt.drew_ (h : OwSt w W b g A1 A2 A3 c1 c2 c3 v1 v2 v3 k) : OwSt w W.drew b g A1 A2 A3 c1 c2 c3 v1 v2 v3 k := h.below_ (below_drew1 (Below.refl _ _))
theorem OwSt.alloc_ (h : OwSt w W b g A1 A2 A3 c1 c2 c3 v1 v2 v3 k) (o : Obj) : OwSt w (W.alloc o) b g A1 A2 A3 c1 c2 c3 v1 v2 v3 k := h.below_ (below_alloc (Below.refl _ _) o)
/-- A row that none of these is has grown. -/
theorem OwSt.other (h : OwSt w W b g A1 A2 A3 c1 c2 c3 v1 v2 v3 k) {q : Nat} (hq : W.heap.size ≤ q) {W2 : World} {o : Obj} (hb : Below w.heap.size w W2) (hg : (W.alloc o).grownBy W2 (some q)) : OwSt w W2 b g A1 A2 A3 c1 c2 c3 v1 v2 v3 k := by
  have ha := h.alloc_ o
  have nq : ∀ {i : Nat} {c : Array Value} {t : Nat}, W.heap[i]? = some (.cells c t (0, 0)) → some i ≠ some q := fun hi e => by have := blk_lt hi; injection e with e; omega
  have mv : ∀ {α : Type} {d : Kd α} {e : Nat} {ok : Nat → Prop} {v : Value} {xs : List α}, d.R e W w.heap.size ok v xs → d.R e W2 w.heap.size ok v xs := fun hr =>
    Kd.R_mono (Kd.R_grown (Kd.R_alloc (Kd.R_bound hr) o) hg (fun k hk e => by have := hk.2.2.1; injection e with e; omega)) (fun k hk => hk.1)
  exact ⟨hb, blk_grown ha.p hg (nq h.p), blk_grown ha.r hg (nq h.r), blk_grown ha.h hg (nq h.h), h.hb, mv h.R1, mv h.R2, mv h.R3⟩
/-- A rule more. -/
theorem OwSt.more (h : OwSt w W b g A1 A2 A3 c1 c2 c3 v1 v2 v3 k) {x : Rule} {v4 : Value} (hk : k < g.rules.length) (hx : x = g.rules[k]'hk) (a : Appd kRule 46 w W w.heap.size (fun _ => True) v3 (g.rules.take k ++ [x]) v4 W1) : OwSt w (W1.setCell ⟨b, 2, none⟩ v4) b g A1 A2 A3 c1 c2 c3 v1 v2 v4 (k + 1) := by
  have e1 : g.rules.take k ++ [x] = g.rules.take (k + 1) := by rw [List.take_succ_eq_append_getElem hk, hx]
  have hh := blk_grown h.h a.grown (Kd.R_ne h.R3 h.h (by decide))
  have hb := h.hb
  refine ⟨below_set a.below (show w.heap.size ≤ b by omega) _ _, blk_far (blk_grown h.p a.grown (Kd.R_ne h.R3 h.p (by decide))) (by show w.heap.size ≠ b; omega) _, blk_far (blk_grown h.r a.grown (Kd.R_ne h.R3 h.r (by decide))) (by show w.heap.size + 1 ≠ b; omega) _, blk_set hh 2 _, h.hb, Kd.R_set (Kd.R_over h.R1 h.R3 (by decide) a.grown) hh (by decide) 2 _, Kd.R_set (Kd.R_over h.R2 h.R3 (by decide) a.grown) hh (by decide) 2 _, ?_⟩
  rw [← e1]
  exact Kd.R_set a.row hh (by decide) 2 _
theorem OwSt.final (h : OwSt w W b g A1 A2 A3 c1 c2 c3 v1 v2 v3 g.rules.length) (u1 u2 u3 : Value) : OwnG (((W.setCell ⟨w.heap.size + 1, 0, none⟩ u1).setCell ⟨w.heap.size + 1, 1, none⟩ u2).setCell ⟨w.heap.size + 1, 2, none⟩ u3) w.heap.size g v1 v2 v3 ∧ Below w.heap.size w (((W.setCell ⟨w.heap.size + 1, 0, none⟩ u1).setCell ⟨w.heap.size + 1, 1, none⟩ u2).setCell ⟨w.heap.size + 1, 2, none⟩ u3) := by
  have h1 := blk_set h.r 0 u1
  have h2 := blk_set h1 1 u2
  have hb : w.heap.size ≤ w.heap.size + 1 := by omega
  have h3 := h.R3
  rw [List.take_length] at h3
  exact ⟨⟨Kd.R_set (Kd.R_set (Kd.R_set h.R1 h.r (by decide) 0 _) h1 (by decide) 1 _) h2 (by decide) 2 _, Kd.R_set (Kd.R_set (Kd.R_set h.R2 h.r (by decide) 0 _) h1 (by decide) 1 _) h2 (by decide) 2 _, Kd.R_set (Kd.R_set (Kd.R_set h3 h.r (by decide) 0 _) h1 (by decide) 1 _) h2 (by decide) 2 _⟩, below_set (below_set (below_set h.below hb _ _) hb _ _) hb _ _⟩
end
theorem results_own {tmps : Array Value} {W : World} {q : Nat} {A1 A2 A3 : Option Addr} {n1 n2 n3 c1 c2 c3 : Nat} (t2 : tmps.getD 2 undef = .pointer (some ⟨q, 0, none⟩))
    (h : W.heap[q]? = some (.cells #[.slice A1 n1 c1, .slice A2 n2 c2, .slice A3 n3 c3] 25 (0, 0))) :
    (results Try.f29 tmps).run Try.prog W = .ok (.agg #[.slice A1 n1 c1, .slice A2 n2 c2, .slice A3 n3 c3]) W := by
  have d1 := blk_cell h 0
  have d4 := blk_cell h 1
  have d5 := blk_cell h 2
  simp only [List.getElem?_toArray, List.getElem?_cons_zero, List.getElem?_cons_succ] at d1 d4 d5
  simp only [Array.getD_eq_getD_getElem?] at t2
  simp [results, Try.results29, go_sem, d1, d4, d5, t2]
theorem cell_lt {w : World} {p : Addr} {v : Value} (h : w.cell? p = some v) : p.block < w.heap.size := by
  unfold World.cell? at h
  split at h
  · rename_i hb; exact blk_lt hb
  · cases h
theorem cell_keep {w W : World} {p : Addr} {v : Value} (hb : Below w.heap.size w W) (h : w.cell? p = some v) : W.cell? p = w.cell? p := Below.cell hb (cell_lt h)
/-- What a round reads. -/
structure OS (w : World) (b : Nat) (g : Gram) (A1 A2 A3 : Option Addr) (c1 c2 c3 : Nat) (v1 v2 v3 : Value) (ad : Addr) (k : Nat) (x : Rule) (R : Option Addr) (cr : Nat) (W : World) : Prop where
  below : Below w.heap.size w W
  p : W.heap[w.heap.size]? = some (.cells #[.slice A1 g.terms.length c1, .slice A2 g.names.length c2, .slice A3 g.rules.length c3] 25 (0, 0))
  h : W.heap[b]? = some (.cells #[v1, v2, v3] 25 (0, 0))
  x1 : W.cell? (ad.add (k * 2)) = some (.int .i64 x.left)
  x2 : W.cell? ⟨(ad.add (k * 2)).block, (ad.add (k * 2)).off + 1, none⟩ = some (.slice R x.right.length cr)
theorem OS.mk' {w W : World} {b k k0 : Nat} {g : Gram} {A1 A2 A3 : Option Addr} {c1 c2 c3 : Nat} {v1 v2 v3 : Value} {ad : Addr} {x : Rule} {R : Option Addr} {cr : Nat} (h : OwSt w W b g A1 A2 A3 c1 c2 c3 v1 v2 v3 k0) (h1 : w.cell? (ad.add (k * 2)) = some (.int .i64 x.left)) (h2 : w.cell? ⟨(ad.add (k * 2)).block, (ad.add (k * 2)).off + 1, none⟩ = some (.slice R x.right.length cr)) : OS w b g A1 A2 A3 c1 c2 c3 v1 v2 v3 ad k x R cr W :=
  ⟨h.below, h.p, h.h, (cell_keep h.below h1).trans h1, (cell_keep h.below h2).trans h2⟩
theorem OS.alloc_ {w W : World} {b k : Nat} {g : Gram} {A1 A2 A3 : Option Addr} {c1 c2 c3 : Nat} {v1 v2 v3 : Value} {ad : Addr} {x : Rule} {R : Option Addr} {cr : Nat} (h : OS w b g A1 A2 A3 c1 c2 c3 v1 v2 v3 ad k x R cr W) (o : Obj) : OS w b g A1 A2 A3 c1 c2 c3 v1 v2 v3 ad k x R cr (W.alloc o) := by
  have hb := below_alloc (Below.refl W.heap.size W) o
  exact ⟨below_then h.below h.below.size hb, blk_below h.p hb, blk_below h.h hb, (cell_keep hb h.x1).trans h.x1, (cell_keep hb h.x2).trans h.x2⟩
theorem ints_new (W : World) (base : Nat) (hb : base ≤ W.heap.size) (ok : Nat → Prop) (hok : ok W.heap.size) : kInt.R 3 (W.alloc (.cells #[] 3)) base ok (.slice (some ⟨W.heap.size, 0, none⟩) 0 0) [] := by
  have h := own_lit W base 3 .i64 [] hb (by simp)
  exact Kd.R_of_own h (fun k hk => by
    have : W.heap.size = k := by simpa [Value.ownBlock] using hk
    subst this
    exact hok)
/-- Numbers behind numbers. -/
theorem app_ints_step {ops : Array Oper} {o : Oper} {a : Act} {Q : Exit → Act → World → Prop} {Kc : Act → World → Prop} {base : Nat} {w0 W : World} {ok : Nat → Prop} {v : Value} {s x : Operand} {xs ys : List Int} {A : Option Addr} {c : Nat} (hw : Region.wanted o (yielded ops a.tmps) = true) (ho : o.op = .call { callee := .builtin .append, args := #[s, x], argTypes := #[26, 26] })
    (HO : kInt.R 3 W base ok v xs) (HB : Below base w0 W) (hbase : base ≤ W.heap.size) (hl : xs.length + ys.length ≤ 1000000000000) (hfresh : ∀ k, W.heap.size ≤ k → ok k) (hs : a.eval s = v) (hx : a.eval x = .slice A ys.length c) (HC : kInt.C W A ys.length ys)
    (h : ∀ v1 w1, kInt.R 3 w1 base ok v1 (xs ++ ys) → Below base w0 w1 → W.grownBy w1 v.ownBlock → (v1.ownBlock = v.ownBlock ∨ ∃ b, v1.ownBlock = some b ∧ W.heap.size ≤ b) → Kc (a.put o.dst v1) w1) :
    if Region.wanted o (yielded ops a.tmps) = true then Oper.wp Try.prog o a W Kc Q else Kc (a.put o.dst undef) W :=
  Kd.R_append_rows_step kInt base hw s x 26 3 _ 8 ho Try.underlying26 infoInt rfl (by decide) (by decide) v xs ys A ys.length c ok (fun _ => False) hs hx HO HC (fun x cs h => h) (fun _ h => h.elim) hfresh HB hbase (by omega) h
theorem app_rule_step {ops : Array Oper} {o : Oper} {a : Act} {Q : Exit → Act → World → Prop} {Kc : Act → World → Prop} {w0 W : World} {v u : Value} {s x : Operand} {xs : List Rule} {p : Rule} (hw : Region.wanted o (yielded ops a.tmps) = true) (ho : o.op = .call { callee := .builtin .append, args := #[s, x], argTypes := #[23, 23] })
    (HO : kRule.R 46 W w0.heap.size (fun _ => True) v xs) (HU : kInt.R 3 W w0.heap.size (fun q => some q ≠ v.ownBlock) u p.right) (HB : Below w0.heap.size w0 W) (hl : xs.length + 1 ≤ 2000000000000) (hs : a.eval s = v) (hx : a.eval x = .slice (some ⟨W.heap.size, 0, none⟩) 1 1)
    (h : ∀ v1 w1, Appd kRule 46 w0 W w0.heap.size (fun _ => True) v (xs ++ [p]) v1 w1 → Kc (a.put o.dst v1) w1) :
    if Region.wanted o (yielded ops a.tmps) = true then Oper.wp Try.prog o a (W.alloc (.cells #[.int .i64 p.left, u] 46)) Kc Q else Kc (a.put o.dst undef) (W.alloc (.cells #[.int .i64 p.left, u] 46)) :=
  Kd.R_append_step kRule w0.heap.size hw s x 23 46 _ 32 ho Try.underlying23 infoRule rfl (by decide) (by decide) v xs p [.int .i64 p.left, u] (fun _ => True) (fun q => some q ≠ v.ownBlock) hs hx (M_rule HU) (fun _ h => ⟨trivial, h⟩) (fun _ _ => trivial) HO HB HB.size (by omega) (fun v1 w1 h1 h2 h3 h4 => h v1 w1 ⟨h1, h2, h3, h4⟩)

set_option maxRecDepth 100000 in
set_option maxHeartbeats 8000000 in
theorem own_c (g : Gram) (A1 A2 A3 : Option Addr) (c1 c2 c3 : Nat) (w : World) (hg : RepG w g A1 A2 A3 c1 c2 c3) (hsm : g.terms.length ≤ 100000 ∧ g.names.length ≤ 100000 ∧ g.rules.length ≤ 100000 ∧ ∀ r ∈ g.rules, r.right.length ≤ 100000) :
    Calls Try.prog 29 #[.agg #[.slice A1 g.terms.length c1, .slice A2 g.names.length c2, .slice A3 g.rules.length c3]] w fun e w' => (∃ B1 B2 B3 d1 d2 d3, e = .returned (.agg #[.slice B1 g.terms.length d1, .slice B2 g.names.length d2, .slice B3 g.rules.length d3]) ∧ OwnG w' w.heap.size g (.slice B1 g.terms.length d1) (.slice B2 g.names.length d2) (.slice B3 g.rules.length d3)) ∧ Below w.heap.size w w' := by
  have HF0 : Aside0 (OF w ((w.alloc (.cells #[.slice A1 g.terms.length c1, .slice A2 g.names.length c2, .slice A3 g.rules.length c3] 25 (0, 0))).alloc (.cells #[.slice none 0 0, .slice none 0 0, .slice none 0 0] 25 (0, 0))).drew g A1 A2 A3 c1 c2 c3 (.slice none 0 0) [] (.slice none 0 0) [] none) :=
    ⟨⟨below_drew1 (((Below.refl w.heap.size w).alloc (Nat.le_refl _) _).alloc (by simp) _), blk_drew (blk_alloc (blk_new w _) _), blk_drew (by have h := blk_new (w.alloc (.cells #[.slice A1 g.terms.length c1, .slice A2 g.names.length c2, .slice A3 g.rules.length c3] 25 (0, 0))) (.cells #[.slice none 0 0, .slice none 0 0, .slice none 0 0] 25 (0, 0)); rw [show (w.alloc (.cells #[.slice A1 g.terms.length c1, .slice A2 g.names.length c2, .slice A3 g.rules.length c3] 25 (0, 0))).heap.size = w.heap.size + 1 by simp] at h; exact h), Kd.R_nil _ _ _ _ _, Kd.R_nil _ _ _ _ _, fun b e => by cases e⟩⟩
  have HG := Aside0.mk hg
  have HSM := Aside0.mk hsm
  clear hg hsm
  go_enter Try.func29, Try.ntmps29
  go_wp2
  obtain ⟨W0, hW0⟩ : ∃ W0 : World, W0 = ((w.alloc (.cells #[.slice A1 g.terms.length c1, .slice A2 g.names.length c2, .slice A3 g.rules.length c3] 25 (0, 0))).alloc (.cells #[.slice none 0 0, .slice none 0 0, .slice none 0 0] 25 (0, 0))) := ⟨_, rfl⟩
  rw [← hW0] at HF0
  simp only [← hW0]
  clear hW0
  refine start_ (n := 11) (S := fun w' => Below w.heap.size w w' ∧ w'.heap[w.heap.size]? = some (.cells #[.slice A1 g.terms.length c1, .slice A2 g.names.length c2, .slice A3 g.rules.length c3] 25 (0, 0)) ∧ w'.heap[w.heap.size + 1]? = some (.cells #[.slice none 0 0, .slice none 0 0, .slice none 0 0] 25 (0, 0))) (ds := [10]) #[false, false, false, false, false, false, false, false, false, false, false] (by kernel_rfl) rfl rfl (⟨HF0.out.below, HF0.out.p, HF0.out.r⟩) (fun hHeld => ?_)
  refine pure_ (i := 1) (N := (some 6)) (v := ?_) (a' := ?_) #[false, true, false, false, false, false, false, false, false, false, false] rfl rfl (by kernel_rfl) (fun _ _ _ h => h) (Or.inl ⟨by rfl, ?_⟩) ?_ ?_
  rotate_left
  · (intro w'; go_simp; with_reducible rfl)
  rotate_left
  · (simp only [Act.put, List.setIfInBounds_toArray, List.set_cons_zero, List.set_cons_succ]; rfl)
  refine pure_ (i := 5) (N := (some 10)) (v := ?_) (a' := ?_) #[false, true, false, false, false, true, false, false, false, false, false] rfl rfl (by kernel_rfl) (fun _ _ _ h => h) (Or.inl ⟨by rfl, ?_⟩) ?_ ?_
  rotate_left
  · (intro w'; go_simp; with_reducible rfl)
  rotate_left
  · (simp only [Act.put, List.setIfInBounds_toArray, List.set_cons_zero, List.set_cons_succ]; rfl)
  refine take_ (i := 2) (N := (some 7)) (v := ?_) (a' := ?_) #[false, true, true, false, false, true, false, false, false, false, false] rfl rfl (by kernel_rfl) (fun _ _ _ h => h) (Or.inl ⟨by rfl, ?_⟩) hHeld ?_ ?_
  rotate_left
  · (rintro w' ⟨_, s0, _⟩; have d0 : w'.cell? ⟨w.heap.size, 0, none⟩ = some (.slice A1 g.terms.length c1) := (blk_cell s0 0).trans rfl; have d1 : w'.cell? ⟨w.heap.size, 1, none⟩ = some (.slice A2 g.names.length c2) := (blk_cell s0 1).trans rfl; go_simp; with_reducible rfl)
  rotate_left
  · (simp only [Act.put, List.setIfInBounds_toArray, List.set_cons_zero, List.set_cons_succ]; rfl)
  refine take_ (i := 6) (N := (some 11)) (v := ?_) (a' := ?_) #[false, true, true, false, false, true, true, false, false, false, false] rfl rfl (by kernel_rfl) (fun _ _ _ h => h) (Or.inl ⟨by rfl, ?_⟩) hHeld ?_ ?_
  rotate_left
  · (rintro w' ⟨_, s0, _⟩; have d0 : w'.cell? ⟨w.heap.size, 0, none⟩ = some (.slice A1 g.terms.length c1) := (blk_cell s0 0).trans rfl; have d1 : w'.cell? ⟨w.heap.size, 1, none⟩ = some (.slice A2 g.names.length c2) := (blk_cell s0 1).trans rfl; go_simp; with_reducible rfl)
  rotate_left
  · (simp only [Act.put, List.setIfInBounds_toArray, List.set_cons_zero, List.set_cons_succ]; rfl)
  refine join_ (σ := Value × Option Addr × Nat × Value × Option Addr × Nat × Nat) 1 #[true, true, true, true, true, true, true, true, true, true, false] (fun s => [(5, s.1), (8, (.slice s.2.1 g.terms.length s.2.2.1)), (9, s.2.2.2.1), (12, (.slice s.2.2.2.2.1 g.names.length s.2.2.2.2.2.1)), (13, .agg #[(.slice s.2.1 g.terms.length s.2.2.1), (.slice s.2.2.2.2.1 g.names.length s.2.2.2.2.2.1), .slice none 0 0]), (3, .pointer (some ⟨s.2.2.2.2.2.2, 0, none⟩))]) (fun s w' => OF w w' g A1 A2 A3 c1 c2 c3 (.slice s.2.1 g.terms.length s.2.2.1) g.terms (.slice s.2.2.2.2.1 g.names.length s.2.2.2.2.2.1) g.names (some s.2.2.2.2.2.2)) ?_ ?_
  · rintro ⟨v5, A8, c8, v9, A12, c12, b⟩ W' hF
    refine norm_ (a' := ?_) ?_ ?_
    rotate_left
    · (simp only [putAll, Act.put, List.setIfInBounds_toArray, List.set_cons_zero, List.set_cons_succ]; rfl)
    try dsimp only at hF
    have HF := Aside0.mk hF
    clear hF
    obtain ⟨hbl, hbh⟩ := HF.out.cell b rfl
    have c1' := blk_cell hbh 0
    have c2' := blk_cell hbh 1
    have c3' := blk_cell hbh 2
    have f1' := blk_frozen hbh 0
    have f2' := blk_frozen hbh 1
    have f3' := blk_frozen hbh 2
    simp only [List.getElem?_toArray, List.getElem?_cons_zero, List.getElem?_cons_succ] at c1' c2' c3'
    have HO0 := Aside0.mk (OwSt.start HF.out)
    clear hbh
    refine last_ (i := 10) (N := none) #[true, true, true, true, true, true, true, true, true, true, true] rfl rfl (by kernel_rfl) (by decide) (fun K hK => ?_)
    refine skip_ (w1 := ?_) (by rfl) rfl ?_ ?_
    rotate_left
    · (go_simp; rfl)
    refine hK.out _ _ ?_
    clear hK K
    refine done_ (by kernel_rfl) ?_
    clear HF HF0 c1' c2' c3' f1' f2' f3'
    go_wp2
    go_loopw [4] (fun i wr => ∃ (k : Nat) (A9 : Option Addr) (c9 : Nat), k ≤ g.rules.length ∧ i = .int .i64 k ∧ Aside0 (OwSt w wr b g A1 A2 A3 c1 c2 c3 (.slice A8 g.terms.length c8) (.slice A12 g.names.length c12) (.slice A9 k c9) k)) (fun i _ => g.rules.length - (intOf i).toNat)
    case atStart => exact ⟨0, none, 0, Nat.zero_le _, rfl, HO0⟩
    case round =>
      clear HO0
      obtain ⟨k, A9, c9, hk, rfl, HO⟩ := hrel
      have z3 := (blk_cell HO.out.p 2).trans rfl
      by_cases hlt : k < g.rules.length
      · have hm := C_max HG.out.rules
        obtain ⟨ad, R, cr, eA, hx1, hx2, hcr, hR⟩ := at_rule HG.out.rules k hlt
        subst eA
        obtain ⟨x, hx⟩ : ∃ x, x = g.rules[k]'hlt := ⟨_, rfl⟩
        have hxl : x.right.length ≤ 100000 := by rw [hx]; exact HSM.out.2.2.2 _ (List.getElem_mem hlt)
        rw [← hx] at hx1 hx2 hcr hR
        have HX := Aside0.mk hx
        have HXR := Aside0.mk hR
        have HS0 : Aside0 (OS w b g A1 A2 (some ad) c1 c2 c3 (.slice A8 g.terms.length c8) (.slice A12 g.names.length c12) (.slice A9 k c9) ad k x R cr wr.drew) := ⟨OS.mk' HO.out.drew_ hx1 hx2⟩
        have HX1 := Aside0.mk hx1
        have HX2 := Aside0.mk hx2
        have j1 : (0 : Int) ≤ (k : Int) := by omega
        have j2 : (k : Int) < (g.rules.length : Int) := by omega
        clear hx hR hx1 hx2
        go_wp2
        refine start_ (n := 21) (S := OS w b g A1 A2 (some ad) c1 c2 c3 (.slice A8 g.terms.length c8) (.slice A12 g.names.length c12) (.slice A9 k c9) ad k x R cr) (ds := [20]) #[false, false, false, false, false, false, false, false, false, false, false, false, false, false, false, false, false, false, false, false, false] (by kernel_rfl) rfl rfl (HS0.out) (fun hHeld => ?_)
        refine pu_ ?_ ?_ 0 (some 21) #[true, false, false, false, false, false, false, false, false, false, false, false, false, false, false, false, false, false, false, false, false] ?_
        refine pu_ ?_ ?_ 2 (some 23) #[true, false, true, false, false, false, false, false, false, false, false, false, false, false, false, false, false, false, false, false, false] ?_
        refine pu_ ?_ ?_ 4 (some 25) #[true, false, true, false, true, false, false, false, false, false, false, false, false, false, false, false, false, false, false, false, false] ?_
        refine pu_ ?_ ?_ 9 (some 30) #[true, false, true, false, true, false, false, false, false, true, false, false, false, false, false, false, false, false, false, false, false] ?_
        refine pu_ ?_ ?_ 11 (some 32) #[true, false, true, false, true, false, false, false, false, true, false, true, false, false, false, false, false, false, false, false, false] ?_
        refine ta_ ?_ ?_ 1 (some 22) #[true, true, true, false, true, false, false, false, false, true, false, true, false, false, false, false, false, false, false, false, false] hHeld ?_ (y := by rintro w' ⟨_, s0, s1, s2, s3⟩; have d0 : w'.cell? ⟨w.heap.size, 2, none⟩ = some (.slice (some ad) g.rules.length c3) := (blk_cell s0 2).trans rfl; have d1 : w'.cell? ⟨b, 2, none⟩ = some (.slice A9 k c9) := (blk_cell s1 2).trans rfl; go_simp; with_reducible rfl)
        refine ta_ ?_ ?_ 3 (some 24) #[true, true, true, true, true, false, false, false, false, true, false, true, false, false, false, false, false, false, false, false, false] hHeld ?_ (y := by rintro w' ⟨_, s0, s1, s2, s3⟩; have d0 : w'.cell? ⟨w.heap.size, 2, none⟩ = some (.slice (some ad) g.rules.length c3) := (blk_cell s0 2).trans rfl; have d1 : w'.cell? ⟨b, 2, none⟩ = some (.slice A9 k c9) := (blk_cell s1 2).trans rfl; go_simp; with_reducible rfl)
        refine pu_ ?_ ?_ 5 (some 26) #[true, true, true, true, true, true, false, false, false, true, false, true, false, false, false, false, false, false, false, false, false] ?_
        refine pu_ ?_ ?_ 6 (some 27) #[true, true, true, true, true, true, true, false, false, true, false, true, false, false, false, false, false, false, false, false, false] ?_
        refine ta_ ?_ ?_ 7 (some 28) #[true, true, true, true, true, true, true, true, false, true, false, true, false, false, false, false, false, false, false, false, false] hHeld ?_ (y := by rintro w' ⟨_, s0, s1, s2, s3⟩; have d0 : w'.cell? ⟨w.heap.size, 2, none⟩ = some (.slice (some ad) g.rules.length c3) := (blk_cell s0 2).trans rfl; have d1 : w'.cell? ⟨b, 2, none⟩ = some (.slice A9 k c9) := (blk_cell s1 2).trans rfl; go_simp; with_reducible rfl)
        refine ta_ ?_ ?_ 10 (some 31) #[true, true, true, true, true, true, true, true, false, true, true, true, false, false, false, false, false, false, false, false, false] hHeld ?_ (y := by rintro w' ⟨_, s0, s1, s2, s3⟩; have d0 : w'.cell? ⟨w.heap.size, 2, none⟩ = some (.slice (some ad) g.rules.length c3) := (blk_cell s0 2).trans rfl; have d1 : w'.cell? ⟨b, 2, none⟩ = some (.slice A9 k c9) := (blk_cell s1 2).trans rfl; go_simp; with_reducible rfl)
        refine pu_ ?_ ?_ 12 (some 33) #[true, true, true, true, true, true, true, true, false, true, true, true, true, false, false, false, false, false, false, false, false] ?_
        refine pu_ ?_ ?_ 13 (some 34) #[true, true, true, true, true, true, true, true, false, true, true, true, true, true, false, false, false, false, false, false, false] ?_
        refine ta_ ?_ ?_ 14 (some 35) #[true, true, true, true, true, true, true, true, false, true, true, true, true, true, true, false, false, false, false, false, false] hHeld ?_ (y := by rintro w' ⟨_, s0, s1, s2, s3⟩; have d0 : w'.cell? ⟨w.heap.size, 2, none⟩ = some (.slice (some ad) g.rules.length c3) := (blk_cell s0 2).trans rfl; have d1 : w'.cell? ⟨b, 2, none⟩ = some (.slice A9 k c9) := (blk_cell s1 2).trans rfl; go_simp; with_reducible rfl)
        refine on_ 8 (some 29) #[true, true, true, true, true, true, true, true, true, true, true, true, true, true, true, false, false, false, false, false, false] (fun K hK => ?_)
        refine va_ ?_ ?_ ?_
        refine hK.out _ _ (hHeld.alloc_ _) (fun hHeld => ?_)
        clear hK K
        refine nm_ ?_ (some 29) ?_
        refine on_ 15 (some 36) #[true, true, true, true, true, true, true, true, true, true, true, true, true, true, true, true, false, false, false, false, false] (fun K hK => ?_)
        (refine app_ints_step (w0 := w) (base := w.heap.size) (A := R) (c := cr) (ok := fun q => some q ≠ (Value.slice A9 k c9).ownBlock) (by rfl) rfl (ints_new wr.drew w.heap.size HO.out.below.size _ (fresh_ne HO.out.drew_.R3 _ (Nat.le_refl _))) hHeld.below hHeld.below.size (by simp only [List.length_nil]; omega) (fun q hq => fresh_ne (HO.out.drew_.alloc_ _).R3 q hq) (by simp [Act.eval]) (by simp [Act.eval]) (Kd.C_below HXR.out hHeld.below) ?_; intro v1 W1 hr1 hb1 hg1 ha1; rw [List.nil_append] at hr1; obtain ⟨Av1, cv1, rfl⟩ := Kd.R_slice hr1; have HO1 := Aside0.mk (OwSt.other HO.out.drew_ (Nat.le_refl _) hb1 hg1); have HU1 := Aside0.mk hr1; have HS1 := Aside0.mk (OS.mk' HO1.out HX1.out HX2.out); clear hr1 hb1 hg1 ha1; refine hK.out _ _ HS1.out (fun hHeld => ?_))
        clear hK K
        refine nm_ ?_ (some 36) ?_
        refine pu_ ?_ ?_ 16 (some 37) #[true, true, true, true, true, true, true, true, true, true, true, true, true, true, true, true, true, false, false, false, false] ?_
        refine on_ 17 (some 38) #[true, true, true, true, true, true, true, true, true, true, true, true, true, true, true, true, true, true, false, false, false] (fun K hK => ?_)
        refine va_ ?_ ?_ ?_
        refine hK.out _ _ (hHeld.alloc_ _) (fun hHeld => ?_)
        clear hK K
        refine nm_ ?_ (some 38) ?_
        refine on_ 18 (some 39) #[true, true, true, true, true, true, true, true, true, true, true, true, true, true, true, true, true, true, true, false, false] (fun K hK => ?_)
        (refine app_rule_step (w0 := w) (p := x) (by rfl) rfl HO1.out.R3 HU1.out HO1.out.below (by rw [List.length_take]; have := HSM.out; omega) (by simp [Act.eval]) (by simp [Act.eval]) ?_; intro v1 W1 A1'; obtain ⟨Av2, cv2, hv2⟩ := A1'.shape; rw [List.length_take, Nat.min_eq_left (Nat.le_of_lt hlt)] at hv2; subst hv2; have HO2 := Aside0.mk (OwSt.more HO1.out hlt HX.out A1'); have hh := blk_grown HO1.out.h A1'.grown (Kd.R_ne HO1.out.R3 HO1.out.h (by decide)); have d3 := blk_cell hh 2; have d4 := blk_frozen hh 2; simp only [List.getElem?_toArray, List.getElem?_cons_zero, List.getElem?_cons_succ] at d3; have HS2 := Aside0.mk (OS.mk (x := x) A1'.below (blk_grown HO1.out.p A1'.grown (Kd.R_ne HO1.out.R3 HO1.out.p (by decide))) hh ((cell_keep A1'.below HX1.out).trans HX1.out) ((cell_keep A1'.below HX2.out).trans HX2.out)); clear A1' hh; refine hK.out _ _ HS2.out (fun hHeld => ?_))
        clear hK K
        refine nm_ ?_ (some 39) ?_
        refine pu_ ?_ ?_ 19 (some 40) #[true, true, true, true, true, true, true, true, true, true, true, true, true, true, true, true, true, true, true, true, false] ?_
        refine ls_ 20 none #[true, true, true, true, true, true, true, true, true, true, true, true, true, true, true, true, true, true, true, true, true] (fun K hK => ?_)
        skip
        refine skip_ (w1 := ?_) (by rfl) rfl ?_ ?_
        rotate_left
        · (go_simp; first | rfl | (constructor; rfl; rfl))
        refine hK.out _ _ ?_
        clear hK K
        refine done_ (by kernel_rfl) ?_
        go_wp2
        go_roundw
        case rel => exact ⟨k + 1, Av2, cv2, by omega, by go_num, HO2⟩
        case measure => simp [intOf]; omega
      · obtain rfl : k = g.rules.length := by omega
        have e0 := (blk_cell HO.out.h 0).trans rfl
        have e1 := (blk_cell HO.out.h 1).trans rfl
        have e2 := (blk_cell HO.out.h 2).trans rfl
        have r0 := (blk_cell HO.out.r 0).trans rfl
        have r1 := (blk_cell HO.out.r 1).trans rfl
        have r2 := (blk_cell HO.out.r 2).trans rfl
        have f0 := blk_frozen HO.out.r 0
        have f1 := blk_frozen HO.out.r 1
        have f2 := blk_frozen HO.out.r 2
        go_wp2
        have hfin := OwSt.final HO.out (.slice A8 g.terms.length c8) (.slice A12 g.names.length c12) (.slice A9 g.rules.length c9)
        exact bodyPost_ret (results_own rfl (blk_set (blk_set (blk_set HO.out.r 0 _) 1 _) 2 _)) rfl ⟨⟨_, _, _, _, _, _, rfl, hfin.1⟩, hfin.2⟩
  intro h221
  simp only [putAll, Act.put, List.setIfInBounds_toArray, List.set_cons_zero, List.set_cons_succ] at h221
  refine join_ (σ := Value × Option Addr × Nat × Value × Option Addr × Nat × Nat) 3 #[true, true, true, true, true, true, true, false, false, true, false] (fun s => [(5, s.1), (8, (.slice s.2.1 g.terms.length s.2.2.1)), (9, s.2.2.2.1), (3, .pointer (some ⟨s.2.2.2.2.2.2, 0, none⟩))]) (fun s w' => OF w w' g A1 A2 A3 c1 c2 c3 (.slice s.2.1 g.terms.length s.2.2.1) g.terms s.2.2.2.1 [] (some s.2.2.2.2.2.2)) ?_ ?_
  · rintro ⟨v5, A8, c8, v9, A12, c12, b⟩ W' hF
    refine norm_ (a' := ?_) ?_ ?_
    rotate_left
    · (simp only [putAll, Act.put, List.setIfInBounds_toArray, List.set_cons_zero, List.set_cons_succ]; rfl)
    try dsimp only at hF
    have HF := Aside0.mk hF
    clear hF
    refine one_ (i := 7) (N := (some 12)) #[true, true, true, true, true, true, true, true, false, true, false] rfl rfl (by kernel_rfl) (by decide) (fun K hK => ?_)
    refine app_strs_step (A := A2) (c := c2) (w0 := w) (base := w.heap.size) (by rfl) rfl HF.out.swap.rv HF.out.below HF.out.below.size (by simp only [List.length_nil]; have := HSM.out; omega) (OF.fresh HF.out.swap) (by simp [Act.eval]) (by simp [Act.eval]) (Kd.C_below HG.out.names HF.out.below) ?_; intro v1 W1 hr1 hb1 hg1 ha1; rw [List.nil_append] at hr1; obtain ⟨Av1, cv1, rfl⟩ := Kd.R_slice hr1; have HN := Aside0.mk (HF.out.swap.appV hr1 hb1 hg1 ha1); clear hr1 hb1 hg1 ha1; refine hK.out _ _ ⟨HN.out.below, HN.out.p, HN.out.r⟩ (fun _ => ?_)
    clear hK K
    refine norm_ (a' := ?_) ?_ ?_
    rotate_left
    · (show Act.put _ (some 12) _ = _; simp only [Act.put, List.setIfInBounds_toArray, List.set_cons_zero, List.set_cons_succ]; rfl)
    refine pure_ (i := 8) (N := (some 13)) (v := ?_) (a' := ?_) #[true, true, true, true, true, true, true, true, true, true, false] rfl rfl (by kernel_rfl) (fun _ _ _ h => h) (Or.inl ⟨by rfl, ?_⟩) ?_ ?_
    rotate_left
    · (intro w'; go_simp; with_reducible rfl)
    rotate_left
    · (simp only [Act.put, List.setIfInBounds_toArray, List.set_cons_zero, List.set_cons_succ]; rfl)
    exact h221 (v5, A8, c8, v9, Av1, cv1, b) _ HN.out.swap
  intro h211
  simp only [putAll, Act.put, List.setIfInBounds_toArray, List.set_cons_zero, List.set_cons_succ] at h211
  refine join_ (σ := Value × Option Addr × Nat × Value × Option Addr × Nat × Nat) 2 #[true, true, true, true, true, true, true, true, true, false, false] (fun s => [(5, s.1), (8, (.slice s.2.1 g.terms.length s.2.2.1)), (9, s.2.2.2.1), (12, (.slice s.2.2.2.2.1 g.names.length s.2.2.2.2.2.1)), (13, .agg #[(.slice s.2.1 g.terms.length s.2.2.1), (.slice s.2.2.2.2.1 g.names.length s.2.2.2.2.2.1), .slice none 0 0])]) (fun s w' => OF w w' g A1 A2 A3 c1 c2 c3 (.slice s.2.1 g.terms.length s.2.2.1) g.terms (.slice s.2.2.2.2.1 g.names.length s.2.2.2.2.2.1) g.names none) ?_ ?_
  · rintro ⟨v5, A8, c8, v9, A12, c12, b⟩ W' hF
    refine norm_ (a' := ?_) ?_ ?_
    rotate_left
    · (simp only [putAll, Act.put, List.setIfInBounds_toArray, List.set_cons_zero, List.set_cons_succ]; rfl)
    try dsimp only at hF
    have HF := Aside0.mk hF
    clear hF
    refine one_ (i := 9) (N := (some 3)) #[true, true, true, true, true, true, true, true, true, true, false] rfl rfl (by kernel_rfl) (by decide) (fun K hK => ?_)
    have HN := Aside0.mk HF.out.mkB; refine value_ (w1 := ?_) (v := ?_) (by rfl) rfl ?_ ?_; rotate_left 2; (go_simp; constructor; rfl; rfl); refine hK.out _ _ ⟨HN.out.below, HN.out.p, HN.out.r⟩ (fun _ => ?_)
    clear hK K
    refine norm_ (a' := ?_) ?_ ?_
    rotate_left
    · (show Act.put _ (some 3) _ = _; simp only [Act.put, List.setIfInBounds_toArray, List.set_cons_zero, List.set_cons_succ]; rfl)
    exact h221 (v5, A8, c8, v9, A12, c12, _) _ HN.out
  intro h220
  simp only [putAll, Act.put, List.setIfInBounds_toArray, List.set_cons_zero, List.set_cons_succ] at h220
  refine join_ (σ := Value × Option Addr × Nat × Value × Option Addr × Nat × Nat) 4 #[true, true, true, false, true, true, true, false, false, true, false] (fun s => [(5, s.1), (9, s.2.2.2.1), (3, .pointer (some ⟨s.2.2.2.2.2.2, 0, none⟩))]) (fun s w' => OF w w' g A1 A2 A3 c1 c2 c3 s.1 [] s.2.2.2.1 [] (some s.2.2.2.2.2.2)) ?_ ?_
  · rintro ⟨v5, A8, c8, v9, A12, c12, b⟩ W' hF
    refine norm_ (a' := ?_) ?_ ?_
    rotate_left
    · (simp only [putAll, Act.put, List.setIfInBounds_toArray, List.set_cons_zero, List.set_cons_succ]; rfl)
    try dsimp only at hF
    have HF := Aside0.mk hF
    clear hF
    refine one_ (i := 3) (N := (some 8)) #[true, true, true, true, true, true, true, false, false, true, false] rfl rfl (by kernel_rfl) (by decide) (fun K hK => ?_)
    refine app_strs_step (A := A1) (c := c1) (w0 := w) (base := w.heap.size) (by rfl) rfl HF.out.rv HF.out.below HF.out.below.size (by simp only [List.length_nil]; have := HSM.out; omega) (OF.fresh HF.out) (by simp [Act.eval]) (by simp [Act.eval]) (Kd.C_below HG.out.terms HF.out.below) ?_; intro v1 W1 hr1 hb1 hg1 ha1; rw [List.nil_append] at hr1; obtain ⟨Av1, cv1, rfl⟩ := Kd.R_slice hr1; have HN := Aside0.mk (HF.out.appV hr1 hb1 hg1 ha1); clear hr1 hb1 hg1 ha1; refine hK.out _ _ ⟨HN.out.below, HN.out.p, HN.out.r⟩ (fun _ => ?_)
    clear hK K
    refine norm_ (a' := ?_) ?_ ?_
    rotate_left
    · (show Act.put _ (some 8) _ = _; simp only [Act.put, List.setIfInBounds_toArray, List.set_cons_zero, List.set_cons_succ]; rfl)
    exact h211 (v5, Av1, cv1, v9, none, 0, b) _ HN.out
  intro h111
  simp only [putAll, Act.put, List.setIfInBounds_toArray, List.set_cons_zero, List.set_cons_succ] at h111
  refine join_ (σ := Value × Option Addr × Nat × Value × Option Addr × Nat × Nat) 4 #[true, true, true, true, false, true, true, false, false, true, false] (fun s => [(5, s.1), (8, (.slice s.2.1 g.terms.length s.2.2.1)), (3, .pointer (some ⟨s.2.2.2.2.2.2, 0, none⟩))]) (fun s w' => OF w w' g A1 A2 A3 c1 c2 c3 (.slice s.2.1 g.terms.length s.2.2.1) g.terms (.slice none 0 0) [] (some s.2.2.2.2.2.2)) ?_ ?_
  · rintro ⟨v5, A8, c8, v9, A12, c12, b⟩ W' hF
    refine norm_ (a' := ?_) ?_ ?_
    rotate_left
    · (simp only [putAll, Act.put, List.setIfInBounds_toArray, List.set_cons_zero, List.set_cons_succ]; rfl)
    try dsimp only at hF
    have HF := Aside0.mk hF
    clear hF
    refine one_ (i := 4) (N := (some 9)) #[true, true, true, true, true, true, true, false, false, true, false] rfl rfl (by kernel_rfl) (by decide) (fun K hK => ?_)
    refine mk_str_step (w0 := w) (base := w.heap.size) (ok := fun k => some k ≠ (some b) ∧ some k ≠ ((.slice A8 g.terms.length c8) : Value).ownBlock) (by rfl) rfl rfl HF.out.below HF.out.below.size (OF.fresh HF.out.swap _ (Nat.le_refl _)) ?_; intro v1 W1 hr1 hb1 hg1 ha1; have HN := Aside0.mk (HF.out.swap.mkV hr1 hb1 hg1 ha1); clear hr1 hb1 hg1 ha1; refine hK.out _ _ ⟨HN.out.below, HN.out.p, HN.out.r⟩ (fun _ => ?_)
    clear hK K
    refine norm_ (a' := ?_) ?_ ?_
    rotate_left
    · (show Act.put _ (some 9) _ = _; simp only [Act.put, List.setIfInBounds_toArray, List.set_cons_zero, List.set_cons_succ]; rfl)
    exact h211 (v5, A8, c8, v1, none, 0, b) _ HN.out.swap
  intro h201
  simp only [putAll, Act.put, List.setIfInBounds_toArray, List.set_cons_zero, List.set_cons_succ] at h201
  refine join_ (σ := Value × Option Addr × Nat × Value × Option Addr × Nat × Nat) 4 #[true, true, true, true, true, true, true, false, false, false, false] (fun s => [(5, s.1), (8, (.slice s.2.1 g.terms.length s.2.2.1)), (9, s.2.2.2.1)]) (fun s w' => OF w w' g A1 A2 A3 c1 c2 c3 (.slice s.2.1 g.terms.length s.2.2.1) g.terms s.2.2.2.1 [] none) ?_ ?_
  · rintro ⟨v5, A8, c8, v9, A12, c12, b⟩ W' hF
    refine norm_ (a' := ?_) ?_ ?_
    rotate_left
    · (simp only [putAll, Act.put, List.setIfInBounds_toArray, List.set_cons_zero, List.set_cons_succ]; rfl)
    try dsimp only at hF
    have HF := Aside0.mk hF
    clear hF
    refine two_ (i := 7) (j := 9) (Ni := (some 12)) (Nj := (some 3)) #[true, true, true, true, true, true, true, true, false, false, false] #[true, true, true, true, true, true, true, false, false, true, false] rfl rfl rfl rfl (by kernel_rfl) (by decide) (by decide) (fun K hK => ?_) (fun K hK => ?_)
    · refine app_strs_step (A := A2) (c := c2) (w0 := w) (base := w.heap.size) (by rfl) rfl HF.out.swap.rv HF.out.below HF.out.below.size (by simp only [List.length_nil]; have := HSM.out; omega) (OF.fresh HF.out.swap) (by simp [Act.eval]) (by simp [Act.eval]) (Kd.C_below HG.out.names HF.out.below) ?_; intro v1 W1 hr1 hb1 hg1 ha1; rw [List.nil_append] at hr1; obtain ⟨Av1, cv1, rfl⟩ := Kd.R_slice hr1; have HN := Aside0.mk (HF.out.swap.appV hr1 hb1 hg1 ha1); clear hr1 hb1 hg1 ha1; refine hK.out _ _ ⟨HN.out.below, HN.out.p, HN.out.r⟩ (fun _ => ?_)
      clear hK K
      refine norm_ (a' := ?_) ?_ ?_
      rotate_left
      · (show Act.put _ (some 12) _ = _; simp only [Act.put, List.setIfInBounds_toArray, List.set_cons_zero, List.set_cons_succ]; rfl)
      refine pure_ (i := 8) (N := (some 13)) (v := ?_) (a' := ?_) #[true, true, true, true, true, true, true, true, true, false, false] rfl rfl (by kernel_rfl) (fun _ _ _ h => h) (Or.inl ⟨by rfl, ?_⟩) ?_ ?_
      rotate_left
      · (intro w'; go_simp; with_reducible rfl)
      rotate_left
      · (simp only [Act.put, List.setIfInBounds_toArray, List.set_cons_zero, List.set_cons_succ]; rfl)
      exact h220 (v5, A8, c8, v9, Av1, cv1, 0) _ HN.out.swap
    · have HN := Aside0.mk HF.out.mkB; refine value_ (w1 := ?_) (v := ?_) (by rfl) rfl ?_ ?_; rotate_left 2; (go_simp; constructor; rfl; rfl); refine hK.out _ _ ⟨HN.out.below, HN.out.p, HN.out.r⟩ (fun _ => ?_)
      clear hK K
      refine norm_ (a' := ?_) ?_ ?_
      rotate_left
      · (show Act.put _ (some 3) _ = _; simp only [Act.put, List.setIfInBounds_toArray, List.set_cons_zero, List.set_cons_succ]; rfl)
      exact h211 (v5, A8, c8, v9, none, 0, _) _ HN.out
  intro h210
  simp only [putAll, Act.put, List.setIfInBounds_toArray, List.set_cons_zero, List.set_cons_succ] at h210
  refine join_ (σ := Value × Option Addr × Nat × Value × Option Addr × Nat × Nat) 5 #[false, true, true, false, true, true, true, false, false, true, false] (fun s => [(9, s.2.2.2.1), (3, .pointer (some ⟨s.2.2.2.2.2.2, 0, none⟩))]) (fun s w' => OF w w' g A1 A2 A3 c1 c2 c3 (.slice none 0 0) [] s.2.2.2.1 [] (some s.2.2.2.2.2.2)) ?_ ?_
  · rintro ⟨v5, A8, c8, v9, A12, c12, b⟩ W' hF
    refine norm_ (a' := ?_) ?_ ?_
    rotate_left
    · (simp only [putAll, Act.put, List.setIfInBounds_toArray, List.set_cons_zero, List.set_cons_succ]; rfl)
    try dsimp only at hF
    have HF := Aside0.mk hF
    clear hF
    refine one_ (i := 0) (N := (some 5)) #[true, true, true, false, true, true, true, false, false, true, false] rfl rfl (by kernel_rfl) (by decide) (fun K hK => ?_)
    refine mk_str_step (w0 := w) (base := w.heap.size) (ok := fun k => some k ≠ (some b) ∧ some k ≠ (v9 : Value).ownBlock) (by rfl) rfl rfl HF.out.below HF.out.below.size (OF.fresh HF.out _ (Nat.le_refl _)) ?_; intro v1 W1 hr1 hb1 hg1 ha1; have HN := Aside0.mk (HF.out.mkV hr1 hb1 hg1 ha1); clear hr1 hb1 hg1 ha1; refine hK.out _ _ ⟨HN.out.below, HN.out.p, HN.out.r⟩ (fun _ => ?_)
    clear hK K
    refine norm_ (a' := ?_) ?_ ?_
    rotate_left
    · (show Act.put _ (some 5) _ = _; simp only [Act.put, List.setIfInBounds_toArray, List.set_cons_zero, List.set_cons_succ]; rfl)
    exact h111 (v1, none, 0, v9, none, 0, b) _ HN.out
  intro h011
  simp only [putAll, Act.put, List.setIfInBounds_toArray, List.set_cons_zero, List.set_cons_succ] at h011
  refine join_ (σ := Value × Option Addr × Nat × Value × Option Addr × Nat × Nat) 5 #[true, true, true, false, false, true, true, false, false, true, false] (fun s => [(5, s.1), (3, .pointer (some ⟨s.2.2.2.2.2.2, 0, none⟩))]) (fun s w' => OF w w' g A1 A2 A3 c1 c2 c3 s.1 [] (.slice none 0 0) [] (some s.2.2.2.2.2.2)) ?_ ?_
  · rintro ⟨v5, A8, c8, v9, A12, c12, b⟩ W' hF
    refine norm_ (a' := ?_) ?_ ?_
    rotate_left
    · (simp only [putAll, Act.put, List.setIfInBounds_toArray, List.set_cons_zero, List.set_cons_succ]; rfl)
    try dsimp only at hF
    have HF := Aside0.mk hF
    clear hF
    refine two_ (i := 3) (j := 4) (Ni := (some 8)) (Nj := (some 9)) #[true, true, true, true, false, true, true, false, false, true, false] #[true, true, true, false, true, true, true, false, false, true, false] rfl rfl rfl rfl (by kernel_rfl) (by decide) (by decide) (fun K hK => ?_) (fun K hK => ?_)
    · refine app_strs_step (A := A1) (c := c1) (w0 := w) (base := w.heap.size) (by rfl) rfl HF.out.rv HF.out.below HF.out.below.size (by simp only [List.length_nil]; have := HSM.out; omega) (OF.fresh HF.out) (by simp [Act.eval]) (by simp [Act.eval]) (Kd.C_below HG.out.terms HF.out.below) ?_; intro v1 W1 hr1 hb1 hg1 ha1; rw [List.nil_append] at hr1; obtain ⟨Av1, cv1, rfl⟩ := Kd.R_slice hr1; have HN := Aside0.mk (HF.out.appV hr1 hb1 hg1 ha1); clear hr1 hb1 hg1 ha1; refine hK.out _ _ ⟨HN.out.below, HN.out.p, HN.out.r⟩ (fun _ => ?_)
      clear hK K
      refine norm_ (a' := ?_) ?_ ?_
      rotate_left
      · (show Act.put _ (some 8) _ = _; simp only [Act.put, List.setIfInBounds_toArray, List.set_cons_zero, List.set_cons_succ]; rfl)
      exact h201 (v5, Av1, cv1, undef, none, 0, b) _ HN.out
    · refine mk_str_step (w0 := w) (base := w.heap.size) (ok := fun k => some k ≠ (some b) ∧ some k ≠ (v5 : Value).ownBlock) (by rfl) rfl rfl HF.out.below HF.out.below.size (OF.fresh HF.out.swap _ (Nat.le_refl _)) ?_; intro v1 W1 hr1 hb1 hg1 ha1; have HN := Aside0.mk (HF.out.swap.mkV hr1 hb1 hg1 ha1); clear hr1 hb1 hg1 ha1; refine hK.out _ _ ⟨HN.out.below, HN.out.p, HN.out.r⟩ (fun _ => ?_)
      clear hK K
      refine norm_ (a' := ?_) ?_ ?_
      rotate_left
      · (show Act.put _ (some 9) _ = _; simp only [Act.put, List.setIfInBounds_toArray, List.set_cons_zero, List.set_cons_succ]; rfl)
      exact h111 (v5, none, 0, v1, none, 0, b) _ HN.out.swap
  intro h101
  simp only [putAll, Act.put, List.setIfInBounds_toArray, List.set_cons_zero, List.set_cons_succ] at h101
  refine join_ (σ := Value × Option Addr × Nat × Value × Option Addr × Nat × Nat) 5 #[true, true, true, false, true, true, true, false, false, false, false] (fun s => [(5, s.1), (9, s.2.2.2.1)]) (fun s w' => OF w w' g A1 A2 A3 c1 c2 c3 s.1 [] s.2.2.2.1 [] none) ?_ ?_
  · rintro ⟨v5, A8, c8, v9, A12, c12, b⟩ W' hF
    refine norm_ (a' := ?_) ?_ ?_
    rotate_left
    · (simp only [putAll, Act.put, List.setIfInBounds_toArray, List.set_cons_zero, List.set_cons_succ]; rfl)
    try dsimp only at hF
    have HF := Aside0.mk hF
    clear hF
    refine two_ (i := 3) (j := 9) (Ni := (some 8)) (Nj := (some 3)) #[true, true, true, true, true, true, true, false, false, false, false] #[true, true, true, false, true, true, true, false, false, true, false] rfl rfl rfl rfl (by kernel_rfl) (by decide) (by decide) (fun K hK => ?_) (fun K hK => ?_)
    · refine app_strs_step (A := A1) (c := c1) (w0 := w) (base := w.heap.size) (by rfl) rfl HF.out.rv HF.out.below HF.out.below.size (by simp only [List.length_nil]; have := HSM.out; omega) (OF.fresh HF.out) (by simp [Act.eval]) (by simp [Act.eval]) (Kd.C_below HG.out.terms HF.out.below) ?_; intro v1 W1 hr1 hb1 hg1 ha1; rw [List.nil_append] at hr1; obtain ⟨Av1, cv1, rfl⟩ := Kd.R_slice hr1; have HN := Aside0.mk (HF.out.appV hr1 hb1 hg1 ha1); clear hr1 hb1 hg1 ha1; refine hK.out _ _ ⟨HN.out.below, HN.out.p, HN.out.r⟩ (fun _ => ?_)
      clear hK K
      refine norm_ (a' := ?_) ?_ ?_
      rotate_left
      · (show Act.put _ (some 8) _ = _; simp only [Act.put, List.setIfInBounds_toArray, List.set_cons_zero, List.set_cons_succ]; rfl)
      exact h210 (v5, Av1, cv1, v9, none, 0, 0) _ HN.out
    · have HN := Aside0.mk HF.out.mkB; refine value_ (w1 := ?_) (v := ?_) (by rfl) rfl ?_ ?_; rotate_left 2; (go_simp; constructor; rfl; rfl); refine hK.out _ _ ⟨HN.out.below, HN.out.p, HN.out.r⟩ (fun _ => ?_)
      clear hK K
      refine norm_ (a' := ?_) ?_ ?_
      rotate_left
      · (show Act.put _ (some 3) _ = _; simp only [Act.put, List.setIfInBounds_toArray, List.set_cons_zero, List.set_cons_succ]; rfl)
      exact h111 (v5, none, 0, v9, none, 0, _) _ HN.out
  intro h110
  simp only [putAll, Act.put, List.setIfInBounds_toArray, List.set_cons_zero, List.set_cons_succ] at h110
  refine join_ (σ := Value × Option Addr × Nat × Value × Option Addr × Nat × Nat) 5 #[true, true, true, true, false, true, true, false, false, false, false] (fun s => [(5, s.1), (8, (.slice s.2.1 g.terms.length s.2.2.1))]) (fun s w' => OF w w' g A1 A2 A3 c1 c2 c3 (.slice s.2.1 g.terms.length s.2.2.1) g.terms (.slice none 0 0) [] none) ?_ ?_
  · rintro ⟨v5, A8, c8, v9, A12, c12, b⟩ W' hF
    refine norm_ (a' := ?_) ?_ ?_
    rotate_left
    · (simp only [putAll, Act.put, List.setIfInBounds_toArray, List.set_cons_zero, List.set_cons_succ]; rfl)
    try dsimp only at hF
    have HF := Aside0.mk hF
    clear hF
    refine two_ (i := 4) (j := 9) (Ni := (some 9)) (Nj := (some 3)) #[true, true, true, true, true, true, true, false, false, false, false] #[true, true, true, true, false, true, true, false, false, true, false] rfl rfl rfl rfl (by kernel_rfl) (by decide) (by decide) (fun K hK => ?_) (fun K hK => ?_)
    · refine mk_str_step (w0 := w) (base := w.heap.size) (ok := fun k => some k ≠ (none : Option Nat) ∧ some k ≠ ((.slice A8 g.terms.length c8) : Value).ownBlock) (by rfl) rfl rfl HF.out.below HF.out.below.size (OF.fresh HF.out.swap _ (Nat.le_refl _)) ?_; intro v1 W1 hr1 hb1 hg1 ha1; have HN := Aside0.mk (HF.out.swap.mkV hr1 hb1 hg1 ha1); clear hr1 hb1 hg1 ha1; refine hK.out _ _ ⟨HN.out.below, HN.out.p, HN.out.r⟩ (fun _ => ?_)
      clear hK K
      refine norm_ (a' := ?_) ?_ ?_
      rotate_left
      · (show Act.put _ (some 9) _ = _; simp only [Act.put, List.setIfInBounds_toArray, List.set_cons_zero, List.set_cons_succ]; rfl)
      exact h210 (v5, A8, c8, v1, none, 0, 0) _ HN.out.swap
    · have HN := Aside0.mk HF.out.mkB; refine value_ (w1 := ?_) (v := ?_) (by rfl) rfl ?_ ?_; rotate_left 2; (go_simp; constructor; rfl; rfl); refine hK.out _ _ ⟨HN.out.below, HN.out.p, HN.out.r⟩ (fun _ => ?_)
      clear hK K
      refine norm_ (a' := ?_) ?_ ?_
      rotate_left
      · (show Act.put _ (some 3) _ = _; simp only [Act.put, List.setIfInBounds_toArray, List.set_cons_zero, List.set_cons_succ]; rfl)
      exact h201 (v5, A8, c8, undef, none, 0, _) _ HN.out
  intro h200
  simp only [putAll, Act.put, List.setIfInBounds_toArray, List.set_cons_zero, List.set_cons_succ] at h200
  refine join_ (σ := Value × Option Addr × Nat × Value × Option Addr × Nat × Nat) 6 #[false, true, true, false, false, true, true, false, false, true, false] (fun s => [(3, .pointer (some ⟨s.2.2.2.2.2.2, 0, none⟩))]) (fun s w' => OF w w' g A1 A2 A3 c1 c2 c3 (.slice none 0 0) [] (.slice none 0 0) [] (some s.2.2.2.2.2.2)) ?_ ?_
  · rintro ⟨v5, A8, c8, v9, A12, c12, b⟩ W' hF
    refine norm_ (a' := ?_) ?_ ?_
    rotate_left
    · (simp only [putAll, Act.put, List.setIfInBounds_toArray, List.set_cons_zero, List.set_cons_succ]; rfl)
    try dsimp only at hF
    have HF := Aside0.mk hF
    clear hF
    refine two_ (i := 0) (j := 4) (Ni := (some 5)) (Nj := (some 9)) #[true, true, true, false, false, true, true, false, false, true, false] #[false, true, true, false, true, true, true, false, false, true, false] rfl rfl rfl rfl (by kernel_rfl) (by decide) (by decide) (fun K hK => ?_) (fun K hK => ?_)
    · refine mk_str_step (w0 := w) (base := w.heap.size) (ok := fun k => some k ≠ (some b) ∧ some k ≠ ((.slice none 0 0) : Value).ownBlock) (by rfl) rfl rfl HF.out.below HF.out.below.size (OF.fresh HF.out _ (Nat.le_refl _)) ?_; intro v1 W1 hr1 hb1 hg1 ha1; have HN := Aside0.mk (HF.out.mkV hr1 hb1 hg1 ha1); clear hr1 hb1 hg1 ha1; refine hK.out _ _ ⟨HN.out.below, HN.out.p, HN.out.r⟩ (fun _ => ?_)
      clear hK K
      refine norm_ (a' := ?_) ?_ ?_
      rotate_left
      · (show Act.put _ (some 5) _ = _; simp only [Act.put, List.setIfInBounds_toArray, List.set_cons_zero, List.set_cons_succ]; rfl)
      exact h101 (v1, none, 0, undef, none, 0, b) _ HN.out
    · refine mk_str_step (w0 := w) (base := w.heap.size) (ok := fun k => some k ≠ (some b) ∧ some k ≠ ((.slice none 0 0) : Value).ownBlock) (by rfl) rfl rfl HF.out.below HF.out.below.size (OF.fresh HF.out.swap _ (Nat.le_refl _)) ?_; intro v1 W1 hr1 hb1 hg1 ha1; have HN := Aside0.mk (HF.out.swap.mkV hr1 hb1 hg1 ha1); clear hr1 hb1 hg1 ha1; refine hK.out _ _ ⟨HN.out.below, HN.out.p, HN.out.r⟩ (fun _ => ?_)
      clear hK K
      refine norm_ (a' := ?_) ?_ ?_
      rotate_left
      · (show Act.put _ (some 9) _ = _; simp only [Act.put, List.setIfInBounds_toArray, List.set_cons_zero, List.set_cons_succ]; rfl)
      exact h011 (undef, none, 0, v1, none, 0, b) _ HN.out.swap
  intro h001
  simp only [putAll, Act.put, List.setIfInBounds_toArray, List.set_cons_zero, List.set_cons_succ] at h001
  refine join_ (σ := Value × Option Addr × Nat × Value × Option Addr × Nat × Nat) 6 #[false, true, true, false, true, true, true, false, false, false, false] (fun s => [(9, s.2.2.2.1)]) (fun s w' => OF w w' g A1 A2 A3 c1 c2 c3 (.slice none 0 0) [] s.2.2.2.1 [] none) ?_ ?_
  · rintro ⟨v5, A8, c8, v9, A12, c12, b⟩ W' hF
    refine norm_ (a' := ?_) ?_ ?_
    rotate_left
    · (simp only [putAll, Act.put, List.setIfInBounds_toArray, List.set_cons_zero, List.set_cons_succ]; rfl)
    try dsimp only at hF
    have HF := Aside0.mk hF
    clear hF
    refine two_ (i := 0) (j := 9) (Ni := (some 5)) (Nj := (some 3)) #[true, true, true, false, true, true, true, false, false, false, false] #[false, true, true, false, true, true, true, false, false, true, false] rfl rfl rfl rfl (by kernel_rfl) (by decide) (by decide) (fun K hK => ?_) (fun K hK => ?_)
    · refine mk_str_step (w0 := w) (base := w.heap.size) (ok := fun k => some k ≠ (none : Option Nat) ∧ some k ≠ (v9 : Value).ownBlock) (by rfl) rfl rfl HF.out.below HF.out.below.size (OF.fresh HF.out _ (Nat.le_refl _)) ?_; intro v1 W1 hr1 hb1 hg1 ha1; have HN := Aside0.mk (HF.out.mkV hr1 hb1 hg1 ha1); clear hr1 hb1 hg1 ha1; refine hK.out _ _ ⟨HN.out.below, HN.out.p, HN.out.r⟩ (fun _ => ?_)
      clear hK K
      refine norm_ (a' := ?_) ?_ ?_
      rotate_left
      · (show Act.put _ (some 5) _ = _; simp only [Act.put, List.setIfInBounds_toArray, List.set_cons_zero, List.set_cons_succ]; rfl)
      exact h110 (v1, none, 0, v9, none, 0, 0) _ HN.out
    · have HN := Aside0.mk HF.out.mkB; refine value_ (w1 := ?_) (v := ?_) (by rfl) rfl ?_ ?_; rotate_left 2; (go_simp; constructor; rfl; rfl); refine hK.out _ _ ⟨HN.out.below, HN.out.p, HN.out.r⟩ (fun _ => ?_)
      clear hK K
      refine norm_ (a' := ?_) ?_ ?_
      rotate_left
      · (show Act.put _ (some 3) _ = _; simp only [Act.put, List.setIfInBounds_toArray, List.set_cons_zero, List.set_cons_succ]; rfl)
      exact h011 (undef, none, 0, v9, none, 0, _) _ HN.out
  intro h010
  simp only [putAll, Act.put, List.setIfInBounds_toArray, List.set_cons_zero, List.set_cons_succ] at h010
  refine join_ (σ := Value × Option Addr × Nat × Value × Option Addr × Nat × Nat) 6 #[true, true, true, false, false, true, true, false, false, false, false] (fun s => [(5, s.1)]) (fun s w' => OF w w' g A1 A2 A3 c1 c2 c3 s.1 [] (.slice none 0 0) [] none) ?_ ?_
  · rintro ⟨v5, A8, c8, v9, A12, c12, b⟩ W' hF
    refine norm_ (a' := ?_) ?_ ?_
    rotate_left
    · (simp only [putAll, Act.put, List.setIfInBounds_toArray, List.set_cons_zero, List.set_cons_succ]; rfl)
    try dsimp only at hF
    have HF := Aside0.mk hF
    clear hF
    refine three_ (i := 3) (j := 4) (k := 9) (Ni := (some 8)) (Nj := (some 9)) (Nk := (some 3)) #[true, true, true, true, false, true, true, false, false, false, false] #[true, true, true, false, true, true, true, false, false, false, false] #[true, true, true, false, false, true, true, false, false, true, false] rfl rfl rfl rfl rfl rfl (by kernel_rfl) (by decide) (by decide) (by decide) (fun K hK => ?_) (fun K hK => ?_) (fun K hK => ?_)
    · refine app_strs_step (A := A1) (c := c1) (w0 := w) (base := w.heap.size) (by rfl) rfl HF.out.rv HF.out.below HF.out.below.size (by simp only [List.length_nil]; have := HSM.out; omega) (OF.fresh HF.out) (by simp [Act.eval]) (by simp [Act.eval]) (Kd.C_below HG.out.terms HF.out.below) ?_; intro v1 W1 hr1 hb1 hg1 ha1; rw [List.nil_append] at hr1; obtain ⟨Av1, cv1, rfl⟩ := Kd.R_slice hr1; have HN := Aside0.mk (HF.out.appV hr1 hb1 hg1 ha1); clear hr1 hb1 hg1 ha1; refine hK.out _ _ ⟨HN.out.below, HN.out.p, HN.out.r⟩ (fun _ => ?_)
      clear hK K
      refine norm_ (a' := ?_) ?_ ?_
      rotate_left
      · (show Act.put _ (some 8) _ = _; simp only [Act.put, List.setIfInBounds_toArray, List.set_cons_zero, List.set_cons_succ]; rfl)
      exact h200 (v5, Av1, cv1, undef, none, 0, 0) _ HN.out
    · refine mk_str_step (w0 := w) (base := w.heap.size) (ok := fun k => some k ≠ (none : Option Nat) ∧ some k ≠ (v5 : Value).ownBlock) (by rfl) rfl rfl HF.out.below HF.out.below.size (OF.fresh HF.out.swap _ (Nat.le_refl _)) ?_; intro v1 W1 hr1 hb1 hg1 ha1; have HN := Aside0.mk (HF.out.swap.mkV hr1 hb1 hg1 ha1); clear hr1 hb1 hg1 ha1; refine hK.out _ _ ⟨HN.out.below, HN.out.p, HN.out.r⟩ (fun _ => ?_)
      clear hK K
      refine norm_ (a' := ?_) ?_ ?_
      rotate_left
      · (show Act.put _ (some 9) _ = _; simp only [Act.put, List.setIfInBounds_toArray, List.set_cons_zero, List.set_cons_succ]; rfl)
      exact h110 (v5, none, 0, v1, none, 0, 0) _ HN.out.swap
    · have HN := Aside0.mk HF.out.mkB; refine value_ (w1 := ?_) (v := ?_) (by rfl) rfl ?_ ?_; rotate_left 2; (go_simp; constructor; rfl; rfl); refine hK.out _ _ ⟨HN.out.below, HN.out.p, HN.out.r⟩ (fun _ => ?_)
      clear hK K
      refine norm_ (a' := ?_) ?_ ?_
      rotate_left
      · (show Act.put _ (some 3) _ = _; simp only [Act.put, List.setIfInBounds_toArray, List.set_cons_zero, List.set_cons_succ]; rfl)
      exact h101 (v5, none, 0, undef, none, 0, _) _ HN.out
  intro h100
  simp only [putAll, Act.put, List.setIfInBounds_toArray, List.set_cons_zero, List.set_cons_succ] at h100
  refine three_ (i := 0) (j := 4) (k := 9) (Ni := (some 5)) (Nj := (some 9)) (Nk := (some 3)) #[true, true, true, false, false, true, true, false, false, false, false] #[false, true, true, false, true, true, true, false, false, false, false] #[false, true, true, false, false, true, true, false, false, true, false] rfl rfl rfl rfl rfl rfl (by kernel_rfl) (by decide) (by decide) (by decide) (fun K hK => ?_) (fun K hK => ?_) (fun K hK => ?_)
  · refine mk_str_step (w0 := w) (base := w.heap.size) (ok := fun k => some k ≠ (none : Option Nat) ∧ some k ≠ ((.slice none 0 0) : Value).ownBlock) (by rfl) rfl rfl HF0.out.below HF0.out.below.size (OF.fresh HF0.out _ (Nat.le_refl _)) ?_; intro v1 W1 hr1 hb1 hg1 ha1; have HN := Aside0.mk (HF0.out.mkV hr1 hb1 hg1 ha1); clear hr1 hb1 hg1 ha1; refine hK.out _ _ ⟨HN.out.below, HN.out.p, HN.out.r⟩ (fun _ => ?_)
    clear hK K
    refine norm_ (a' := ?_) ?_ ?_
    rotate_left
    · (show Act.put _ (some 5) _ = _; simp only [Act.put, List.setIfInBounds_toArray, List.set_cons_zero, List.set_cons_succ]; rfl)
    exact h100 (v1, none, 0, undef, none, 0, 0) _ HN.out
  · refine mk_str_step (w0 := w) (base := w.heap.size) (ok := fun k => some k ≠ (none : Option Nat) ∧ some k ≠ ((.slice none 0 0) : Value).ownBlock) (by rfl) rfl rfl HF0.out.below HF0.out.below.size (OF.fresh HF0.out.swap _ (Nat.le_refl _)) ?_; intro v1 W1 hr1 hb1 hg1 ha1; have HN := Aside0.mk (HF0.out.swap.mkV hr1 hb1 hg1 ha1); clear hr1 hb1 hg1 ha1; refine hK.out _ _ ⟨HN.out.below, HN.out.p, HN.out.r⟩ (fun _ => ?_)
    clear hK K
    refine norm_ (a' := ?_) ?_ ?_
    rotate_left
    · (show Act.put _ (some 9) _ = _; simp only [Act.put, List.setIfInBounds_toArray, List.set_cons_zero, List.set_cons_succ]; rfl)
    exact h010 (undef, none, 0, v1, none, 0, 0) _ HN.out.swap
  · have HN := Aside0.mk HF0.out.mkB; refine value_ (w1 := ?_) (v := ?_) (by rfl) rfl ?_ ?_; rotate_left 2; (go_simp; constructor; rfl; rfl); refine hK.out _ _ ⟨HN.out.below, HN.out.p, HN.out.r⟩ (fun _ => ?_)
    clear hK K
    refine norm_ (a' := ?_) ?_ ?_
    rotate_left
    · (show Act.put _ (some 3) _ = _; simp only [Act.put, List.setIfInBounds_toArray, List.set_cons_zero, List.set_cons_succ]; rfl)
    exact h001 (undef, none, 0, undef, none, 0, _) _ HN.out
end Go.Proofs.Ytmkgcjhimajgiaa

/- Appends within a region in its order. -/
set_option linter.unusedVariables false
set_option linter.unusedSimpArgs false
namespace Go.Proofs.Ytmkgcjhimajgiaa
open Go.RowKit Go.Proofs.YtmkgcjhimajgiaaW.PrintWords Go.Proofs.YtmkgcjhimajgiaaW.PrintLast
section
variable {ops : Array Oper} {rest : List Oper} {oi : Oper} {a : Act} {Q : Exit → Act → World → Prop} {w0 W : World} {N : Option Tmp} {s x : Operand} {A : Option Addr} {c : Nat}
/-- A copy of whole numbers: onto a new row of none. -/
theorem pl_copy_ints {ys : List Int} (hw : Region.wanted oi (yielded ops a.tmps) = true) (hN : oi.dst = N) (ho : oi.op = .call { callee := .builtin .append, args := #[s, x], argTypes := #[26, 26] })
    (hb : Below w0.heap.size w0 W) (hx0 : W.heap[w0.heap.size]? = some (.cells #[] 3 (0, 0))) (hsz : W.heap.size = w0.heap.size + 1) (hl : ys.length ≤ 1000000000000) (hs : a.eval s = .slice (some ⟨w0.heap.size, 0, none⟩) 0 0) (hx : a.eval x = .slice A ys.length c) (HC : kInt.C w0 A ys.length ys) (hW : W = w0.alloc (.cells #[] 3))
    (h : ∀ A' c' w1, ys.length ≤ c' → kInt.C w1 A' ys.length ys → Below w0.heap.size w0 w1 → WpL Try.prog ops Q rest (a.put N (.slice A' ys.length c')) w1) : WpL Try.prog ops Q (oi :: rest) a W := by
  subst hN hW
  refine ⟨wpList_step fun K hK =>  app_ints_step (base := w0.heap.size) (w0 := w0) (ok := fun _ => True) (xs := []) hw ho (ints_new w0 w0.heap.size (Nat.le_refl _) _ trivial) hb (by simp) (by simpa using hl) (fun _ _ => trivial) hs hx (Kd.C_below HC hb) (fun v1 w1 hr hb1 hg hat => ?_)⟩
  rw [List.nil_append] at hr
  obtain ⟨A', c', e, hc, hC⟩ := Kd.R_reads hr
  subst e
  exact hK _ _ (h A' c' w1 hc hC hb1).out
end
end Go.Proofs.Ytmkgcjhimajgiaa

/- The contract of keep.LargeGrammar. -/
set_option linter.unusedVariables false
set_option linter.unusedSimpArgs false
namespace Go.Proofs.Ytmkgcjhimajgiaa
open Go.RowKit Go.Proofs.YtmkgcjhimajgiaaW.PrintWords

structure GSmall (g : Gram) : Prop where
  terms : g.terms.length ≤ 4000
  names : g.names.length ≤ 4000
  rules : g.rules.length ≤ 200
  rights : ∀ r ∈ g.rules, r.right.length ≤ 4000

def LargeEnd (g : Gram) (e : Ending) : Prop := ∃ b, e = .returned (.bool b) ∧ (b = false → GSmall g)
set_option maxRecDepth 100000 in
set_option maxHeartbeats 2000000 in
theorem large_c (g : Gram) (A1 A2 A3 : Option Addr) (c1 c2 c3 : Nat) (w : World) (hg : RepG w g A1 A2 A3 c1 c2 c3) :
    Calls Try.prog 42 #[.agg #[.slice A1 g.terms.length c1, .slice A2 g.names.length c2, .slice A3 g.rules.length c3]] w fun e w' => LargeEnd g e ∧ Below w.heap.size w w' := by
  have hm1 := C_max hg.terms
  have hm2 := C_max hg.names
  have hm3 := C_max hg.rules
  have HG := Aside0.mk hg
  have HP := Aside0.mk (blk_new w (.cells #[.slice A1 g.terms.length c1, .slice A2 g.names.length c2, .slice A3 g.rules.length c3] 25 (0, 0)))
  have HB := Aside0.mk ((Below.refl w.heap.size w).alloc (Nat.le_refl _) (.cells #[.slice A1 g.terms.length c1, .slice A2 g.names.length c2, .slice A3 g.rules.length c3] 25 (0, 0)))
  clear hg
  go_enter Try.func42, Try.ntmps42
  go_wp2
  go_loopw [4, 3] (fun i nv wr => ∃ (k : Nat) (n : Int), k ≤ g.terms.length ∧ i = .int .i64 k ∧ nv = .int .i64 n ∧ (k : Int) ≤ n ∧ n ≤ 8001 ∧ Aside0 (wr.heap[w.heap.size]? = some (.cells #[.slice A1 g.terms.length c1, .slice A2 g.names.length c2, .slice A3 g.rules.length c3] 25 (0, 0))) ∧ Aside0 (Below w.heap.size w wr)) (fun i _ _ => g.terms.length - (intOf i).toNat)
  case atStart => exact ⟨0, 0, Nat.zero_le _, rfl, rfl, by omega, by omega, HP, HB⟩
  case round =>
    clear HP HB
    obtain ⟨k, n, hk, rfl, rfl, hkn, hn, HP, HB⟩ := hrel
    have a1 := blk_cell HP.out 0
    have a2 := blk_cell HP.out 1
    have a3 := blk_cell HP.out 2
    simp only [List.getElem?_toArray, List.getElem?_cons_zero, List.getElem?_cons_succ] at a1 a2 a3
    by_cases hlt : k < g.terms.length
    · by_cases h4 : n ≤ 4000
      · have i1 : (0 : Int) ≤ (k : Int) := by omega
        have i2 : (k : Int) < (g.terms.length : Int) := by omega
        obtain ⟨ad, ead, hx⟩ := at_str (Kd.C_below HG.out.terms HB.out) k hlt
        cases ead
        go_wp2
        go_roundw
        case rel =>
          refine ⟨k + 1, _, by omega, by go_num, rfl, ?_, ?_, HP, HB⟩
          · split <;> omega
          · split <;> omega
        case measure => simp [intOf]; omega
      · go_wp2
        have HE : Aside0 (4000 < n ∨ (g.terms.length : Int) ≤ n) := ⟨by omega⟩
        obtain ⟨wo, hwo⟩ : ∃ wo : World, wo = wr := ⟨_, rfl⟩
        subst hwo
        obtain ⟨n0, hn0⟩ : ∃ n0 : Int, n0 = n := ⟨_, rfl⟩
        have hz0 : 0 ≤ n0 := by omega
        have hz1 : n0 ≤ 8001 := by omega
        rw [← hn0] at HE
        rw [← hn0]
        clear hkn hn hn0 hlt hk a1 a2 a3 h4
        go_loopw [5, 3] (fun i nv wr => ∃ (k : Nat) (n : Int), k ≤ g.names.length ∧ i = .int .i64 k ∧ nv = .int .i64 n ∧ (k : Int) ≤ n ∧ n ≤ 8001 ∧ Aside0 (4000 < n ∨ (g.terms.length : Int) ≤ n) ∧ Aside0 (wr.heap[w.heap.size]? = some (.cells #[.slice A1 g.terms.length c1, .slice A2 g.names.length c2, .slice A3 g.rules.length c3] 25 (0, 0))) ∧ Aside0 (Below w.heap.size w wr)) (fun i _ _ => g.names.length - (intOf i).toNat)
        case atStart => exact ⟨0, n0, Nat.zero_le _, rfl, rfl, by omega, by omega, HE, HP, HB⟩
        case round =>
          clear HP HB
          obtain ⟨k, n, hk, rfl, rfl, hkn, hn, HE, HP, HB⟩ := hrel
          have a1 := blk_cell HP.out 0
          have a2 := blk_cell HP.out 1
          have a3 := blk_cell HP.out 2
          simp only [List.getElem?_toArray, List.getElem?_cons_zero, List.getElem?_cons_succ] at a1 a2 a3
          by_cases hlt : k < g.names.length
          · by_cases h4 : n ≤ 4000
            · have i1 : (0 : Int) ≤ (k : Int) := by omega
              have i2 : (k : Int) < (g.names.length : Int) := by omega
              obtain ⟨ad, ead, hx⟩ := at_str (Kd.C_below HG.out.names HB.out) k hlt
              cases ead
              go_wp2
              go_roundw
              case rel =>
                refine ⟨k + 1, _, by omega, by go_num, rfl, ?_, ?_, ⟨?_⟩, HP, HB⟩
                · split <;> omega
                · split <;> omega
                · have := HE.out; split <;> omega
              case measure => simp [intOf]; omega
            · go_wp2
              have HE2 : Aside0 (4000 < n ∨ ((g.terms.length : Int) ≤ n ∧ (g.names.length : Int) ≤ n)) := ⟨by have := HE.out; omega⟩
              obtain ⟨wo, hwo⟩ : ∃ wo : World, wo = wr := ⟨_, rfl⟩
              subst hwo
              obtain ⟨n0, hn0⟩ : ∃ n0 : Int, n0 = n := ⟨_, rfl⟩
              have hz0 : 0 ≤ n0 := by omega
              have hz1 : n0 ≤ 8001 := by omega
              have hE3 := HE2.out
              rw [← hn0] at hE3
              rw [← hn0]
              clear hkn hn hn0 hlt hk a1 a2 a3 h4 HE HE2
              go_loopw [6, 3] (fun i nv wr => ∃ (k : Nat) (n : Int), k ≤ g.rules.length ∧ i = .int .i64 k ∧ nv = .int .i64 n ∧ (k : Int) ≤ n ∧ n ≤ 8001 ∧ Aside0 ((4000 < n ∨ ((g.terms.length : Int) ≤ n ∧ (g.names.length : Int) ≤ n)) ∧ ∀ j (hj : j < g.rules.length), j < k → (g.rules[j]'hj).right.length ≤ 4000 ∨ 4000 < n) ∧ Aside0 (wr.heap[w.heap.size]? = some (.cells #[.slice A1 g.terms.length c1, .slice A2 g.names.length c2, .slice A3 g.rules.length c3] 25 (0, 0))) ∧ Aside0 (Below w.heap.size w wr)) (fun i _ _ => g.rules.length - (intOf i).toNat)
              case atStart => exact ⟨0, n0, Nat.zero_le _, rfl, rfl, by omega, by omega, ⟨by omega, fun j hj h => by omega⟩, HP, HB⟩
              case round =>
                clear HP HB
                obtain ⟨k, n, hk, rfl, rfl, hkn, hn, HE, HP, HB⟩ := hrel
                have a1 := blk_cell HP.out 0
                have a2 := blk_cell HP.out 1
                have a3 := blk_cell HP.out 2
                simp only [List.getElem?_toArray, List.getElem?_cons_zero, List.getElem?_cons_succ] at a1 a2 a3
                by_cases hlt : k < g.rules.length
                · by_cases h4 : n ≤ 4000
                  · have i1 : (0 : Int) ≤ (k : Int) := by omega
                    have i2 : (k : Int) < (g.rules.length : Int) := by omega
                    obtain ⟨ad, B1, d1, ead, _, hx, hd1, _⟩ := at_rule (Kd.C_below HG.out.rules HB.out) k hlt
                    cases ead
                    go_wp2
                    go_roundw
                    case rel =>
                      refine ⟨k + 1, _, by omega, by go_num, rfl, ?_, ?_, ⟨?_, fun j hj hjk => ?_⟩, HP, HB⟩
                      · split <;> omega
                      · split <;> omega
                      · have := HE.out.1; split <;> omega
                      · rcases Nat.lt_or_ge j k with h | h
                        · have := HE.out.2 j hj h; split <;> omega
                        · obtain rfl : j = k := by omega
                          split <;> omega
                    case measure => simp [intOf]; omega
                  · go_wp2
                    go_ret
                    exact ⟨⟨true, ret_bool (by first | rfl | (simp; omega)), fun h => by cases h⟩, HB.out⟩
                · by_cases h4 : n ≤ 4000
                  · by_cases h200 : g.rules.length ≤ 200
                    · go_wp2
                      go_ret
                      refine ⟨⟨false, ret_bool (by first | rfl | (simp; omega)), fun _ => ⟨?_, ?_, h200, fun r hr => ?_⟩⟩, HB.out⟩
                      · have := HE.out.1; omega
                      · have := HE.out.1; omega
                      · obtain ⟨j, hj, rfl⟩ := List.getElem_of_mem hr
                        have := HE.out.2 j hj (by omega)
                        omega
                    · go_wp2
                      go_ret
                      exact ⟨⟨true, ret_bool (by first | rfl | (simp; omega)), fun h => by cases h⟩, HB.out⟩
                  · go_wp2
                    go_ret
                    exact ⟨⟨true, ret_bool (by first | rfl | (simp; omega)), fun h => by cases h⟩, HB.out⟩
          · go_wp2
            have HE2 : Aside0 (4000 < n ∨ ((g.terms.length : Int) ≤ n ∧ (g.names.length : Int) ≤ n)) := ⟨by have := HE.out; omega⟩
            obtain ⟨wo, hwo⟩ : ∃ wo : World, wo = wr := ⟨_, rfl⟩
            subst hwo
            obtain ⟨n0, hn0⟩ : ∃ n0 : Int, n0 = n := ⟨_, rfl⟩
            have hz0 : 0 ≤ n0 := by omega
            have hz1 : n0 ≤ 8001 := by omega
            have hE3 := HE2.out
            rw [← hn0] at hE3
            rw [← hn0]
            clear hkn hn hn0 hlt hk a1 a2 a3 HE HE2
            go_loopw [6, 3] (fun i nv wr => ∃ (k : Nat) (n : Int), k ≤ g.rules.length ∧ i = .int .i64 k ∧ nv = .int .i64 n ∧ (k : Int) ≤ n ∧ n ≤ 8001 ∧ Aside0 ((4000 < n ∨ ((g.terms.length : Int) ≤ n ∧ (g.names.length : Int) ≤ n)) ∧ ∀ j (hj : j < g.rules.length), j < k → (g.rules[j]'hj).right.length ≤ 4000 ∨ 4000 < n) ∧ Aside0 (wr.heap[w.heap.size]? = some (.cells #[.slice A1 g.terms.length c1, .slice A2 g.names.length c2, .slice A3 g.rules.length c3] 25 (0, 0))) ∧ Aside0 (Below w.heap.size w wr)) (fun i _ _ => g.rules.length - (intOf i).toNat)
            case atStart => exact ⟨0, n0, Nat.zero_le _, rfl, rfl, by omega, by omega, ⟨by omega, fun j hj h => by omega⟩, HP, HB⟩
            case round =>
              clear HP HB
              obtain ⟨k, n, hk, rfl, rfl, hkn, hn, HE, HP, HB⟩ := hrel
              have a1 := blk_cell HP.out 0
              have a2 := blk_cell HP.out 1
              have a3 := blk_cell HP.out 2
              simp only [List.getElem?_toArray, List.getElem?_cons_zero, List.getElem?_cons_succ] at a1 a2 a3
              by_cases hlt : k < g.rules.length
              · by_cases h4 : n ≤ 4000
                · have i1 : (0 : Int) ≤ (k : Int) := by omega
                  have i2 : (k : Int) < (g.rules.length : Int) := by omega
                  obtain ⟨ad, B1, d1, ead, _, hx, hd1, _⟩ := at_rule (Kd.C_below HG.out.rules HB.out) k hlt
                  cases ead
                  go_wp2
                  go_roundw
                  case rel =>
                    refine ⟨k + 1, _, by omega, by go_num, rfl, ?_, ?_, ⟨?_, fun j hj hjk => ?_⟩, HP, HB⟩
                    · split <;> omega
                    · split <;> omega
                    · have := HE.out.1; split <;> omega
                    · rcases Nat.lt_or_ge j k with h | h
                      · have := HE.out.2 j hj h; split <;> omega
                      · obtain rfl : j = k := by omega
                        split <;> omega
                  case measure => simp [intOf]; omega
                · go_wp2
                  go_ret
                  exact ⟨⟨true, ret_bool (by first | rfl | (simp; omega)), fun h => by cases h⟩, HB.out⟩
              · by_cases h4 : n ≤ 4000
                · by_cases h200 : g.rules.length ≤ 200
                  · go_wp2
                    go_ret
                    refine ⟨⟨false, ret_bool (by first | rfl | (simp; omega)), fun _ => ⟨?_, ?_, h200, fun r hr => ?_⟩⟩, HB.out⟩
                    · have := HE.out.1; omega
                    · have := HE.out.1; omega
                    · obtain ⟨j, hj, rfl⟩ := List.getElem_of_mem hr
                      have := HE.out.2 j hj (by omega)
                      omega
                  · go_wp2
                    go_ret
                    exact ⟨⟨true, ret_bool (by first | rfl | (simp; omega)), fun h => by cases h⟩, HB.out⟩
                · go_wp2
                  go_ret
                  exact ⟨⟨true, ret_bool (by first | rfl | (simp; omega)), fun h => by cases h⟩, HB.out⟩
    · go_wp2
      have HE : Aside0 (4000 < n ∨ (g.terms.length : Int) ≤ n) := ⟨by omega⟩
      obtain ⟨wo, hwo⟩ : ∃ wo : World, wo = wr := ⟨_, rfl⟩
      subst hwo
      obtain ⟨n0, hn0⟩ : ∃ n0 : Int, n0 = n := ⟨_, rfl⟩
      have hz0 : 0 ≤ n0 := by omega
      have hz1 : n0 ≤ 8001 := by omega
      rw [← hn0] at HE
      rw [← hn0]
      clear hkn hn hn0 hlt hk a1 a2 a3
      go_loopw [5, 3] (fun i nv wr => ∃ (k : Nat) (n : Int), k ≤ g.names.length ∧ i = .int .i64 k ∧ nv = .int .i64 n ∧ (k : Int) ≤ n ∧ n ≤ 8001 ∧ Aside0 (4000 < n ∨ (g.terms.length : Int) ≤ n) ∧ Aside0 (wr.heap[w.heap.size]? = some (.cells #[.slice A1 g.terms.length c1, .slice A2 g.names.length c2, .slice A3 g.rules.length c3] 25 (0, 0))) ∧ Aside0 (Below w.heap.size w wr)) (fun i _ _ => g.names.length - (intOf i).toNat)
      case atStart => exact ⟨0, n0, Nat.zero_le _, rfl, rfl, by omega, by omega, HE, HP, HB⟩
      case round =>
        clear HP HB
        obtain ⟨k, n, hk, rfl, rfl, hkn, hn, HE, HP, HB⟩ := hrel
        have a1 := blk_cell HP.out 0
        have a2 := blk_cell HP.out 1
        have a3 := blk_cell HP.out 2
        simp only [List.getElem?_toArray, List.getElem?_cons_zero, List.getElem?_cons_succ] at a1 a2 a3
        by_cases hlt : k < g.names.length
        · by_cases h4 : n ≤ 4000
          · have i1 : (0 : Int) ≤ (k : Int) := by omega
            have i2 : (k : Int) < (g.names.length : Int) := by omega
            obtain ⟨ad, ead, hx⟩ := at_str (Kd.C_below HG.out.names HB.out) k hlt
            cases ead
            go_wp2
            go_roundw
            case rel =>
              refine ⟨k + 1, _, by omega, by go_num, rfl, ?_, ?_, ⟨?_⟩, HP, HB⟩
              · split <;> omega
              · split <;> omega
              · have := HE.out; split <;> omega
            case measure => simp [intOf]; omega
          · go_wp2
            have HE2 : Aside0 (4000 < n ∨ ((g.terms.length : Int) ≤ n ∧ (g.names.length : Int) ≤ n)) := ⟨by have := HE.out; omega⟩
            obtain ⟨wo, hwo⟩ : ∃ wo : World, wo = wr := ⟨_, rfl⟩
            subst hwo
            obtain ⟨n0, hn0⟩ : ∃ n0 : Int, n0 = n := ⟨_, rfl⟩
            have hz0 : 0 ≤ n0 := by omega
            have hz1 : n0 ≤ 8001 := by omega
            have hE3 := HE2.out
            rw [← hn0] at hE3
            rw [← hn0]
            clear hkn hn hn0 hlt hk a1 a2 a3 h4 HE HE2
            go_loopw [6, 3] (fun i nv wr => ∃ (k : Nat) (n : Int), k ≤ g.rules.length ∧ i = .int .i64 k ∧ nv = .int .i64 n ∧ (k : Int) ≤ n ∧ n ≤ 8001 ∧ Aside0 ((4000 < n ∨ ((g.terms.length : Int) ≤ n ∧ (g.names.length : Int) ≤ n)) ∧ ∀ j (hj : j < g.rules.length), j < k → (g.rules[j]'hj).right.length ≤ 4000 ∨ 4000 < n) ∧ Aside0 (wr.heap[w.heap.size]? = some (.cells #[.slice A1 g.terms.length c1, .slice A2 g.names.length c2, .slice A3 g.rules.length c3] 25 (0, 0))) ∧ Aside0 (Below w.heap.size w wr)) (fun i _ _ => g.rules.length - (intOf i).toNat)
            case atStart => exact ⟨0, n0, Nat.zero_le _, rfl, rfl, by omega, by omega, ⟨by omega, fun j hj h => by omega⟩, HP, HB⟩
            case round =>
              clear HP HB
              obtain ⟨k, n, hk, rfl, rfl, hkn, hn, HE, HP, HB⟩ := hrel
              have a1 := blk_cell HP.out 0
              have a2 := blk_cell HP.out 1
              have a3 := blk_cell HP.out 2
              simp only [List.getElem?_toArray, List.getElem?_cons_zero, List.getElem?_cons_succ] at a1 a2 a3
              by_cases hlt : k < g.rules.length
              · by_cases h4 : n ≤ 4000
                · have i1 : (0 : Int) ≤ (k : Int) := by omega
                  have i2 : (k : Int) < (g.rules.length : Int) := by omega
                  obtain ⟨ad, B1, d1, ead, _, hx, hd1, _⟩ := at_rule (Kd.C_below HG.out.rules HB.out) k hlt
                  cases ead
                  go_wp2
                  go_roundw
                  case rel =>
                    refine ⟨k + 1, _, by omega, by go_num, rfl, ?_, ?_, ⟨?_, fun j hj hjk => ?_⟩, HP, HB⟩
                    · split <;> omega
                    · split <;> omega
                    · have := HE.out.1; split <;> omega
                    · rcases Nat.lt_or_ge j k with h | h
                      · have := HE.out.2 j hj h; split <;> omega
                      · obtain rfl : j = k := by omega
                        split <;> omega
                  case measure => simp [intOf]; omega
                · go_wp2
                  go_ret
                  exact ⟨⟨true, ret_bool (by first | rfl | (simp; omega)), fun h => by cases h⟩, HB.out⟩
              · by_cases h4 : n ≤ 4000
                · by_cases h200 : g.rules.length ≤ 200
                  · go_wp2
                    go_ret
                    refine ⟨⟨false, ret_bool (by first | rfl | (simp; omega)), fun _ => ⟨?_, ?_, h200, fun r hr => ?_⟩⟩, HB.out⟩
                    · have := HE.out.1; omega
                    · have := HE.out.1; omega
                    · obtain ⟨j, hj, rfl⟩ := List.getElem_of_mem hr
                      have := HE.out.2 j hj (by omega)
                      omega
                  · go_wp2
                    go_ret
                    exact ⟨⟨true, ret_bool (by first | rfl | (simp; omega)), fun h => by cases h⟩, HB.out⟩
                · go_wp2
                  go_ret
                  exact ⟨⟨true, ret_bool (by first | rfl | (simp; omega)), fun h => by cases h⟩, HB.out⟩
        · go_wp2
          have HE2 : Aside0 (4000 < n ∨ ((g.terms.length : Int) ≤ n ∧ (g.names.length : Int) ≤ n)) := ⟨by have := HE.out; omega⟩
          obtain ⟨wo, hwo⟩ : ∃ wo : World, wo = wr := ⟨_, rfl⟩
          subst hwo
          obtain ⟨n0, hn0⟩ : ∃ n0 : Int, n0 = n := ⟨_, rfl⟩
          have hz0 : 0 ≤ n0 := by omega
          have hz1 : n0 ≤ 8001 := by omega
          have hE3 := HE2.out
          rw [← hn0] at hE3
          rw [← hn0]
          clear hkn hn hn0 hlt hk a1 a2 a3 HE HE2
          go_loopw [6, 3] (fun i nv wr => ∃ (k : Nat) (n : Int), k ≤ g.rules.length ∧ i = .int .i64 k ∧ nv = .int .i64 n ∧ (k : Int) ≤ n ∧ n ≤ 8001 ∧ Aside0 ((4000 < n ∨ ((g.terms.length : Int) ≤ n ∧ (g.names.length : Int) ≤ n)) ∧ ∀ j (hj : j < g.rules.length), j < k → (g.rules[j]'hj).right.length ≤ 4000 ∨ 4000 < n) ∧ Aside0 (wr.heap[w.heap.size]? = some (.cells #[.slice A1 g.terms.length c1, .slice A2 g.names.length c2, .slice A3 g.rules.length c3] 25 (0, 0))) ∧ Aside0 (Below w.heap.size w wr)) (fun i _ _ => g.rules.length - (intOf i).toNat)
          case atStart => exact ⟨0, n0, Nat.zero_le _, rfl, rfl, by omega, by omega, ⟨by omega, fun j hj h => by omega⟩, HP, HB⟩
          case round =>
            clear HP HB
            obtain ⟨k, n, hk, rfl, rfl, hkn, hn, HE, HP, HB⟩ := hrel
            have a1 := blk_cell HP.out 0
            have a2 := blk_cell HP.out 1
            have a3 := blk_cell HP.out 2
            simp only [List.getElem?_toArray, List.getElem?_cons_zero, List.getElem?_cons_succ] at a1 a2 a3
            by_cases hlt : k < g.rules.length
            · by_cases h4 : n ≤ 4000
              · have i1 : (0 : Int) ≤ (k : Int) := by omega
                have i2 : (k : Int) < (g.rules.length : Int) := by omega
                obtain ⟨ad, B1, d1, ead, _, hx, hd1, _⟩ := at_rule (Kd.C_below HG.out.rules HB.out) k hlt
                cases ead
                go_wp2
                go_roundw
                case rel =>
                  refine ⟨k + 1, _, by omega, by go_num, rfl, ?_, ?_, ⟨?_, fun j hj hjk => ?_⟩, HP, HB⟩
                  · split <;> omega
                  · split <;> omega
                  · have := HE.out.1; split <;> omega
                  · rcases Nat.lt_or_ge j k with h | h
                    · have := HE.out.2 j hj h; split <;> omega
                    · obtain rfl : j = k := by omega
                      split <;> omega
                case measure => simp [intOf]; omega
              · go_wp2
                go_ret
                exact ⟨⟨true, ret_bool (by first | rfl | (simp; omega)), fun h => by cases h⟩, HB.out⟩
            · by_cases h4 : n ≤ 4000
              · by_cases h200 : g.rules.length ≤ 200
                · go_wp2
                  go_ret
                  refine ⟨⟨false, ret_bool (by first | rfl | (simp; omega)), fun _ => ⟨?_, ?_, h200, fun r hr => ?_⟩⟩, HB.out⟩
                  · have := HE.out.1; omega
                  · have := HE.out.1; omega
                  · obtain ⟨j, hj, rfl⟩ := List.getElem_of_mem hr
                    have := HE.out.2 j hj (by omega)
                    omega
                · go_wp2
                  go_ret
                  exact ⟨⟨true, ret_bool (by first | rfl | (simp; omega)), fun h => by cases h⟩, HB.out⟩
              · go_wp2
                go_ret
                exact ⟨⟨true, ret_bool (by first | rfl | (simp; omega)), fun h => by cases h⟩, HB.out⟩
end Go.Proofs.Ytmkgcjhimajgiaa

/- A grammar of one's own: read, with a rule more, with a name more; rows of truth values, made. -/
set_option linter.unusedVariables false
set_option linter.unusedSimpArgs false
namespace Go.Proofs.Ytmkgcjhimajgiaa
open Go.RowKit Go.Proofs.YtmkgcjhimajgiaaW.PrintWords Go.Proofs.YtmkgcjhimajgiaaW.PrintLast

/-- Rules whose right sides may have come in (in w0) or been made. -/
def kRuleM (w0 : World) : Kd Rule := Kd.iso (Kd.pair kInt (Kd.mix 3 kInt kInt w0)) (fun x : Rule => (x.left, x.right))
theorem rule_mix {w0 W : World} {base : Nat} {ok : Nat → Prop} {v : Value} {xs : List Rule} (h : kRule.R 46 W base ok v xs) : (kRuleM w0).R 46 W base ok v xs := by
  refine Kd.R_imp (d := kRule) (d' := kRuleM w0) rfl ?_ h
  rintro w base ok x cs ⟨a, b, rfl, ha, hb⟩
  exact ⟨a, b, rfl, ha, Kd.slice_mix rfl (fun _ _ _ _ _ h => h) hb⟩
theorem rule_came {w0 W : World} {base : Nat} {ok : Nat → Prop} {x : Rule} {A : Option Addr} {c : Nat} (hl : x.right.length ≤ c) (h : kInt.C w0 A x.right.length x.right) : (kRuleM w0).M W base ok x [.int .i64 x.left, .slice A x.right.length c] :=
  ⟨[.int .i64 x.left], [.slice A x.right.length c], rfl, rfl, Kd.mix_came hl h⟩
theorem rule_read {w0 W : World} {A : Option Addr} {n : Nat} {xs : List Rule} (hb : Below w0.heap.size w0 W) (h : (kRuleM w0).C W A n xs) : kRule.C W A n xs := by
  refine Kd.C_read (d := kRule) (dm := kRuleM w0) rfl ?_ h
  rintro x cs ⟨a, b, rfl, ha, hb'⟩
  obtain ⟨A, c, rfl, h1, h2⟩ := Kd.mix_read rfl (fun _ _ h => h) hb hb'
  exact ⟨a, _, rfl, ha, ⟨A, c, rfl, h1, h2⟩⟩
theorem OwnG.rep {W : World} {base : Nat} {g : Gram} {A1 A2 A3 : Option Addr} {c1 c2 c3 : Nat} (h : OwnG W base g (.slice A1 g.terms.length c1) (.slice A2 g.names.length c2) (.slice A3 g.rules.length c3)) : RepG W g A1 A2 A3 c1 c2 c3 := by
  obtain ⟨_, h1, h2⟩ := Kd.R_reads' h.terms
  obtain ⟨_, h3, h4⟩ := Kd.R_reads' h.names
  obtain ⟨_, h5, h6⟩ := Kd.R_reads' h.rules
  exact ⟨h2, h4, h6, h1, h3, h5⟩
theorem OwnG.below_ {W W1 : World} {base : Nat} {g : Gram} {v1 v2 v3 : Value} (h : OwnG W base g v1 v2 v3) (hb : Below W.heap.size W W1) : OwnG W1 base g v1 v2 v3 := ⟨Kd.R_below h.terms hb, Kd.R_below h.names hb, Kd.R_below h.rules hb⟩
theorem OwnG.lower {W : World} {base base' : Nat} {g : Gram} {v1 v2 v3 : Value} (h : OwnG W base g v1 v2 v3) (hb : base' ≤ base) : OwnG W base' g v1 v2 v3 := ⟨Kd.R_lower h.terms hb, Kd.R_lower h.names hb, Kd.R_lower h.rules hb⟩
/-- One's own with a rule more, read. -/
theorem own_more {w W W1 : World} {g : Gram} {A1 A2 A3 : Option Addr} {c1 c2 c3 : Nat} {A4 : Option Addr} {c4 n : Nat} {x : Rule} {L : List Rule} (hL : L = g.rules ++ [x]) (h : OwnG W w.heap.size g (.slice A1 g.terms.length c1) (.slice A2 g.names.length c2) (.slice A3 g.rules.length c3)) (hr : (kRuleM w).R 46 W1 w.heap.size (fun _ => True) (.slice A4 n c4) L) (hb : Below w.heap.size w W1) (hg : W.grownBy W1 (Value.slice A3 g.rules.length c3).ownBlock) {q : Nat} {cs : Array Value} (hh : W1.heap[q]? = some (.cells cs 25 (0, 0))) (hq : w.heap.size ≤ q) (u : Value) :
    RepG (W1.setCell ⟨q, 2, none⟩ u) ⟨g.terms, g.names, L⟩ A1 A2 A4 c1 c2 c4 := by
  have t1 := Kd.R_set (Kd.R_over h.terms h.rules (by decide) hg) hh (by decide) 2 u
  have t2 := Kd.R_set (Kd.R_over h.names h.rules (by decide) hg) hh (by decide) 2 u
  have hr := Kd.R_set hr hh (show ∀ q, q ∈ [46, 3] → q ≠ 25 by decide) 2 u
  have hb := below_set hb hq 2 u
  obtain ⟨_, h1, h2⟩ := Kd.R_reads' t1
  obtain ⟨_, h3, h4⟩ := Kd.R_reads' t2
  obtain ⟨hn, h5, h6⟩ := Kd.R_reads' hr
  exact ⟨h2, h4, rule_read hb h6, h1, h3, by rw [← hn]; exact h5⟩
/-- The same with a name more. -/
theorem own_name {w W W1 : World} {g : Gram} {A1 A2 A3 : Option Addr} {c1 c2 c3 : Nat} {A4 : Option Addr} {c4 n : Nat} {s : ByteArray} {L : List ByteArray} (hL : L = g.names ++ [s]) (h : OwnG W w.heap.size g (.slice A1 g.terms.length c1) (.slice A2 g.names.length c2) (.slice A3 g.rules.length c3)) (hr : kStr.R 9 W1 w.heap.size (fun k => True ∧ some k ≠ (Value.slice A1 g.terms.length c1).ownBlock) (.slice A4 n c4) L) (hg : W.grownBy W1 (Value.slice A2 g.names.length c2).ownBlock) {q : Nat} {cs : Array Value} (hh : W1.heap[q]? = some (.cells cs 25 (0, 0))) (u : Value) :
    RepG (W1.setCell ⟨q, 1, none⟩ u) ⟨g.terms, L, g.rules⟩ A1 A4 A3 c1 c4 c3 := by
  have t1 := Kd.R_set (Kd.R_grown h.terms hg (fun k hk => hk.2)) hh (by decide) 1 u
  have t2 := Kd.R_set (Kd.R_over h.rules h.names (by decide) hg) hh (by decide) 1 u
  have hr := Kd.R_set hr hh (by decide) 1 u
  obtain ⟨_, h1, h2⟩ := Kd.R_reads' t1
  obtain ⟨_, h3, h4⟩ := Kd.R_reads' t2
  obtain ⟨hn, h5, h6⟩ := Kd.R_reads' hr
  exact ⟨h2, h6, h4, h1, by rw [← hn]; exact h5, h3⟩
theorem own_cut0 {W : World} {base : Nat} {g : Gram} {A1 A2 A3 : Option Addr} {c1 c2 c3 : Nat} {L : List Rule} {last : Rule} (hL : g.rules = L ++ [last]) (h : OwnG W base g (.slice A1 g.terms.length c1) (.slice A2 g.names.length c2) (.slice A3 g.rules.length c3)) : RepG W ⟨g.terms, g.names, L⟩ A1 A2 A3 c1 c2 c3 := by
  obtain ⟨_, h1, h2⟩ := Kd.R_reads' h.terms
  obtain ⟨_, h3, h4⟩ := Kd.R_reads' h.names
  obtain ⟨_, h5, h6⟩ := Kd.R_reads' h.rules
  have hl : L.length ≤ g.rules.length := by rw [hL, List.length_append]; omega
  have h7 := C_take' h6 hl
  rw [show g.rules.take L.length = L by rw [hL]; simp] at h7
  exact ⟨h2, h4, h7, h1, h3, Nat.le_trans hl h5⟩
/-- The same but for the last rule. -/
theorem own_cut {W : World} {base : Nat} {g : Gram} {A1 A2 A3 : Option Addr} {c1 c2 c3 : Nat} {L : List Rule} {last : Rule} (hL : g.rules = L ++ [last]) (h : OwnG W base g (.slice A1 g.terms.length c1) (.slice A2 g.names.length c2) (.slice A3 g.rules.length c3)) {q : Nat} {cs : Array Value} (hh : W.heap[q]? = some (.cells cs 25 (0, 0))) (u : Value) :
    RepG (W.setCell ⟨q, 2, none⟩ u) ⟨g.terms, g.names, L⟩ A1 A2 A3 c1 c2 c3 := by
  have t1 := Kd.R_set h.terms hh (by decide) 2 u
  have t2 := Kd.R_set h.names hh (by decide) 2 u
  have t3 := Kd.R_set h.rules hh (by decide) 2 u
  obtain ⟨_, h1, h2⟩ := Kd.R_reads' t1
  obtain ⟨_, h3, h4⟩ := Kd.R_reads' t2
  obtain ⟨_, h5, h6⟩ := Kd.R_reads' t3
  have hl : L.length ≤ g.rules.length := by rw [hL, List.length_append]; omega
  have h7 := C_take' h6 hl
  rw [show g.rules.take L.length = L by rw [hL]; simp] at h7
  exact ⟨h2, h4, h7, h1, h3, Nat.le_trans hl h5⟩
theorem app_ruleM_step {ops : Array Oper} {o : Oper} {a : Act} {Q : Exit → Act → World → Prop} {Kc : Act → World → Prop} {w0 W : World} {v : Value} {s x : Operand} {xs : List Rule} {p : Rule} {A : Option Addr} {c : Nat} (hw : Region.wanted o (yielded ops a.tmps) = true) (ho : o.op = .call { callee := .builtin .append, args := #[s, x], argTypes := #[23, 23] })
    (HO : kRule.R 46 W w0.heap.size (fun _ => True) v xs) (hpl : p.right.length ≤ c) (HU : kInt.C w0 A p.right.length p.right) (HB : Below w0.heap.size w0 W) (hl : xs.length + 1 ≤ 2000000000000) (hs : a.eval s = v) (hx : a.eval x = .slice (some ⟨W.heap.size, 0, none⟩) 1 1)
    (h : ∀ v1 w1, (kRuleM w0).R 46 w1 w0.heap.size (fun _ => True) v1 (xs ++ [p]) → Below w0.heap.size w0 w1 → W.grownBy w1 v.ownBlock → Kc (a.put o.dst v1) w1) :
    if Region.wanted o (yielded ops a.tmps) = true then Oper.wp Try.prog o a (W.alloc (.cells #[.int .i64 p.left, .slice A p.right.length c] 46)) Kc Q else Kc (a.put o.dst undef) (W.alloc (.cells #[.int .i64 p.left, .slice A p.right.length c] 46)) :=
  Kd.R_append_step (kRuleM w0) w0.heap.size hw s x 23 46 _ 32 ho Try.underlying23 infoRule rfl (show 0 < 2 by decide) (by decide) v xs p [.int .i64 p.left, .slice A p.right.length c] (fun _ => True) (fun _ => False) hs hx (rule_came hpl HU) (fun _ h => h.elim) (fun _ _ => trivial) (rule_mix HO) HB HB.size (by omega) (fun v1 w1 h1 h2 h3 h4 => h v1 w1 h1 h2 h3)
abbrev kBool : Kd Bool := Kd.bool
theorem infoBool : (Try.prog.info? 4).map (fun i => (i.zero, i.size, i.bytes)) = some (some (.bool false), 1, 1) := by kernel_rfl
/-- A row of truth values, made. -/
theorem mk_bools {ops : Array Oper} {rest : List Oper} {o : Oper} {a : Act} {Q : Exit → Act → World → Prop} {w0 W : World} {base : Nat} {ok : Nat → Prop} {N : Tmp} {x y : Operand} (n : Nat) (hgd : o.guard = none) (hd : o.dst = some N) (ho : o.op = .makeSlice 57 x y) (hx : a.eval x = .int .i64 n) (hy : a.eval y = .int .i64 n)
    (hn : n ≤ 1000000000) (hfresh : ok W.heap.size) (HB : Below base w0 W) (hbase : base ≤ W.heap.size)
    (h : ∀ v1 w1, kBool.R 4 w1 base ok v1 (List.replicate n false) → Below base w0 w1 → W.grownBy w1 none → (∃ b, v1.ownBlock = some b ∧ W.heap.size ≤ b) → wpList Try.prog ops Q rest (a.put o.dst v1) w1) : wpList Try.prog ops Q (o :: rest) a W :=
  Kd.R_make kBool base 4 hgd hd 57 x y ho (n : Int) hx hy Try.underlying57 _ 1 infoBool rfl (by decide) (by decide) false (okp := fun _ => False) (ok := ok) rfl (fun _ h => h.elim) hfresh (by omega) (by simp only [Int.toNat_natCast]; omega) HB hbase (by simpa only [Int.toNat_natCast] using h)
end Go.Proofs.Ytmkgcjhimajgiaa

/- What is read of the laws' arguments: rows of texts, of numbers, of rules; a grammar; two numbers. -/
set_option linter.unusedVariables false
set_option linter.unusedSimpArgs false
namespace Go.Proofs.Ytmkgcjhimajgiaa
open Go.RowKit Go.Proofs.YtmkgcjhimajgiaaW.PrintWords Go.Deep

section
variable {H : Type} {enc : TypeId × Value → H} {w : World} {base : Nat} {spare : Nat → Bool} {held : Bool} {fuel : Nat}
set_option maxRecDepth 100000 in
/-- A row that is read, whatever its elements. -/
theorem C_open {α : Type} [Inhabited α] {d : Kd α} {t e : TypeId} {v : Value} {x : DataW H × List MemPlace} (ht : Try.prog.underlying t = some (.slice e)) (hsz : Try.prog.cellsOf e = d.sz)
    (elem : ∀ n cs y, DataW.trod enc Try.prog w base spare held n e cs = some y → ∃ x, d.K w x cs) (h : DataW.trod enc Try.prog w base spare held fuel t [v] = some x) :
    ∃ A n c xs, v = .slice A n c ∧ n = xs.length ∧ n ≤ c ∧ d.C w A n xs := by
  rcases open_slice ht h with ⟨hcs, _⟩ | ⟨a, len, cap, m, n, D, Pl, hcs, _, hl, hcap, hm, _, hx⟩
  · injection hcs with hcs _
    exact ⟨none, 0, 0, [], hcs, rfl, Nat.le_refl _, rfl, by omega, fun h => by omega⟩
  · injection hcs with hcs _
    have hlm : len ≤ m := by rw [hm]; split <;> omega
    obtain ⟨X, hX⟩ := choose_lt (α := α) (n := len) (p := fun i x => ∃ cs, w.cells? base (a.add (i * Try.prog.cellsOf e)) (Try.prog.cellsOf e) = some cs ∧ d.K w x cs) (fun i hi => by
      obtain ⟨cs, h1, h2⟩ := hx i (by omega)
      obtain ⟨x, h3⟩ := elem _ _ _ h2
      exact ⟨x, cs, h1, h3⟩)
    have hmax : len ≤ 9223372036854775807 := by simp only [maxLen] at hcap; omega
    refine ⟨some a, len, cap, (List.range len).map X, hcs, by simp, hl, by simp, hmax, fun _ => ⟨a, rfl, fun j p hj => ?_⟩⟩
    have hjl : j < len := by
      have := (List.getElem?_eq_some_iff.1 hj).1
      simpa using this
    have hp : p = X j := by
      rw [List.getElem?_map, List.getElem?_range hjl] at hj
      injection hj with hj
      exact hj.symm
    subst hp
    obtain ⟨cs, h1, h2⟩ := hX j hjl
    rw [hsz] at h1
    obtain ⟨_, hlen, hc⟩ := World.cells?_some h1
    refine ⟨cs, hlen, h2, fun i u hu => ?_⟩
    have hi : i < d.sz := by rw [← hlen]; exact (List.getElem?_eq_some_iff.1 hu).1
    rw [← Addr.add_add, hc i hi]
    exact hu
theorem strs_open {v : Value} {x : DataW H × List MemPlace} (h : DataW.trod enc Try.prog w base spare held fuel 22 [v] = some x) : ∃ A n c xs, v = .slice A n c ∧ n = xs.length ∧ n ≤ c ∧ kStr.C w A n xs :=
  C_open Try.underlying22 (by kernel_rfl) (fun n cs y hy => by
    obtain ⟨s, rfl, _⟩ := DataW.trod_string Try.underlying9 hy
    exact ⟨s, rfl⟩) h
theorem ints_open {v : Value} {x : DataW H × List MemPlace} (h : DataW.trod enc Try.prog w base spare held fuel 26 [v] = some x) : ∃ A n c xs, v = .slice A n c ∧ n = xs.length ∧ n ≤ c ∧ kInt.C w A n xs :=
  C_open Try.underlying26 (by kernel_rfl) (fun n cs y hy => by
    obtain ⟨s, rfl, _⟩ := DataW.trod_int Try.underlying3 hy
    exact ⟨s, rfl⟩) h
set_option maxRecDepth 100000 in
theorem rules_open {v : Value} {x : DataW H × List MemPlace} (h : DataW.trod enc Try.prog w base spare held fuel 23 [v] = some x) : ∃ A n c xs, v = .slice A n c ∧ n = xs.length ∧ n ≤ c ∧ kRule.C w A n xs :=
  letI : Inhabited Rule := ⟨⟨0, []⟩⟩
  C_open Try.underlying23 (by kernel_rfl) (fun n cs y hy => by
    obtain ⟨y0, y1, m, _, hl, h0, h1⟩ := Go.ChangeShapes.trod_struct2 Try.underlying46 hy
    have hl2 : cs.length = 2 := hl.trans (by kernel_rfl)
    match cs, hl2 with
    | [u0, u1], _ =>
      have h0' : DataW.trod enc Try.prog w base spare held m 3 [u0] = some y0 := h0
      have h1' : DataW.trod enc Try.prog w base spare held m 26 [u1] = some y1 := h1
      obtain ⟨z, hz, _⟩ := DataW.trod_int Try.underlying3 h0'
      injection hz with hz _
      subst hz
      obtain ⟨A, k, c, xs, rfl, rfl, hc, hC⟩ := ints_open h1'
      exact ⟨⟨z, xs⟩, [.int .i64 z], [.slice A xs.length c], rfl, rfl, ⟨A, c, rfl, hc, hC⟩⟩) h
set_option maxRecDepth 100000 in
theorem gram_open {v : Value} {dd : DataW H} {p : List MemPlace} {r : Reach} {b0 : Nat} (hv : Value.okWide Try.prog w r b0 25 v) (h : DataW.Trod enc Try.prog w base spare held 25 v dd p) :
    ∃ g A1 A2 A3 c1 c2 c3, v = .agg #[.slice A1 g.terms.length c1, .slice A2 g.names.length c2, .slice A3 g.rules.length c3] ∧ RepG w g A1 A2 A3 c1 c2 c3 := by
  obtain ⟨v0, v1, v2, y0, y1, y2, n, rfl, _, _, h0, h1, h2⟩ := Go.Joins.open_agg3 Try.underlying25 (by kernel_rfl) (by kernel_rfl) hv h
  obtain ⟨A1, n1, c1, ts, rfl, rfl, hc1, hC1⟩ := strs_open h0
  obtain ⟨A2, n2, c2, ns, rfl, rfl, hc2, hC2⟩ := strs_open h1
  obtain ⟨A3, n3, c3, rs, rfl, rfl, hc3, hC3⟩ := rules_open h2
  exact ⟨⟨ts, ns, rs⟩, A1, A2, A3, c1, c2, c3, rfl, hC1, hC2, hC3, hc1, hc2, hc3⟩
end
end Go.Proofs.Ytmkgcjhimajgiaa

/- A grammar that is read of the laws' arguments: its texts are no longer than texts may be. -/
set_option linter.unusedVariables false
set_option linter.unusedSimpArgs false
namespace Go.Proofs.Ytmkgcjhimajgiaa
open Go.RowKit Go.Proofs.YtmkgcjhimajgiaaW.PrintWords Go.Deep

section
variable {H : Type} {enc : TypeId × Value → H} {w : World} {base : Nat} {spare : Nat → Bool} {held : Bool} {fuel : Nat}
set_option maxRecDepth 100000 in
/-- A row that is read, whatever its elements, with what holds of each. -/
theorem C_openP {α : Type} [Inhabited α] {d : Kd α} (P : α → Prop) {t e : TypeId} {v : Value} {x : DataW H × List MemPlace} (ht : Try.prog.underlying t = some (.slice e)) (hsz : Try.prog.cellsOf e = d.sz)
    (elem : ∀ n cs y, DataW.trod enc Try.prog w base spare held n e cs = some y → ∃ x, d.K w x cs ∧ P x) (h : DataW.trod enc Try.prog w base spare held fuel t [v] = some x) :
    ∃ A n c xs, v = .slice A n c ∧ n = xs.length ∧ n ≤ c ∧ d.C w A n xs ∧ ∀ x ∈ xs, P x := by
  rcases open_slice ht h with ⟨hcs, _⟩ | ⟨a, len, cap, m, n, D, Pl, hcs, _, hl, hcap, hm, _, hx⟩
  · injection hcs with hcs _
    exact ⟨none, 0, 0, [], hcs, rfl, Nat.le_refl _, ⟨rfl, by omega, fun h => by omega⟩, fun x hx => by cases hx⟩
  · injection hcs with hcs _
    have hlm : len ≤ m := by rw [hm]; split <;> omega
    obtain ⟨X, hX⟩ := choose_lt (α := α) (n := len) (p := fun i x => (∃ cs, w.cells? base (a.add (i * Try.prog.cellsOf e)) (Try.prog.cellsOf e) = some cs ∧ d.K w x cs) ∧ P x) (fun i hi => by
      obtain ⟨cs, h1, h2⟩ := hx i (by omega)
      obtain ⟨x, h3, h4⟩ := elem _ _ _ h2
      exact ⟨x, ⟨cs, h1, h3⟩, h4⟩)
    have hmax : len ≤ 9223372036854775807 := by simp only [maxLen] at hcap; omega
    refine ⟨some a, len, cap, (List.range len).map X, hcs, by simp, hl, ⟨by simp, hmax, fun _ => ⟨a, rfl, fun j p hj => ?_⟩⟩, fun x hx => ?_⟩
    · have hjl : j < len := by
        have := (List.getElem?_eq_some_iff.1 hj).1
        simpa using this
      have hp : p = X j := by
        rw [List.getElem?_map, List.getElem?_range hjl] at hj
        injection hj with hj
        exact hj.symm
      subst hp
      obtain ⟨⟨cs, h1, h2⟩, _⟩ := hX j hjl
      rw [hsz] at h1
      obtain ⟨_, hlen, hc⟩ := World.cells?_some h1
      refine ⟨cs, hlen, h2, fun i u hu => ?_⟩
      have hi : i < d.sz := by rw [← hlen]; exact (List.getElem?_eq_some_iff.1 hu).1
      rw [← Addr.add_add, hc i hi]
      exact hu
    · obtain ⟨j, hj, rfl⟩ := List.mem_map.1 hx
      exact (hX j (List.mem_range.1 hj)).2
theorem strs_openS {v : Value} {x : DataW H × List MemPlace} (h : DataW.trod enc Try.prog w base spare held fuel 22 [v] = some x) : ∃ A n c xs, v = .slice A n c ∧ n = xs.length ∧ n ≤ c ∧ kStr.C w A n xs ∧ ∀ s ∈ xs, s.size ≤ maxLen :=
  C_openP (fun s : ByteArray => s.size ≤ maxLen) Try.underlying22 (by kernel_rfl) (fun n cs y hy => by
    obtain ⟨s, rfl, _, hs⟩ := DataW.trod_string Try.underlying9 hy
    exact ⟨s, rfl, hs⟩) h
set_option maxRecDepth 100000 in
theorem gram_openS {v : Value} {dd : DataW H} {p : List MemPlace} {r : Reach} {b0 : Nat} (hv : Value.okWide Try.prog w r b0 25 v) (h : DataW.Trod enc Try.prog w base spare held 25 v dd p) :
    ∃ g A1 A2 A3 c1 c2 c3, v = .agg #[.slice A1 g.terms.length c1, .slice A2 g.names.length c2, .slice A3 g.rules.length c3] ∧ RepG w g A1 A2 A3 c1 c2 c3 ∧ Sized g := by
  obtain ⟨v0, v1, v2, y0, y1, y2, n, rfl, _, _, h0, h1, h2⟩ := Go.Joins.open_agg3 Try.underlying25 (by kernel_rfl) (by kernel_rfl) hv h
  obtain ⟨A1, n1, c1, ts, rfl, rfl, hc1, hC1, hz1⟩ := strs_openS h0
  obtain ⟨A2, n2, c2, ns, rfl, rfl, hc2, hC2, hz2⟩ := strs_openS h1
  obtain ⟨A3, n3, c3, rs, rfl, rfl, hc3, hC3⟩ := rules_open h2
  exact ⟨⟨ts, ns, rs⟩, A1, A2, A3, c1, c2, c3, rfl, ⟨hC1, hC2, hC3, hc1, hc2, hc3⟩, ⟨hz2, hz1⟩⟩
end
end Go.Proofs.Ytmkgcjhimajgiaa

/- Rows of whole numbers that come in as arguments: each is one. -/
set_option linter.unusedVariables false
set_option linter.unusedSimpArgs false
namespace Go.Proofs.Ytmkgcjhimajgiaa
open Go.RowKit Go.Proofs.YtmkgcjhimajgiaaW.PrintWords Go.Deep
section
variable {H : Type} {enc : TypeId × Value → H} {w : World} {base : Nat} {spare : Nat → Bool} {held : Bool} {fuel : Nat}
theorem ints_openS {v : Value} {x : DataW H × List MemPlace} (h : DataW.trod enc Try.prog w base spare held fuel 26 [v] = some x) : ∃ A n c xs, v = .slice A n c ∧ n = xs.length ∧ n ≤ c ∧ kInt.C w A n xs ∧ ∀ y ∈ xs, -9223372036854775808 ≤ y ∧ y ≤ 9223372036854775807 :=
  C_openP (d := kInt) (fun y : Int => -9223372036854775808 ≤ y ∧ y ≤ 9223372036854775807) Try.underlying26 (by kernel_rfl) (fun n cs y hy => by
    obtain ⟨s, rfl, _, hs⟩ := DataW.trod_int Try.underlying3 hy
    exact ⟨s, rfl, bounds_i64 hs⟩) h
end
end Go.Proofs.Ytmkgcjhimajgiaa
