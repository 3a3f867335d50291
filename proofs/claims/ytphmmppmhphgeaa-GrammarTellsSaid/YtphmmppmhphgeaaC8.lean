/- The state of grammar.Of, and what its steps leave. -/
import Derived.Test.YtphmmppmhphgeaaC7
set_option linter.unusedVariables false
set_option linter.unusedSimpArgs false
namespace Go.Proofs.Ytphmmppmhphgeaa
open Go.RowKit Go.Proofs.YtphmmppmhphgeaaW.PrintWords

theorem M_alt_inv {w : World} {base : Nat} {ok : Nat → Prop} {x : Alt} {cs : List Value} (h : kAlt.M w base ok x cs) : ∃ u, cs = [.int .i64 x.left.kind, .string x.left.text, .int .i64 x.left.pos, u] ∧ kTok.R 49 w base ok u x.right := by
  obtain ⟨a, b, rfl, h1, ⟨u, rfl, h2⟩⟩ := h
  have h3 := K_tok (Kd.K_of_M _ h1)
  subst h3
  exact ⟨u, rfl, h2⟩
theorem at_altR {W : World} {base : Nat} {ok : Nat → Prop} {A : Option Addr} {n c : Nat} {xs : List Alt} (h : kAlt.R 74 W base ok (.slice A n c) xs) (i : Nat) (hi : i < xs.length) :
    ∃ ad A1 c1, A = some ad ∧ W.cell? (ad.add (i * 4)) = some (.int .i64 (xs[i]'hi).left.kind) ∧ W.cell? ⟨(ad.add (i * 4)).block, (ad.add (i * 4)).off + 1, none⟩ = some (.string (xs[i]'hi).left.text) ∧ W.cell? ⟨(ad.add (i * 4)).block, (ad.add (i * 4)).off + 2, none⟩ = some (.int .i64 (xs[i]'hi).left.pos) ∧ W.cell? ⟨(ad.add (i * 4)).block, (ad.add (i * 4)).off + 3, none⟩ = some (.slice A1 (xs[i]'hi).right.length c1) ∧ kTok.R 49 W base ok (.slice A1 (xs[i]'hi).right.length c1) (xs[i]'hi).right := by
  obtain ⟨hn, hc, hC⟩ := Kd.R_reads' h
  obtain ⟨ad, A1, c1, rfl, h1, h2, h3, h4, _, _⟩ := at_alt hC i hi
  obtain ⟨g, cap, he, _⟩ := Kd.R_form h (by omega)
  injection he with e1 e2 e3
  injection e1 with e1
  subst e1
  obtain ⟨cs, hl, hM, hcell, _⟩ := Kd.R_elem h (xs[i]'hi) i (by omega) (by omega)
  rw [show (i : Int).toNat = i by omega, List.getD_eq_getElem?_getD, List.getElem?_eq_getElem hi] at hM
  obtain ⟨u, rfl, hu⟩ := M_alt_inv hM
  have hc3 := hcell 3 u rfl
  have h5 : W.cell? ⟨g, i * 4 + 3, none⟩ = some (.slice A1 (xs[i]'hi).right.length c1) := by
    have h5 := h4
    rw [add_plain] at h5
    exact h5
  have hsz : kAlt.sz = 4 := rfl
  rw [hsz, show (i : Int).toNat = i by omega, h5] at hc3
  injection hc3 with hc3
  subst hc3
  exact ⟨_, A1, c1, rfl, h1, h2, h3, h4, Kd.R_mono hu (fun _ hk => hk.1)⟩

/-- The state of the making of a grammar, entered in w: the results' two cells, the three rows, the alternatives. -/
structure OfSt (w W : World) (ts ns : List ByteArray) (rs : List Rule) (v1 v2 v3 : Value) (va : Value) (alts : List Alt) : Prop where
  cellG : W.heap[w.heap.size]? = some (.cells #[v1, v2, v3] 25 (0, 0))
  cellF : W.heap[w.heap.size + 1]? = some (.cells #[.int .i64 0, .int .i64 0] 30 (0, 0))
  terms : kStr.R 9 W w.heap.size (fun k => some k ≠ v2.ownBlock) v1 ts
  names : kStr.R 9 W w.heap.size (fun k => some k ≠ v1.ownBlock) v2 ns
  rules : kRule.R 56 W w.heap.size (fun _ => True) v3 rs
  alts : kAlt.R 74 W w.heap.size (fun _ => True) va alts
  below : Below w.heap.size w W
section
variable {w W W1 : World} {ts ns xs1 : List ByteArray} {rs rs1 : List Rule} {v1 v2 v3 va v' : Value} {alts : List Alt}
theorem OfSt.step_ (h : OfSt w W ts ns rs v1 v2 v3 va alts) (hb : Below W.heap.size W W1) : OfSt w W1 ts ns rs v1 v2 v3 va alts :=
  ⟨blk_below h.cellG hb, blk_below h.cellF hb, Kd.R_below h.terms hb, Kd.R_below h.names hb, Kd.R_below h.rules hb, Kd.R_below h.alts hb, below_then h.below h.below.size hb⟩
theorem OfSt.addName (h : OfSt w W ts ns rs v1 v2 v3 va alts) (a : Appd kStr 9 w W w.heap.size (fun k => some k ≠ v1.ownBlock) v2 xs1 v' W1) : OfSt w (W1.setCell ⟨w.heap.size, 1, none⟩ v') ts xs1 rs v1 v' v3 va alts := by
  have g1 := blk_grown h.cellG a.grown (Kd.R_ne h.names h.cellG (by decide))
  have f1 := blk_grown h.cellF a.grown (Kd.R_ne h.names h.cellF (by decide))
  exact ⟨blk_set g1 1 _, blk_far (p := ⟨w.heap.size, 1, none⟩) f1 (by show w.heap.size + 1 ≠ w.heap.size; omega) _, Kd.R_set (two_append h.terms a) g1 (by decide) 1 _, Kd.R_set a.row g1 (by decide) 1 _, Kd.R_set (Kd.R_over h.rules h.names (by decide) a.grown) g1 (by decide) 1 _, Kd.R_set (Kd.R_over h.alts h.names (by decide) a.grown) g1 (by decide) 1 _, below_set a.below (Nat.le_refl _) 1 _⟩
theorem OfSt.addTerm (h : OfSt w W ts ns rs v1 v2 v3 va alts) (a : Appd kStr 9 w W w.heap.size (fun k => some k ≠ v2.ownBlock) v1 xs1 v' W1) : OfSt w (W1.setCell ⟨w.heap.size, 0, none⟩ v') xs1 ns rs v' v2 v3 va alts := by
  have g1 := blk_grown h.cellG a.grown (Kd.R_ne h.terms h.cellG (by decide))
  have f1 := blk_grown h.cellF a.grown (Kd.R_ne h.terms h.cellF (by decide))
  exact ⟨blk_set g1 0 _, blk_far (p := ⟨w.heap.size, 0, none⟩) f1 (by show w.heap.size + 1 ≠ w.heap.size; omega) _, Kd.R_set a.row g1 (by decide) 0 _, Kd.R_set (two_append h.names a) g1 (by decide) 0 _, Kd.R_set (Kd.R_over h.rules h.terms (by decide) a.grown) g1 (by decide) 0 _, Kd.R_set (Kd.R_over h.alts h.terms (by decide) a.grown) g1 (by decide) 0 _, below_set a.below (Nat.le_refl _) 0 _⟩
theorem OfSt.addRule (h : OfSt w W ts ns rs v1 v2 v3 va alts) (a : Appd kRule 56 w W w.heap.size (fun _ => True) v3 rs1 v' W1) : OfSt w (W1.setCell ⟨w.heap.size, 2, none⟩ v') ts ns rs1 v1 v2 v' va alts := by
  have g1 := blk_grown h.cellG a.grown (Kd.R_ne h.rules h.cellG (by decide))
  have f1 := blk_grown h.cellF a.grown (Kd.R_ne h.rules h.cellF (by decide))
  exact ⟨blk_set g1 2 _, blk_far (p := ⟨w.heap.size, 2, none⟩) f1 (by show w.heap.size + 1 ≠ w.heap.size; omega) _, Kd.R_set (Kd.R_over h.terms h.rules (by decide) a.grown) g1 (by decide) 2 _, Kd.R_set (Kd.R_over h.names h.rules (by decide) a.grown) g1 (by decide) 2 _, Kd.R_set a.row g1 (by decide) 2 _, Kd.R_set (Kd.R_over h.alts h.rules (by decide) a.grown) g1 (by decide) 2 _, below_set a.below (Nat.le_refl _) 2 _⟩
/-- The tokens of an alternative, behind an append onto a row of texts and its store. -/
theorem OfSt.toks (h : OfSt w W ts ns rs v1 v2 v3 va alts) {ok ok' : Nat → Prop} {u : Value} {xs : List Tok} {us : List ByteArray} {y : Value} (hr : kStr.R 9 W w.heap.size ok' y us) (ht : kTok.R 49 W w.heap.size ok u xs) (hg : W.grownBy W1 y.ownBlock) (j : Nat) : kTok.R 49 (W1.setCell ⟨w.heap.size, j, none⟩ v') w.heap.size ok u xs :=
  Kd.R_set (Kd.R_over ht hr (by decide) hg) (blk_grown h.cellG hg (Kd.R_ne hr h.cellG (by decide))) (by decide) j _
theorem OfSt.rep {A1 A2 A3 : Option Addr} {n1 n2 n3 c1 c2 c3 : Nat} (h : OfSt w W ts ns rs (.slice A1 n1 c1) (.slice A2 n2 c2) (.slice A3 n3 c3) va alts) : n1 = ts.length ∧ n2 = ns.length ∧ n3 = rs.length ∧ RepG W ⟨ts, ns, rs⟩ A1 A2 A3 c1 c2 c3 := by
  obtain ⟨h1, k1, r1⟩ := Kd.R_reads' h.terms
  obtain ⟨h2, k2, r2⟩ := Kd.R_reads' h.names
  obtain ⟨h3, k3, r3⟩ := Kd.R_reads' h.rules
  exact ⟨h1, h2, h3, r1, r2, r3, by show ts.length ≤ c1; omega, by show ns.length ≤ c2; omega, by show rs.length ≤ c3; omega⟩
/-- The state is laid into its own cells anew. -/
theorem OfSt.final (h : OfSt w W ts ns rs v1 v2 v3 va alts) : OfSt w (((((W.setCell ⟨w.heap.size, 0, none⟩ v1).setCell ⟨w.heap.size, 1, none⟩ v2).setCell ⟨w.heap.size, 2, none⟩ v3).setCell ⟨w.heap.size + 1, 0, none⟩ (.int .i64 0)).setCell ⟨w.heap.size + 1, 1, none⟩ (.int .i64 0)) ts ns rs v1 v2 v3 va alts := by
  have hne : w.heap.size ≠ w.heap.size + 1 := by omega
  have g0 := h.cellG
  have g1 := blk_set g0 0 v1
  have g2 := blk_set g1 1 v2
  have g3 := blk_set g2 2 v3
  have f0 := h.cellF
  have f1 := blk_far (p := ⟨w.heap.size, 0, none⟩) f0 hne.symm v1
  have f2 := blk_far (p := ⟨w.heap.size, 1, none⟩) f1 hne.symm v2
  have f3 := blk_far (p := ⟨w.heap.size, 2, none⟩) f2 hne.symm v3
  have f4 := blk_set f3 0 (.int .i64 0)
  have f5 := blk_set f4 1 (.int .i64 0)
  exact ⟨blk_far (p := ⟨w.heap.size + 1, 1, none⟩) (blk_far (p := ⟨w.heap.size + 1, 0, none⟩) g3 hne _) hne _, f5,
    Kd.R_set (Kd.R_set (Kd.R_set (Kd.R_set (Kd.R_set h.terms g0 (by decide) 0 _) g1 (by decide) 1 _) g2 (by decide) 2 _) f3 (by decide) 0 _) f4 (by decide) 1 _,
    Kd.R_set (Kd.R_set (Kd.R_set (Kd.R_set (Kd.R_set h.names g0 (by decide) 0 _) g1 (by decide) 1 _) g2 (by decide) 2 _) f3 (by decide) 0 _) f4 (by decide) 1 _,
    Kd.R_set (Kd.R_set (Kd.R_set (Kd.R_set (Kd.R_set h.rules g0 (by decide) 0 _) g1 (by decide) 1 _) g2 (by decide) 2 _) f3 (by decide) 0 _) f4 (by decide) 1 _,
    Kd.R_set (Kd.R_set (Kd.R_set (Kd.R_set (Kd.R_set h.alts g0 (by decide) 0 _) g1 (by decide) 1 _) g2 (by decide) 2 _) f3 (by decide) 0 _) f4 (by decide) 1 _,
    below_set (below_set (below_set (below_set (below_set h.below (Nat.le_refl _) _ _) (Nat.le_refl _) _ _) (Nat.le_refl _) _ _) (by omega) _ _) (by omega) _ _⟩
end
theorem app_rule {ops : Array Oper} {rest : List Oper} {o : Oper} {a : Act} {Q : Exit → Act → World → Prop} {w0 W : World} {base : Nat} {v : Value} {s x : Operand} {xs : List Rule} {p : Rule} {u : Value} {ok : Nat → Prop} (hgd : o.guard = none) (ho : o.op = .call { callee := .builtin .append, args := #[s, x], argTypes := #[23, 23] })
    (HO : kRule.R 56 W base (fun _ => True) v xs) (HU : kInt.R 3 W base (fun q => some q ≠ v.ownBlock) u p.right) (HB : Below base w0 W) (hbase : base ≤ W.heap.size) (hl : xs.length + 1 ≤ 2000000000000) (hs : a.eval s = v) (hx : a.eval x = .slice (some ⟨W.heap.size, 0, none⟩) 1 1)
    (h : ∀ v1 w1, Appd kRule 56 w0 W base (fun _ => True) v (xs ++ [p]) v1 w1 → wpList Try.prog ops Q rest (a.put o.dst v1) w1) :
    wpList Try.prog ops Q (o :: rest) a (W.alloc (.cells #[.int .i64 p.left, u] 56)) :=
  Kd.R_append kRule base hgd s x 23 56 _ 32 ho Try.underlying23 infoRule rfl (by decide) (by decide) v xs p [.int .i64 p.left, u] (fun _ => True) (fun q => some q ≠ v.ownBlock) hs hx (M_rule HU) (fun _ h => ⟨trivial, h⟩) (fun _ _ => trivial) HO HB hbase (by omega) (fun v1 w1 h1 h2 h3 h4 => h v1 w1 ⟨h1, h2, h3, h4⟩)
end Go.Proofs.Ytphmmppmhphgeaa
