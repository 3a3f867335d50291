/- Words for GrammarSpoilt: a grammar of one's own with a rule of another one more. -/
import Derived.Test.YtphmmppmhphgeaaY2
import Derived.Test.YtphmmppmhphgeaaP6
import Derived.Test.YtphmmppmhphgeaaE5
import Derived.Test.YtphmmppmhphgeaaE3
set_option linter.unusedVariables false
set_option linter.unusedSimpArgs false
namespace Go.Proofs.Ytphmmppmhphgeaa
open Go.RowKit Go.Proofs.YtphmmppmhphgeaaW.PrintWords Go.Proofs.YtphmmppmhphgeaaW.PrintLast

/-- Rules whose right sides may have come in (in w0) or been made. -/
def kRuleM (w0 : World) : Kd Rule := Kd.iso (Kd.pair kInt (Kd.mix 3 kInt kInt w0)) (fun x : Rule => (x.left, x.right))
theorem rule_mix {w0 W : World} {base : Nat} {ok : Nat → Prop} {v : Value} {xs : List Rule} (h : kRule.R 56 W base ok v xs) : (kRuleM w0).R 56 W base ok v xs := by
  refine Kd.R_imp (d := kRule) (d' := kRuleM w0) rfl ?_ h
  rintro w base ok x cs ⟨a, b, rfl, ha, hb⟩
  exact ⟨a, b, rfl, ha, Kd.slice_mix rfl (fun _ _ _ _ _ h => h) hb⟩
theorem rule_came {w0 W : World} {base : Nat} {ok : Nat → Prop} {x : Rule} {A : Option Addr} {c : Nat} (hl : x.right.length ≤ c) (h : kInt.C w0 A x.right.length x.right) : (kRuleM w0).M W base ok x [.int .i64 x.left, .slice A x.right.length c] :=
  ⟨[.int .i64 x.left], [.slice A x.right.length c], rfl, rfl, Kd.mix_came hl h⟩
theorem rule_read {w0 W : World} {A : Option Addr} {n : Nat} {xs : List Rule} (hb : Below w0.heap.size w0 W) (h : (kRuleM w0).C W A n xs) : kRule.C W A n xs := by
  refine Kd.C_read (d := kRule) (dm := kRuleM w0) rfl ?_ h
  rintro x cs ⟨a, b, rfl, ha, hb'⟩
  obtain ⟨A, c, rfl, h1, h2⟩ := Kd.mix_read rfl (fun _ _ h => h) hb hb'
  exact ⟨a, _, rfl, ha, ⟨A, c, rfl, h1, h2⟩⟩
theorem OwnG.rep {W : World} {base : Nat} {g : Gram} {A1 A2 A3 : Option Addr} {c1 c2 c3 : Nat} (h : OwnG W base g (.slice A1 g.terms.length c1) (.slice A2 g.names.length c2) (.slice A3 g.rules.length c3)) : RepG W g A1 A2 A3 c1 c2 c3 := by
  obtain ⟨_, h1, h2⟩ := Kd.R_reads' h.terms
  obtain ⟨_, h3, h4⟩ := Kd.R_reads' h.names
  obtain ⟨_, h5, h6⟩ := Kd.R_reads' h.rules
  exact ⟨h2, h4, h6, h1, h3, h5⟩
theorem OwnG.below_ {W W1 : World} {base : Nat} {g : Gram} {v1 v2 v3 : Value} (h : OwnG W base g v1 v2 v3) (hb : Below W.heap.size W W1) : OwnG W1 base g v1 v2 v3 := ⟨Kd.R_below h.terms hb, Kd.R_below h.names hb, Kd.R_below h.rules hb⟩
theorem OwnG.lower {W : World} {base base' : Nat} {g : Gram} {v1 v2 v3 : Value} (h : OwnG W base g v1 v2 v3) (hb : base' ≤ base) : OwnG W base' g v1 v2 v3 := ⟨Kd.R_lower h.terms hb, Kd.R_lower h.names hb, Kd.R_lower h.rules hb⟩
/-- One's own with a rule more, read. -/
theorem own_more {w W W1 : World} {g : Gram} {A1 A2 A3 : Option Addr} {c1 c2 c3 : Nat} {A4 : Option Addr} {c4 n : Nat} {x : Rule} {L : List Rule} (hL : L = g.rules ++ [x]) (h : OwnG W w.heap.size g (.slice A1 g.terms.length c1) (.slice A2 g.names.length c2) (.slice A3 g.rules.length c3)) (hr : (kRuleM w).R 56 W1 w.heap.size (fun _ => True) (.slice A4 n c4) L) (hb : Below w.heap.size w W1) (hg : W.grownBy W1 (Value.slice A3 g.rules.length c3).ownBlock) {q : Nat} {cs : Array Value} (hh : W1.heap[q]? = some (.cells cs 25 (0, 0))) (hq : w.heap.size ≤ q) (u : Value) :
    RepG (W1.setCell ⟨q, 2, none⟩ u) ⟨g.terms, g.names, L⟩ A1 A2 A4 c1 c2 c4 := by
  have t1 := Kd.R_set (Kd.R_over h.terms h.rules (by decide) hg) hh (by decide) 2 u
  have t2 := Kd.R_set (Kd.R_over h.names h.rules (by decide) hg) hh (by decide) 2 u
  have hr := Kd.R_set hr hh (show ∀ q, q ∈ [56, 3] → q ≠ 25 by decide) 2 u
  have hb := below_set hb hq 2 u
  obtain ⟨_, h1, h2⟩ := Kd.R_reads' t1
  obtain ⟨_, h3, h4⟩ := Kd.R_reads' t2
  obtain ⟨hn, h5, h6⟩ := Kd.R_reads' hr
  exact ⟨h2, h4, rule_read hb h6, h1, h3, by rw [← hn]; exact h5⟩
/-- The same with a name more. -/
theorem own_name {w W W1 : World} {g : Gram} {A1 A2 A3 : Option Addr} {c1 c2 c3 : Nat} {A4 : Option Addr} {c4 n : Nat} {s : ByteArray} {L : List ByteArray} (hL : L = g.names ++ [s]) (h : OwnG W w.heap.size g (.slice A1 g.terms.length c1) (.slice A2 g.names.length c2) (.slice A3 g.rules.length c3)) (hr : kStr.R 9 W1 w.heap.size (fun k => True ∧ some k ≠ (Value.slice A1 g.terms.length c1).ownBlock) (.slice A4 n c4) L) (hg : W.grownBy W1 (Value.slice A2 g.names.length c2).ownBlock) {q : Nat} {cs : Array Value} (hh : W1.heap[q]? = some (.cells cs 25 (0, 0))) (u : Value) :
    RepG (W1.setCell ⟨q, 1, none⟩ u) ⟨g.terms, L, g.rules⟩ A1 A4 A3 c1 c4 c3 := by
  have t1 := Kd.R_set (Kd.R_grown h.terms hg (fun k hk => hk.2)) hh (by decide) 1 u
  have t2 := Kd.R_set (Kd.R_over h.rules h.names (by decide) hg) hh (by decide) 1 u
  have hr := Kd.R_set hr hh (by decide) 1 u
  obtain ⟨_, h1, h2⟩ := Kd.R_reads' t1
  obtain ⟨_, h3, h4⟩ := Kd.R_reads' t2
  obtain ⟨hn, h5, h6⟩ := Kd.R_reads' hr
  exact ⟨h2, h6, h4, h1, by rw [← hn]; exact h5, h3⟩
theorem own_cut0 {W : World} {base : Nat} {g : Gram} {A1 A2 A3 : Option Addr} {c1 c2 c3 : Nat} {L : List Rule} {last : Rule} (hL : g.rules = L ++ [last]) (h : OwnG W base g (.slice A1 g.terms.length c1) (.slice A2 g.names.length c2) (.slice A3 g.rules.length c3)) : RepG W ⟨g.terms, g.names, L⟩ A1 A2 A3 c1 c2 c3 := by
  obtain ⟨_, h1, h2⟩ := Kd.R_reads' h.terms
  obtain ⟨_, h3, h4⟩ := Kd.R_reads' h.names
  obtain ⟨_, h5, h6⟩ := Kd.R_reads' h.rules
  have hl : L.length ≤ g.rules.length := by rw [hL, List.length_append]; omega
  have h7 := C_take' h6 hl
  rw [show g.rules.take L.length = L by rw [hL]; simp] at h7
  exact ⟨h2, h4, h7, h1, h3, Nat.le_trans hl h5⟩
/-- The same but for the last rule. -/
theorem own_cut {W : World} {base : Nat} {g : Gram} {A1 A2 A3 : Option Addr} {c1 c2 c3 : Nat} {L : List Rule} {last : Rule} (hL : g.rules = L ++ [last]) (h : OwnG W base g (.slice A1 g.terms.length c1) (.slice A2 g.names.length c2) (.slice A3 g.rules.length c3)) {q : Nat} {cs : Array Value} (hh : W.heap[q]? = some (.cells cs 25 (0, 0))) (u : Value) :
    RepG (W.setCell ⟨q, 2, none⟩ u) ⟨g.terms, g.names, L⟩ A1 A2 A3 c1 c2 c3 := by
  have t1 := Kd.R_set h.terms hh (by decide) 2 u
  have t2 := Kd.R_set h.names hh (by decide) 2 u
  have t3 := Kd.R_set h.rules hh (by decide) 2 u
  obtain ⟨_, h1, h2⟩ := Kd.R_reads' t1
  obtain ⟨_, h3, h4⟩ := Kd.R_reads' t2
  obtain ⟨_, h5, h6⟩ := Kd.R_reads' t3
  have hl : L.length ≤ g.rules.length := by rw [hL, List.length_append]; omega
  have h7 := C_take' h6 hl
  rw [show g.rules.take L.length = L by rw [hL]; simp] at h7
  exact ⟨h2, h4, h7, h1, h3, Nat.le_trans hl h5⟩
theorem app_ruleM_step {ops : Array Oper} {o : Oper} {a : Act} {Q : Exit → Act → World → Prop} {Kc : Act → World → Prop} {w0 W : World} {v : Value} {s x : Operand} {xs : List Rule} {p : Rule} {A : Option Addr} {c : Nat} (hw : Region.wanted o (yielded ops a.tmps) = true) (ho : o.op = .call { callee := .builtin .append, args := #[s, x], argTypes := #[23, 23] })
    (HO : kRule.R 56 W w0.heap.size (fun _ => True) v xs) (hpl : p.right.length ≤ c) (HU : kInt.C w0 A p.right.length p.right) (HB : Below w0.heap.size w0 W) (hl : xs.length + 1 ≤ 2000000000000) (hs : a.eval s = v) (hx : a.eval x = .slice (some ⟨W.heap.size, 0, none⟩) 1 1)
    (h : ∀ v1 w1, (kRuleM w0).R 56 w1 w0.heap.size (fun _ => True) v1 (xs ++ [p]) → Below w0.heap.size w0 w1 → W.grownBy w1 v.ownBlock → Kc (a.put o.dst v1) w1) :
    if Region.wanted o (yielded ops a.tmps) = true then Oper.wp Try.prog o a (W.alloc (.cells #[.int .i64 p.left, .slice A p.right.length c] 56)) Kc Q else Kc (a.put o.dst undef) (W.alloc (.cells #[.int .i64 p.left, .slice A p.right.length c] 56)) :=
  Kd.R_append_step (kRuleM w0) w0.heap.size hw s x 23 56 _ 32 ho Try.underlying23 infoRule rfl (show 0 < 2 by decide) (by decide) v xs p [.int .i64 p.left, .slice A p.right.length c] (fun _ => True) (fun _ => False) hs hx (rule_came hpl HU) (fun _ h => h.elim) (fun _ _ => trivial) (rule_mix HO) HB HB.size (by omega) (fun v1 w1 h1 h2 h3 h4 => h v1 w1 h1 h2 h3)
abbrev kBool : Kd Bool := Kd.bool
theorem infoBool : (Try.prog.info? 4).map (fun i => (i.zero, i.size, i.bytes)) = some (some (.bool false), 1, 1) := by kernel_rfl
/-- A row of truth values, made. -/
theorem mk_bools {ops : Array Oper} {rest : List Oper} {o : Oper} {a : Act} {Q : Exit → Act → World → Prop} {w0 W : World} {base : Nat} {ok : Nat → Prop} {N : Tmp} {x y : Operand} (n : Nat) (hgd : o.guard = none) (hd : o.dst = some N) (ho : o.op = .makeSlice 57 x y) (hx : a.eval x = .int .i64 n) (hy : a.eval y = .int .i64 n)
    (hn : n ≤ 1000000000) (hfresh : ok W.heap.size) (HB : Below base w0 W) (hbase : base ≤ W.heap.size)
    (h : ∀ v1 w1, kBool.R 4 w1 base ok v1 (List.replicate n false) → Below base w0 w1 → W.grownBy w1 none → (∃ b, v1.ownBlock = some b ∧ W.heap.size ≤ b) → wpList Try.prog ops Q rest (a.put o.dst v1) w1) : wpList Try.prog ops Q (o :: rest) a W :=
  Kd.R_make kBool base 4 hgd hd 57 x y ho (n : Int) hx hy Try.underlying57 _ 1 infoBool rfl (by decide) (by decide) false (okp := fun _ => False) (ok := ok) rfl (fun _ h => h.elim) hfresh (by omega) (by simp only [Int.toNat_natCast]; omega) HB hbase (by simpa only [Int.toNat_natCast] using h)
structure TK (w W : World) (g : Gram) (A1 A2 A3 : Option Addr) (c1 c2 c3 : Nat) (init : List Rule) (last : Rule) (names : List ByteArray) (bi bj bl : Nat) (I1 I2 I3 E1 E2 E3 RL : Option Addr) (i1 i2 i3 e1 e2 e3 crl : Nat) : Prop where
  sk : Below w.heap.size w W
  rep : RepG W g A1 A2 A3 c1 c2 c3
  p : W.heap[w.heap.size]? = some (.cells #[.slice A1 g.terms.length c1, .slice A2 g.names.length c2, .slice A3 g.rules.length c3] 25 (0, 0))
  rj : RepG W ⟨g.terms, g.names, init⟩ I1 I2 I3 i1 i2 i3
  ri : RepG W ⟨g.terms, names, g.rules⟩ E1 E2 E3 e1 e2 e3
  pj : W.heap[bj]? = some (.cells #[.slice I1 g.terms.length i1, .slice I2 g.names.length i2, .slice I3 init.length i3] 25 (0, 0))
  pi : W.heap[bi]? = some (.cells #[.slice E1 g.terms.length e1, .slice E2 names.length e2, .slice E3 g.rules.length e3] 25 (0, 0))
  pl : W.heap[bl]? = some (.cells #[.int .i64 last.left, .slice RL last.right.length crl] 56 (0, 0))
  rl : kInt.C W RL last.right.length last.right
theorem TK.below_ {w W W1 : World} {g : Gram} {A1 A2 A3 : Option Addr} {c1 c2 c3 : Nat} {init : List Rule} {last : Rule} {names : List ByteArray} {bi bj bl : Nat} {I1 I2 I3 E1 E2 E3 RL : Option Addr} {i1 i2 i3 e1 e2 e3 crl : Nat} (h : TK w W g A1 A2 A3 c1 c2 c3 init last names bi bj bl I1 I2 I3 E1 E2 E3 RL i1 i2 i3 e1 e2 e3 crl) (hb : Below W.heap.size W W1) : TK w W1 g A1 A2 A3 c1 c2 c3 init last names bi bj bl I1 I2 I3 E1 E2 E3 RL i1 i2 i3 e1 e2 e3 crl :=
  ⟨below_then h.sk h.sk.size hb, h.rep.below_ hb, blk_below h.p hb, h.rj.below_ hb, h.ri.below_ hb, blk_below h.pj hb, blk_below h.pi hb, blk_below h.pl hb, Kd.C_below h.rl hb⟩
theorem add0 (q i : Nat) : (⟨q, 0, none⟩ : Addr).add i = ⟨q, i, none⟩ := by
  unfold Addr.add
  by_cases h : i = 0 <;> simp [h]
theorem cell_in {w W : World} {p : Addr} {v : Value} (hb : Below w.heap.size w W) (h : w.cell? p = some v) : W.cell? p = some v := (cell_keep hb h).trans h
/-- What the row of truth values says of the symbols below T. -/
structure CS (T : Nat) (cs : List Bool) (f : Int → Bool) : Prop where
  len : cs.length = T + 1
  at_ : ∀ s : Nat, s < T → cs[s]? = some (f s)
theorem CS.start (T : Nat) : CS T (List.replicate (T + 1) false) (fun _ => false) := ⟨by simp, fun s hs => by rw [List.getElem?_replicate, if_pos (by omega)]⟩
theorem CS.set {T : Nat} {cs : List Bool} {f : Int → Bool} (h : CS T cs f) (sym : Nat) : CS T (cs.set sym true) (fun s => f s || (sym : Int) == s) := by
  refine ⟨by rw [List.length_set]; exact h.len, fun s hs => ?_⟩
  have hl := h.len
  rw [List.getElem?_set]
  by_cases he : sym = s
  · subst he
    rw [if_pos rfl, if_pos (by omega)]
    simp
  · rw [if_neg he, h.at_ s hs]
    have : ((sym : Int) == (s : Int)) = false := by rw [beq_eq_false_iff_ne]; omega
    rw [this, Bool.or_false]
theorem CS.congr {T : Nat} {cs : List Bool} {f f' : Int → Bool} (h : CS T cs f) (he : ∀ s : Nat, s < T → f s = f' s) : CS T cs f' := ⟨h.len, fun s hs => by rw [h.at_ s hs, he s hs]⟩
end Go.Proofs.Ytphmmppmhphgeaa
