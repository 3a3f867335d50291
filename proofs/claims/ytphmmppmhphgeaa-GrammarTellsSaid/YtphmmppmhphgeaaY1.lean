/- A grammar of one's own: what is held while its rows are made. -/
import Derived.Test.YtphmmppmhphgeaaB5
import Derived.Test.YtphmmppmhphgeaaWa
import Derived.Test.YtphmmppmhphgeaaWLast
set_option linter.unusedVariables false
set_option linter.unusedSimpArgs false
namespace Go.Proofs.Ytphmmppmhphgeaa
open Go.RowKit Go.Proofs.YtphmmppmhphgeaaW.PrintWords Go.Proofs.YtphmmppmhphgeaaW.PrintLast

/-- Two rows that are being made, and a block that may have been made. -/
structure OF (w W : World) (g : Gram) (A1 A2 A3 : Option Addr) (c1 c2 c3 : Nat) (v : Value) (xs : List ByteArray) (u : Value) (ys : List ByteArray) (ob : Option Nat) : Prop where
  below : Below w.heap.size w W
  p : W.heap[w.heap.size]? = some (.cells #[.slice A1 g.terms.length c1, .slice A2 g.names.length c2, .slice A3 g.rules.length c3] 25 (0, 0))
  r : W.heap[w.heap.size + 1]? = some (.cells #[.slice none 0 0, .slice none 0 0, .slice none 0 0] 25 (0, 0))
  rv : kStr.R 9 W w.heap.size (fun k => some k ≠ ob ∧ some k ≠ u.ownBlock) v xs
  ru : kStr.R 9 W w.heap.size (fun k => some k ≠ ob ∧ some k ≠ v.ownBlock) u ys
  cell : ∀ b, ob = some b → w.heap.size + 1 < b ∧ W.heap[b]? = some (.cells #[.slice none 0 0, .slice none 0 0, .slice none 0 0] 25 (0, 0))
section
variable {w W W1 : World} {g : Gram} {A1 A2 A3 : Option Addr} {c1 c2 c3 : Nat} {v u v1 : Value} {xs ys zs : List ByteArray} {ob : Option Nat}
theorem OF.swap (h : OF w W g A1 A2 A3 c1 c2 c3 v xs u ys ob) : OF w W g A1 A2 A3 c1 c2 c3 u ys v xs ob := ⟨h.below, h.p, h.r, h.ru, h.rv, h.cell⟩
theorem OF.mkV (h : OF w W g A1 A2 A3 c1 c2 c3 (.slice none 0 0) [] u ys ob) (hr : kStr.R 9 W1 w.heap.size (fun k => some k ≠ ob ∧ some k ≠ u.ownBlock) v1 []) (hb : Below w.heap.size w W1) (hg : W.grownBy W1 none) (hat : ∃ b, v1.ownBlock = some b ∧ W.heap.size ≤ b) : OF w W1 g A1 A2 A3 c1 c2 c3 v1 [] u ys ob := by
  refine ⟨hb, blk_grown h.p hg (by simp), blk_grown h.r hg (by simp), hr, ?_, fun b e => ⟨(h.cell b e).1, blk_grown (h.cell b e).2 hg (by simp)⟩⟩
  obtain ⟨b, h1, h2⟩ := hat
  refine Kd.R_mono (Kd.R_bound h.ru |> fun h3 => Kd.R_grown h3 hg (fun k _ => by simp)) (fun k hk => ⟨hk.1.1, ?_⟩)
  rw [h1]
  intro e
  injection e with e
  have := hk.2.2.1
  omega
theorem OF.appV (h : OF w W g A1 A2 A3 c1 c2 c3 v xs u ys ob) (hr : kStr.R 9 W1 w.heap.size (fun k => some k ≠ ob ∧ some k ≠ u.ownBlock) v1 zs) (hb : Below w.heap.size w W1) (hg : W.grownBy W1 v.ownBlock) (hat : v1.ownBlock = v.ownBlock ∨ ∃ b, v1.ownBlock = some b ∧ W.heap.size ≤ b) : OF w W1 g A1 A2 A3 c1 c2 c3 v1 zs u ys ob := by
  refine ⟨hb, blk_grown h.p hg (Kd.R_ne h.rv h.p (by decide)), blk_grown h.r hg (Kd.R_ne h.rv h.r (by decide)), hr, Kd.R_after h.ru hg hat, fun b e => ⟨(h.cell b e).1, blk_grown (h.cell b e).2 hg (Kd.R_ne h.rv (h.cell b e).2 (by decide))⟩⟩
theorem OF.mkB (h : OF w W g A1 A2 A3 c1 c2 c3 v xs u ys none) : OF w (W.alloc (.cells #[.slice none 0 0, .slice none 0 0, .slice none 0 0] 25 (0, 0))) g A1 A2 A3 c1 c2 c3 v xs u ys (some W.heap.size) := by
  have hlt := blk_lt h.r
  refine ⟨below_alloc h.below _, blk_alloc h.p _, blk_alloc h.r _, ?_, ?_, fun b e => ?_⟩
  · refine Kd.R_mono (Kd.R_alloc (Kd.R_bound h.rv) _) (fun k hk => ⟨fun e => ?_, hk.1.2⟩)
    injection e with e
    have := hk.2.2.1
    omega
  · refine Kd.R_mono (Kd.R_alloc (Kd.R_bound h.ru) _) (fun k hk => ⟨fun e => ?_, hk.1.2⟩)
    injection e with e
    have := hk.2.2.1
    omega
  · injection e with e
    subst e
    exact ⟨hlt, blk_new W _⟩
end
/-- No texts, made. -/
theorem mk_str_step {ops : Array Oper} {o : Oper} {a : Act} {Q : Exit → Act → World → Prop} {Kc : Act → World → Prop} {base : Nat} {w0 W : World} {ok : Nat → Prop} {N : Tmp} (hw : Region.wanted o (yielded ops a.tmps) = true) (hd : o.dst = some N) (ho : o.op = .buildSlice 22 0 #[])
    (HB : Below base w0 W) (hbase : base ≤ W.heap.size) (hfresh : ok W.heap.size)
    (h : ∀ v1 w1, kStr.R 9 w1 base ok v1 [] → Below base w0 w1 → W.grownBy w1 none → (∃ b, v1.ownBlock = some b ∧ W.heap.size ≤ b) → Kc (a.put o.dst v1) w1) :
    if Region.wanted o (yielded ops a.tmps) = true then Oper.wp Try.prog o a W Kc Q else Kc (a.put o.dst undef) W := by
  refine Kd.R_lit_step kStr base 9 hw hd (xs := []) (inner := []) (ok := ok) (okp := fun _ => False) ?_ ⟨rfl, fun i x hi => by simp at hi⟩ (fun k h => h.elim) hfresh HB hbase (by simp) h
  have hrun : (Instr.buildSlice 22 0 #[]).run Try.prog W = .ok (.slice (some ⟨W.heap.size, 0, none⟩) 0 0) (W.alloc (.cells #[] 9)) := by kernel_rfl
  simp [execOp, ho, hrun]
/-- Texts behind texts. -/
theorem app_strs_step {ops : Array Oper} {o : Oper} {a : Act} {Q : Exit → Act → World → Prop} {Kc : Act → World → Prop} {base : Nat} {w0 W : World} {ok : Nat → Prop} {v : Value} {s x : Operand} {xs ys : List ByteArray} {A : Option Addr} {c : Nat} (hw : Region.wanted o (yielded ops a.tmps) = true) (ho : o.op = .call { callee := .builtin .append, args := #[s, x], argTypes := #[22, 22] })
    (HO : kStr.R 9 W base ok v xs) (HB : Below base w0 W) (hbase : base ≤ W.heap.size) (hl : xs.length + ys.length ≤ 1000000000000) (hfresh : ∀ k, W.heap.size ≤ k → ok k) (hs : a.eval s = v) (hx : a.eval x = .slice A ys.length c) (HC : kStr.C W A ys.length ys)
    (h : ∀ v1 w1, kStr.R 9 w1 base ok v1 (xs ++ ys) → Below base w0 w1 → W.grownBy w1 v.ownBlock → (v1.ownBlock = v.ownBlock ∨ ∃ b, v1.ownBlock = some b ∧ W.heap.size ≤ b) → Kc (a.put o.dst v1) w1) :
    if Region.wanted o (yielded ops a.tmps) = true then Oper.wp Try.prog o a W Kc Q else Kc (a.put o.dst undef) W :=
  Kd.R_append_rows_step kStr base hw s x 22 9 _ 16 ho Try.underlying22 infoStr rfl (by decide) (by decide) v xs ys A ys.length c ok (fun _ => False) hs hx HO HC (fun x cs h => h) (fun _ h => h.elim) hfresh HB hbase (by omega) h
end Go.Proofs.Ytphmmppmhphgeaa
