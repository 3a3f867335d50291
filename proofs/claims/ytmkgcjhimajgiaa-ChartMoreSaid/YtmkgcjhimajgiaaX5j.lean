/- A rule more,of symbols that are made,in a grammar of one's own. -/
import Derived.Test.YtmkgcjhimajgiaaJK
import Derived.Test.YtmkgcjhimajgiaaJB
set_option linter.unusedVariables false
set_option linter.unusedSimpArgs false
namespace Go.Proofs.Ytmkgcjhimajgiaa
open Go.RowKit Go.Proofs.YtmkgcjhimajgiaaW.PrintWords Go.Proofs.YtmkgcjhimajgiaaW.PrintLast

theorem own_moreR {base : Nat} {W W1 : World} {g : Gram} {A1 A2 A3 : Option Addr} {c1 c2 c3 : Nat} {A4 : Option Addr} {c4 n : Nat} {L : List Rule} (h : OwnG W base g (.slice A1 g.terms.length c1) (.slice A2 g.names.length c2) (.slice A3 g.rules.length c3)) (hr : kRule.R 46 W1 base (fun _ => True) (.slice A4 n c4) L) (hg : W.grownBy W1 (Value.slice A3 g.rules.length c3).ownBlock) {q : Nat} {cs : Array Value} (hh : W1.heap[q]? = some (.cells cs 25 (0,0))) (u : Value) :
    RepG (W1.setCell ⟨q,2,none⟩ u) ⟨g.terms,g.names,L⟩ A1 A2 A4 c1 c2 c4:=by
  have t1:=Kd.R_set (Kd.R_over h.terms h.rules (by decide) hg) hh (by decide) 2 u
  have t2:=Kd.R_set (Kd.R_over h.names h.rules (by decide) hg) hh (by decide) 2 u
  have hr:=Kd.R_set hr hh (show ∀ q,q ∈ [46,3] → q ≠ 25 by decide) 2 u
  obtain ⟨_,h1,h2⟩:=Kd.R_reads' t1
  obtain ⟨_,h3,h4⟩:=Kd.R_reads' t2
  obtain ⟨hn,h5,h6⟩:=Kd.R_reads' hr
  exact ⟨h2,h4,h6,h1,h3,by rw [← hn];exact h5⟩
theorem row_apart {We W : World} {base base' e : Nat} {ok : Nat → Prop} {v u : Value} {xs : List Rule} {ys : List Int} (HR : kInt.R 3 W base' (fun _ => True) u ys) (he : We.heap.size ≤ base') (HO : kRule.R e We base ok v xs) (hb : base ≤ We.heap.size) : kInt.R 3 W base (fun q => some q ≠ v.ownBlock) u ys:=by
  obtain ⟨inner,ho⟩:=Kd.R_own HO
  exact Kd.R_lower (Kd.R_mono (Kd.R_new (Kd.R_lower HR he) ho) (fun k hk => hk.2)) hb
/-- What an append of a rule leaves,and the store of it. -/
theorem more_rep {wo We W w1 : World} {g : Gram} {A1 A2 A3 : Option Addr} {c1 c2 c3 : Nat} {v1 : Value} {x : Rule} (ho : OwnG We wo.heap.size g (.slice A1 g.terms.length c1) (.slice A2 g.names.length c2) (.slice A3 g.rules.length c3)) (hbW : Below We.heap.size We W) (A : Appd kRule 46 wo W wo.heap.size (fun _ => True) (.slice A3 g.rules.length c3) (g.rules ++ [x]) v1 w1) {q : Nat} {u1 u2 u3 : Value} (hq : W.heap[q]? = some (.cells #[u1,u2,u3] 25 (0,0))) (hqb : wo.heap.size ≤ q) {L : List Rule} (hL : L = g.rules ++ [x]) :
    ∃ A4 c4,v1 = .slice A4 L.length c4 ∧ w1.cell? ⟨q,2,none⟩ = some u3 ∧ w1.frozen? ⟨q,2,none⟩ = false ∧ (∀ u,RepG (w1.setCell ⟨q,2,none⟩ u) ⟨g.terms,g.names,L⟩ A1 A2 A4 c1 c2 c4 ∧ Below wo.heap.size wo (w1.setCell ⟨q,2,none⟩ u) ∧ (w1.setCell ⟨q,2,none⟩ u).heap[q]? = some (.cells #[u1,u2,u] 25 (0,0))):=by
  have hr:=A.row
  rw [← hL] at hr
  obtain ⟨A4,c4,e4⟩:=Kd.R_slice hr
  have ho2:=ho.below_ hbW
  have hq1:=blk_grown hq A.grown (Kd.R_ne ho2.rules hq (by decide))
  refine ⟨A4,c4,e4,(blk_cell hq1 2).trans rfl,blk_frozen hq1 2,fun u => ⟨?_,below_set A.below hqb 2 u,(blk_set hq1 2 u).trans rfl⟩⟩
  rw [e4] at hr
  exact own_moreR ho2 hr A.grown hq1 u
section
variable {ops : Array Oper} {rest : List Oper} {oi : Oper} {a : Act} {Q : Exit → Act → World → Prop} {w0 W : World} {N : Option Tmp} {s x : Operand}
theorem pl_app_rule {v u : Value} {xs : List Rule} {p : Rule} (hw : Region.wanted oi (yielded ops a.tmps) = true) (hN : oi.dst = N) (ho : oi.op = .call { callee:=.builtin .append,args:=#[s,x],argTypes:=#[23,23] })
    (HO : kRule.R 46 W w0.heap.size (fun _ => True) v xs) (HU : kInt.R 3 W w0.heap.size (fun q => some q ≠ v.ownBlock) u p.right) (HB : Below w0.heap.size w0 W) (hl : xs.length + 1 ≤ 2000000000000) (hs : a.eval s = v) (hx : a.eval x = .slice (some ⟨W.heap.size,0,none⟩) 1 1)
    (h : ∀ v1 w1,Appd kRule 46 w0 W w0.heap.size (fun _ => True) v (xs ++ [p]) v1 w1 → WpL Try.prog ops Q rest (a.put N v1) w1) : WpL Try.prog ops Q (oi :: rest) a (W.alloc (.cells #[.int .i64 p.left,u] 46)):=by
  subst hN
  exact ⟨wpList_step fun K hK => app_rule_step hw ho HO HU HB hl hs hx fun v1 w1 A => hK _ _ (h v1 w1 A).out⟩
end
end Go.Proofs.Ytmkgcjhimajgiaa
