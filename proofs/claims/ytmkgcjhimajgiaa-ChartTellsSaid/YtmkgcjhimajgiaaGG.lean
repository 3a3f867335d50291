/- Contracts of functions of the program, and plain laws (texts FX), joined: each theorem says what it proves. -/
import Derived.Test.YtmkgcjhimajgiaaGC
import Derived.Test.YtmkgcjhimajgiaaGA
set_option linter.unusedVariables false
set_option linter.unusedSimpArgs false
namespace Go.Proofs.Ytmkgcjhimajgiaa.Fast
open Go.RowKit Go.Proofs.YtmkgcjhimajgiaaW.PrintWords Go.Proofs.YtmkgcjhimajgiaaW.PrintLast
theorem put_eq {l l' : List Value} {d : List Deferred} {N : Tmp} {v : Value} (h : l.set N v = l') : (Act.mk l.toArray d).put (some N) v = Act.mk l'.toArray d:=by
  subst h
  simp only [Act.put,List.setIfInBounds_toArray]
section
variable {P : Program} {ops : Array Oper} {Q : Exit → Act → World → Prop} {md : Region.Mode} {S : World → Prop} {ds : List Nat} {oi : Oper} {fuel : Nat} {l : Array Bool} {a : Act} {w : World}
theorem pu_ (v : Value) (a' : Act) (i : Nat) (N : Option Tmp) (l' : Array Bool) (h : wpAnyLast P md ops Q S ds fuel l' a' w) (hi : ops[i]? = some oi:=by rfl) (hN : oi.dst = N:=by rfl) (hc : anyB md ops l l' i = true:=by as_aux_lemma => kernel_rfl)
    (hw : Region.wanted oi (yielded ops a.tmps) = true:=by rfl) (hy : ∀ w,(execOp a.eval oi).run P w = .ok (.value v) w:=by intro w';go_simp;with_reducible rfl)
    (ha : a.put N v = a':=by apply Eq.trans;(apply put_eq;dsimp only [List.set_cons_zero,List.set_cons_succ]);rfl) (hQ : ∀ c a w,Q (.panic c) (a.put oi.dst v) w → Q (.panic c) a w:=by exact fun _ _ _ h => h) : wpAnyLast P md ops Q S ds (fuel + 1) l a w :=
  pure_ l' hi hN hc hQ (Or.inl ⟨hw,hy⟩) ha h
theorem po_ (a' : Act) (i : Nat) (N : Option Tmp) (l' : Array Bool) (h : wpAnyLast P md ops Q S ds fuel l' a' w) (hi : ops[i]? = some oi:=by rfl) (hN : oi.dst = N:=by rfl) (hc : anyB md ops l l' i = true:=by as_aux_lemma => kernel_rfl)
    (hw : Region.wanted oi (yielded ops a.tmps) = false:=by rfl)
    (ha : a.put N undef = a':=by apply Eq.trans;(apply put_eq;dsimp only [List.set_cons_zero,List.set_cons_succ]);rfl) (hQ : ∀ c a w,Q (.panic c) (a.put oi.dst undef) w → Q (.panic c) a w:=by exact fun _ _ _ h => h) : wpAnyLast P md ops Q S ds (fuel + 1) l a w :=
  pure_ l' hi hN hc hQ (Or.inr ⟨hw,rfl⟩) ha h
theorem ta_ (v : Value) (a' : Act) (i : Nat) (N : Option Tmp) (l' : Array Bool) (hS : S w) (h : wpAnyLast P md ops Q S ds fuel l' a' w) (hi : ops[i]? = some oi:=by rfl) (hN : oi.dst = N:=by rfl) (hc : takeB md ops ds l l' i = true:=by as_aux_lemma => kernel_rfl)
    (hw : Region.wanted oi (yielded ops a.tmps) = true:=by rfl) (y : ∀ w,S w → (execOp a.eval oi).run P w = .ok (.value v) w)
    (ha : a.put N v = a':=by apply Eq.trans;(apply put_eq;dsimp only [List.set_cons_zero,List.set_cons_succ]);rfl) (hQ : ∀ c a w,Q (.panic c) (a.put oi.dst v) w → Q (.panic c) a w:=by exact fun _ _ _ h => h) : wpAnyLast P md ops Q S ds (fuel + 1) l a w :=
  take_ l' hi hN hc hQ (Or.inl ⟨hw,y⟩) hS ha h
theorem on_ (i : Nat) (N : Option Tmp) (l' : Array Bool) (h : ∀ K : Act → World → Prop,Shut (∀ a' w',S w' → (S w' → wpAnyLast P md ops Q S ds fuel l' a' w') → K a' w') → if Region.wanted oi (yielded ops a.tmps) = true then Oper.wp P oi a w K Q else K (a.put N undef) w)
    (hi : ops[i]? = some oi:=by rfl) (hN : oi.dst = N:=by rfl) (hc : readyB md ops l l' i = true:=by as_aux_lemma => kernel_rfl) (hd : i ∉ ds:=by decide) : wpAnyLast P md ops Q S ds (fuel + 1) l a w:=one_ l' hi hN hc hd h
theorem ls_ (i : Nat) (N : Option Tmp) (l' : Array Bool) (h : ∀ K : Act → World → Prop,Shut (∀ a' w',wpAnyLast P md ops Q S ds fuel l' a' w' → K a' w') → if Region.wanted oi (yielded ops a.tmps) = true then Oper.wp P oi a w K Q else K (a.put N undef) w)
    (hi : ops[i]? = some oi:=by rfl) (hN : oi.dst = N:=by rfl) (hc : readyB md ops l l' i = true:=by as_aux_lemma => kernel_rfl) (hd : i ∈ ds:=by decide) : wpAnyLast P md ops Q S ds (fuel + 1) l a w:=last_ l' hi hN hc hd h
theorem nm_ {v : Value} (a' : Act) (N : Option Tmp) (h : wpAnyLast P md ops Q S ds fuel l a' w) (ha : a.put N v = a':=by apply Eq.trans;(apply put_eq;dsimp only [List.set_cons_zero,List.set_cons_succ]);rfl) : wpAnyLast P md ops Q S ds fuel l (a.put N v) w:=norm_ ha h
theorem va_ (v : Value) (w1 : World) {N : Option Tmp} {K : Act → World → Prop} (h : K (a.put N v) w1) (hw : Region.wanted oi (yielded ops a.tmps) = true:=by rfl) (hN : oi.dst = N:=by rfl) (y : (execOp a.eval oi).run P w = .ok (.value v) w1:=by go_simp;first | with_reducible rfl | (constructor;rfl;rfl)) :
    if Region.wanted oi (yielded ops a.tmps) = true then Oper.wp P oi a w K Q else K (a.put N undef) w:=value_ hw hN y h
end
section
variable {P : Program} {ops : Array Oper} {Q : Exit → Act → World → Prop} {rest : List Oper} {oi : Oper} {a : Act} {w : World}
theorem pp_ (v : Value) (a' : Act) (h : WpL P ops Q rest a' w) (hw : Region.wanted oi (yielded ops a.tmps) = true:=by rfl) (y : (execOp a.eval oi).run P w = .ok (.value v) w:=by go_simp;rfl)
    (ha : a.put oi.dst v = a':=by apply Eq.trans;(apply put_eq;dsimp only [List.set_cons_zero,List.set_cons_succ]);rfl) : WpL P ops Q (oi :: rest) a w:=pl_value hw rfl y (by rw [ha];exact h)
theorem pf_ (a' : Act) (h : WpL P ops Q rest a' w) (hw : Region.wanted oi (yielded ops a.tmps) = false:=by rfl)
    (ha : a.put oi.dst undef = a':=by apply Eq.trans;(apply put_eq;dsimp only [List.set_cons_zero,List.set_cons_succ]);rfl) : WpL P ops Q (oi :: rest) a w:=⟨wpList_skip hw (by rw [ha];exact h.out)⟩
end
end Go.Proofs.Ytmkgcjhimajgiaa.Fast

