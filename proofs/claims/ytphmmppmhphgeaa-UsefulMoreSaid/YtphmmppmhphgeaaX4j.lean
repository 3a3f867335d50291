/- Rows of truth values of one's own: copied,written. -/
import Derived.Test.YtphmmppmhphgeaaJE
import Derived.Test.YtphmmppmhphgeaaJN
set_option linter.unusedVariables false
set_option linter.unusedSimpArgs false
namespace Go.Proofs.Ytphmmppmhphgeaa
open Go.RowKit Go.Proofs.YtphmmppmhphgeaaW.PrintWords Go.Proofs.YtphmmppmhphgeaaW.PrintLast
theorem add0_ (q i : Nat) : (⟨q,0,none⟩ : Addr).add i = ⟨q,i,none⟩:=by
  unfold Addr.add
  simp
  intro h0
  exact h0.symm
theorem bools_new (W : World) (base : Nat) (hb : base ≤ W.heap.size) (ok : Nat → Prop) (hok : ok W.heap.size) : kBool.R 4 (W.alloc (.cells #[] 4)) base ok (.slice (some ⟨W.heap.size,0,none⟩) 0 0) []:=by
  have h:=own_lit_of (enc:=Value.bool) W base 4 [] hb (by simp)
  exact Kd.R_of_own h (fun k hk => by
    have : W.heap.size = k:=by simpa [Value.ownBlock] using hk
    subst this
    exact hok)
/-- A row of one's own,written out: its block,what lies there. -/
def NB (W : World) (base g cap n : Nat) (xs : List Bool) : Prop:=kBool.R 4 W base (fun _ => True) (.slice (some ⟨g,0,none⟩) n cap) xs
section
variable {W W1 : World} {base g cap n : Nat} {xs : List Bool}
theorem NB.len (h : NB W base g cap n xs) : n = xs.length:=(Kd.R_reads' h).1
theorem NB.C (h : NB W base g cap n xs) : Kd.bool.C W (some ⟨g,0,none⟩) n xs:=by
  obtain ⟨e,_,h2⟩:=Kd.R_reads' h
  rw [e];exact h2
theorem NB.below (h : NB W base g cap n xs) (hb : Below W.heap.size W W1) : NB W1 base g cap n xs:=Kd.R_below h hb
theorem NB.cell (h : NB W base g cap n xs) {i : Nat} (hi : i < xs.length) : W.cell? ⟨g,i,none⟩ = some (.bool xs[i]):=by
  have hC:=h.C
  obtain ⟨ad,e,hc⟩:=at_bool hC i hi
  injection e with e
  subst e
  rw [show (⟨g,0,none⟩ : Addr).add i = ⟨g,i,none⟩ by unfold Addr.add;simp;intro h0;exact h0.symm] at hc
  exact hc
theorem NB.fz (h : NB W base g cap n xs) {i : Nat} (hi : i < n) : W.frozen? ⟨g,i,none⟩ = false:=by
  have:=(Kd.R_celln (α:=Bool) (enc:=Value.bool) false h (i : Int) (by omega) (by omega)).2
  simpa using this
theorem NB.set (h : NB W base g cap n xs) (i : Nat) (v : Bool) : NB (W.setCell ⟨g,i,none⟩ (.bool v)) base g cap n (xs.set i v):=by
  have:=Kd.R_putn (α:=Bool) (enc:=Value.bool) h (i : Int) v
  rw [Int.toNat_natCast] at this
  exact this
theorem NB.base_ (h : NB W base g cap n xs) (hn : 0 < n) : base ≤ g ∧ g < W.heap.size:=by
  obtain ⟨g',cap',e,h1,h2,_⟩:=Kd.R_form h (by rw [← h.len];exact hn)
  injection e with e
  injection e with e
  injection e with e _
  subst e
  exact ⟨h1,h2⟩
end
section
variable {ops : Array Oper} {rest : List Oper} {oi : Oper} {a : Act} {Q : Exit → Act → World → Prop} {w0 W : World} {N : Option Tmp} {s x : Operand} {A : Option Addr} {c : Nat}
/-- A copy of truth values: onto a new row of none. -/
theorem pl_copy_bools {ys : List Bool} (hw : Region.wanted oi (yielded ops a.tmps) = true) (hN : oi.dst = N) (ho : oi.op = .call { callee:=.builtin .append,args:=#[s,x],argTypes:=#[57,57] })
    (hb : Below w0.heap.size w0 W) (hl : ys.length ≤ 1000000000000) (hl0 : 0 < ys.length) (hs : a.eval s = .slice (some ⟨w0.heap.size,0,none⟩) 0 0) (hx : a.eval x = .slice A ys.length c) (HC : Kd.bool.C w0 A ys.length ys) (hW : W = w0.alloc (.cells #[] 4))
    (h : ∀ g' c' w1,NB w1 w0.heap.size g' c' ys.length ys → Below w0.heap.size w0 w1 → WpL Try.prog ops Q rest (a.put N (.slice (some ⟨g',0,none⟩) ys.length c')) w1) : WpL Try.prog ops Q (oi :: rest) a W:=by
  subst hN hW
  refine ⟨wpList_step fun K hK =>  Kd.R_append_rows_step kBool w0.heap.size hw s x 57 4 _ 1 ho Try.underlying57 infoBool rfl (by decide) (by decide) _ [] ys A ys.length c (fun _ => True) (fun _ => False) hs hx (bools_new w0 w0.heap.size (Nat.le_refl _) _ trivial) (Kd.C_below HC hb) (fun x cs h => h) (fun _ h => h.elim) (fun _ _ => trivial) hb (by simp) (by simp;omega) (fun v1 w1 hr hb1 hg hat => ?_)⟩
  rw [List.nil_append] at hr
  obtain ⟨g',c',e,_⟩:=Kd.R_form hr hl0
  subst e
  exact hK _ _ (h g' c' w1 hr hb1).out
end
end Go.Proofs.Ytphmmppmhphgeaa
