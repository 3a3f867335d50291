/- Plain laws of charts,for the laws ChartRows,ChartMore,ChartHolds. -/
import Derived.Test.YtmkgcjhimajgiaaJI
set_option linter.unusedVariables false
set_option linter.unusedSimpArgs false
namespace Go.Proofs.Ytmkgcjhimajgiaa
open Go.RowKit Go.Proofs.YtmkgcjhimajgiaaW.PrintWords Go.Proofs.YtmkgcjhimajgiaaW.PrintLast Go.Conc

/-! ### what has been told so far is the beginning of what is told -/
theorem rowJ_pre {g : Gram} {w : List Int} {s i t m : Nat} (h : t ≤ m) : rowJ g w s i t <+: rowJ g w s i m:=by
  obtain ⟨k,rfl⟩:=Nat.le.dest h
  induction k with
  | zero => exact List.prefix_refl _
  | succ k ih => exact (ih (by omega)).trans (by rw [← Nat.add_assoc,rowJ_succ];exact List.prefix_append _ _)
theorem rowI_pre {g : Gram} {w : List Int} {s i m : Nat} (h : i ≤ m) : rowI g w s i <+: rowI g w s m:=by
  obtain ⟨k,rfl⟩:=Nat.le.dest h
  induction k with
  | zero => exact List.prefix_refl _
  | succ k ih => exact (ih (by omega)).trans (by rw [← Nat.add_assoc,rowI_succ];exact List.prefix_append _ _)
theorem spansL_pre {g : Gram} {w : List Int} {k m : Nat} (h : k ≤ m) : spansL g w k <+: spansL g w m:=by
  obtain ⟨d,rfl⟩:=Nat.le.dest h
  induction d with
  | zero => exact List.prefix_refl _
  | succ d ih => exact (ih (by omega)).trans (by rw [← Nat.add_assoc,spansL_succ];exact List.prefix_append _ _)
/-- What has been told when symbol number k,place i,and t ends are behind. -/
noncomputable def toldN (g : Gram) (w : List Int) (k i t : Nat) : List SpN:=spansL g w k ++ rowI g w (g.terms.length + k) i ++ rowJ g w (g.terms.length + k) i t
theorem told_pre {g : Gram} {w : List Int} {k i t : Nat} (hk : k < g.names.length) (hi : i ≤ w.length) (ht : t ≤ w.length + 1 - i) : toldN g w k i t <+: spansF g w:=by
  have h1 : rowI g w (g.terms.length + k) i ++ rowJ g w (g.terms.length + k) i t <+: rowI g w (g.terms.length + k) (i + 1):=by
    rw [rowI_succ]
    exact (List.prefix_append_right_inj _).2 (rowJ_pre ht)
  have h2:=h1.trans (rowI_pre (g:=g) (w:=w) (s:=g.terms.length + k) (show i + 1 ≤ w.length + 1 by omega))
  have h3 : toldN g w k i t <+: spansL g w (k + 1):=by
    unfold toldN
    rw [spansL_succ,List.append_assoc]
    exact (List.prefix_append_right_inj _).2 h2
  exact h3.trans (spansL_pre (by omega))
theorem told_succ (g : Gram) (w : List Int) (k i t : Nat) : toldN g w k i (t + 1) = toldN g w k i t ++ if symV g w (g.terms.length + k : Nat) i ((i + t : Nat) : Int) = true then [⟨g.terms.length + k,i,i + t⟩] else []:=by
  unfold toldN
  rw [rowJ_succ,← List.append_assoc]
theorem told_i (g : Gram) (w : List Int) (k i : Nat) : toldN g w k i (w.length + 1 - i) = toldN g w k (i + 1) 0:=by
  unfold toldN
  rw [rowI_succ]
  simp [rowJ,List.append_assoc]
theorem told_k (g : Gram) (w : List Int) (k : Nat) : toldN g w k (w.length + 1) 0 = toldN g w (k + 1) 0 0:=by
  unfold toldN
  rw [spansL_succ]
  simp [rowJ,rowI]
theorem told_end (g : Gram) (w : List Int) : toldN g w g.names.length 0 0 = spansF g w:=by
  unfold toldN spansF
  simp [rowJ,rowI]
theorem told_start (g : Gram) (w : List Int) : toldN g w 0 0 0 = []:=by
  unfold toldN
  simp [rowJ,rowI,spansL]
theorem pre_at {α : Type} {L M : List α} {x : α} (h : L ++ [x] <+: M) : ∃ hl : L.length < M.length,M[L.length]'hl = x:=by
  obtain ⟨r,rfl⟩:=h
  exact ⟨by simp,by simp⟩
/-! ### a part by a shorter one -/
noncomputable def splitB (g : Gram) (w : List Int) (r d i j k : Nat) : Bool:=partV g w r ((d - 1 : Nat) : Int) i k && symV g w ((rightR g r).getD (d - 1) 0) k j
noncomputable def anyK (g : Gram) (w : List Int) (r d i j m : Nat) : Bool:=(List.range m).any fun t => splitB g w r d i j (i + t)
theorem anyK_succ (g : Gram) (w : List Int) (r d i j m : Nat) : anyK g w r d i j (m + 1) = (anyK g w r d i j m || splitB g w r d i j (i + m)):=by
  unfold anyK
  rw [List.range_succ,List.any_append]
  simp
theorem part_split {g : Gram} {w : List Int} {r d i j : Nat} (hr : r < g.rules.length) (hd : 1 ≤ d) (hdl : d ≤ (rightR g r).length) : Ch g w (.part r d i j) ↔ ∃ k,Ch g w (.part r (d - 1) i k) ∧ Ch g w (.sym ((rightR g r).getD (d - 1) 0) k j):=by
  have hx:=right_get (g:=g) (k:=r) (d:=d - 1) (by omega)
  have hd1 : d - 1 + 1 = d:=by omega
  constructor
  · intro h
    obtain ⟨h1,h2,h3,h4⟩:=part_iff.1 h
    rw [← hd1,take_snoc hx,Row.app] at h4
    obtain ⟨k,h5,k2,h6,h7⟩:=h4
    have : k2 = j:=h7
    subst this
    exact ⟨k,part_iff.2 ⟨h1,by omega,h3,h5⟩,h6⟩
  · rintro ⟨k,h1,h2⟩
    rw [← hd1]
    exact .step hx h1 h2
theorem anyK_part {g : Gram} {w : List Int} {r d i j : Nat} (hr : r < g.rules.length) (hd : 1 ≤ d) (hdl : d ≤ (rightR g r).length) (hij : i ≤ j) : anyK g w r d i j (j + 1 - i) = partV g w r d i j:=by
  rw [Bool.eq_iff_iff,partV_nat,part_split hr hd hdl]
  unfold anyK
  rw [List.any_eq_true]
  constructor
  · rintro ⟨t,ht,h⟩
    unfold splitB at h
    rw [Bool.and_eq_true,partV_nat,symV_nat] at h
    exact ⟨i + t,h⟩
  · rintro ⟨k,h1,h2⟩
    have h3:=h1.ok
    have h4:=h2.ok
    simp only [Itm.ok] at h3 h4
    refine ⟨k - i,List.mem_range.2 (by omega),?_⟩
    unfold splitB
    rw [Bool.and_eq_true,partV_nat,symV_nat,show i + (k - i) = k by omega]
    exact ⟨h1,h2⟩
end Go.Proofs.Ytmkgcjhimajgiaa
