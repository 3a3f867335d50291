/- Rounds by what the round ahead has: as many as there are nonterminals. -/
import Derived.Test.YtphmmppmhphgeaaJN
set_option linter.unusedVariables false
set_option linter.unusedSimpArgs false
namespace Go.Proofs.Ytphmmppmhphgeaa

def jacG (m : List Bool) : Horn → List Bool → List Bool
  | [], a => a
  | x :: R, a => jacG m R (if allF m x.1 = true then setB a x.2 else a)
def jac (R : Horn) (m : List Bool) : List Bool := jacG m R m
theorem jacG_append (m : List Bool) (R S : Horn) (a : List Bool) : jacG m (R ++ S) a = jacG m S (jacG m R a) := by
  induction R generalizing a with
  | nil => rfl
  | cons x R ih => exact ih _
theorem jacG_take {m : List Bool} {R : Horn} {a : List Bool} {j : Nat} (h : j < R.length) : jacG m (R.take (j + 1)) a = (if allF m (R[j]'h).1 = true then setB (jacG m (R.take j) a) (R[j]'h).2 else jacG m (R.take j) a) := by
  rw [List.take_succ_eq_append_getElem h, jacG_append]
  rfl
theorem jacG_len (m : List Bool) : ∀ (R : Horn) (a : List Bool), (jacG m R a).length = a.length
  | [], a => rfl
  | x :: R, a => by
    rw [jacG, jacG_len m R]
    split
    · exact setB_len _ _
    · rfl
theorem jacG_le {n : Nat} (m : List Bool) : ∀ {R : Horn} {a : List Bool}, InR n R → a.length = n → LeB a (jacG m R a)
  | [], a, _, _ => LeB.refl a
  | x :: R, a, hR, hl => by
    rw [jacG]
    have hx := hR x List.mem_cons_self
    split
    · exact (LeB.set a hx.1 (by omega)).trans (jacG_le m (fun y hy => hR y (List.mem_cons_of_mem _ hy)) (by rw [setB_len]; exact hl))
    · exact jacG_le m (fun y hy => hR y (List.mem_cons_of_mem _ hy)) hl
theorem jacG_has {n : Nat} (m : List Bool) : ∀ {R : Horn} {a : List Bool}, InR n R → a.length = n → ∀ x ∈ R, allF m x.1 = true → getB (jacG m R a) x.2 = true
  | [], a, _, _ => fun x hx => by cases hx
  | x :: R, a, hR, hl => by
    intro y hy hya
    rw [jacG]
    have hx := hR x List.mem_cons_self
    have hR' : InR n R := fun y hy => hR y (List.mem_cons_of_mem _ hy)
    rcases List.mem_cons.1 hy with rfl | hy
    · rw [if_pos hya]
      exact (jacG_le m hR' (by rw [setB_len]; exact hl)).2 _ (by rw [getB_set hx.1 (by omega)]; simp)
    · split
      · exact jacG_has m hR' (by rw [setB_len]; exact hl) y hy hya
      · exact jacG_has m hR' hl y hy hya
theorem jacG_sound {n : Nat} {R0 : Horn} {I : Int → Prop} {m : List Bool} (hm : Sound R0 I m) : ∀ {R : Horn} {a : List Bool}, (∀ x ∈ R, x ∈ R0) → InR n R → a.length = n → Sound R0 I a → Sound R0 I (jacG m R a)
  | [], a, _, _, _, h => h
  | x :: R, a, hs, hR, hl, h => by
    rw [jacG]
    have hx := hR x List.mem_cons_self
    split
    · rename_i ha
      refine jacG_sound hm (fun y hy => hs y (List.mem_cons_of_mem _ hy)) (fun y hy => hR y (List.mem_cons_of_mem _ hy)) (by rw [setB_len]; exact hl) ?_
      intro j hj
      rw [getB_set hx.1 (by omega), Bool.or_eq_true] at hj
      rcases hj with hj | hj
      · rw [of_decide_eq_true hj]
        rw [allF, List.all_eq_true] at ha
        exact .step (hs x List.mem_cons_self) (fun z hz => hm z (ha z hz))
      · exact h j hj
    · exact jacG_sound hm (fun y hy => hs y (List.mem_cons_of_mem _ hy)) (fun y hy => hR y (List.mem_cons_of_mem _ hy)) hl h
/-- A row that has none of its first T. -/
theorem cnt_top : ∀ {T : Nat} {m : List Bool}, (∀ i : Nat, i < T → getB m (i : Int) = false) → cnt m ≤ m.length - T
  | 0, m, _ => by have := cnt_le m; omega
  | T + 1, [], _ => by simp [cnt]
  | T + 1, a :: m, h => by
    have h0 := h 0 (by omega)
    rw [getB_nat] at h0
    have ha : a = false := h0
    have h1 := cnt_top (T := T) (m := m) (fun i hi => by have := h (i + 1) (by omega); rw [getB_nat, List.getD_cons_succ] at this; rw [getB_nat]; exact this)
    subst ha
    have : cnt (false :: m) = cnt m := by simp [cnt]
    rw [this, List.length_cons]
    omega
theorem der_not_term {g : Gram} (h : goodF g = true) {s : Int} (d : Der (hornN g) noneI s) : (g.terms.length : Int) ≤ s := by
  cases d with
  | init h => exact h.elim
  | step hm _ =>
    obtain ⟨r, hr, he⟩ := List.mem_map.1 hm
    injection he with _ he
    rw [← he]
    exact (goodF_mem h r hr).1
theorem jac_null {g : Gram} (h : goodF g = true) : iter (jac (hornN g)) g.names.length (List.replicate (nsym g) false) = nullF g := by
  have hlen : ∀ k, (iter (jac (hornN g)) k (List.replicate (nsym g) false)).length = nsym g := by
    intro k
    induction k with
    | zero => simp [iter]
    | succ k ih => rw [iter_succ, jac, jacG_len]; exact ih
  have hso : ∀ k, Sound (hornN g) noneI (iter (jac (hornN g)) k (List.replicate (nsym g) false)) := by
    intro k
    induction k with
    | zero => exact fun s hs => by rw [iter, getB_replicate] at hs; cases hs
    | succ k ih => rw [iter_succ]; exact jacG_sound ih (fun _ h => h) (hornN_in h) (hlen k) ih
  have hfix := iter_fix (f := jac (hornN g)) (K := g.names.length) (m := List.replicate (nsym g) false) (fun k => jacG_le _ (hornN_in h) (hlen k)) (fun k => by
    have := cnt_top (T := g.terms.length) (m := iter (jac (hornN g)) k (List.replicate (nsym g) false)) (fun i hi => by
      cases hb : getB (iter (jac (hornN g)) k (List.replicate (nsym g) false)) (i : Int) with
      | false => rfl
      | true => have := der_not_term h (hso k _ hb); omega)
    rw [hlen k] at this
    rw [cnt_replicate]
    have hns : nsym g = g.terms.length + g.names.length := rfl
    omega)
  refine (IsDer.mk' (hlen _) (hso _) ⟨fun s hs => hs.elim, fun x hx ha => ?_⟩).unique (nullF_is h)
  rw [← hfix]
  exact jacG_has _ (hornN_in h) (hlen _) x hx ha
end Go.Proofs.Ytphmmppmhphgeaa
