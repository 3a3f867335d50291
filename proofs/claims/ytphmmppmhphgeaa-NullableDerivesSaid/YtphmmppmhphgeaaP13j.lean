/- What may be nothing: just if one of its rules may; no terminal; no fewer with a rule more. -/
import Derived.Test.YtphmmppmhphgeaaP12j
import Derived.Test.YtphmmppmhphgeaaJN
set_option linter.unusedVariables false
set_option linter.unusedSimpArgs false
namespace Go.Proofs.Ytphmmppmhphgeaa

def someF (m : List Bool) (l : List Rule) (s : Int) : Bool := l.any fun r => decide (r.left = s) && allF m r.right
theorem someF_take {m : List Bool} {l : List Rule} {s : Int} {k : Nat} (h : k < l.length) : someF m (l.take (k + 1)) s = (someF m (l.take k) s || (decide ((l[k]'h).left = s) && allF m (l[k]'h).right)) := by
  rw [someF, List.take_succ_eq_append_getElem h, List.any_append]
  simp [someF]
theorem null_some {g : Gram} (h : goodF g = true) (s : Int) : getB (nullF g) s = someF (nullF g) g.rules s := by
  have hd := nullF_is h
  rw [Bool.eq_iff_iff, someF, List.any_eq_true]
  constructor
  · intro hs
    rcases ((hd.2 s).1 hs).cases_ with h0 | ⟨b, hb, ha⟩
    · exact h0.elim
    · obtain ⟨r, hr, he⟩ := List.mem_map.1 hb
      injection he with h1 h2
      exact ⟨r, hr, by rw [Bool.and_eq_true, decide_eq_true_eq]; exact ⟨h2, by rw [h1]; exact (hd.all b).2 ha⟩⟩
  · rintro ⟨r, hr, hrs⟩
    rw [Bool.and_eq_true, decide_eq_true_eq] at hrs
    exact (hd.2 s).2 (.step (List.mem_map.2 ⟨r, hr, by rw [hrs.1]⟩) ((hd.all _).1 hrs.2))
theorem null_term {g : Gram} (h : goodF g = true) {s : Int} (hs : s < g.terms.length) : getB (nullF g) s = false := by
  cases hb : getB (nullF g) s with
  | false => rfl
  | true => have := der_not_term h (((nullF_is h).2 s).1 hb); omega
theorem null_more {g h : Gram} (hg : goodF g = true) (hh : goodF h = true) (hr : ∀ r ∈ g.rules, r ∈ h.rules) {s : Int} (hs : getB (nullF g) s = true) : getB (nullF h) s = true := by
  refine ((nullF_is hh).2 s).2 ((((nullF_is hg).2 s).1 hs).mono (fun x hx => ?_) (fun _ h => h))
  obtain ⟨r, hr', rfl⟩ := List.mem_map.1 hx
  exact List.mem_map.2 ⟨r, hr r hr', rfl⟩
theorem ruleB_at {g : Gram} (h : goodF g = true) {k : Nat} (hk : k < g.rules.length) : ruleB g (k : Int) = allF (nullF g) (g.rules[k]'hk).right := by
  rw [ruleB, decide_eq_true (by omega : (0 : Int) ≤ k), decide_eq_true (by omega : (k : Int) < g.rules.length), allB, h]
  simp [hk]
end Go.Proofs.Ytphmmppmhphgeaa
