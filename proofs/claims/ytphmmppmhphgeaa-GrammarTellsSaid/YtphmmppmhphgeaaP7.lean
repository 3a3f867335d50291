/- Plain facts for the document's answer on which grammars may be. -/
import Derived.Test.YtphmmppmhphgeaaP6
set_option linter.unusedVariables false
set_option linter.unusedSimpArgs false
namespace Go.Proofs.Ytphmmppmhphgeaa
open Go.RowKit Go.Proofs.YtphmmppmhphgeaaW.PrintWords

theorem distF_may {may : ByteArray → Bool} : ∀ {l seen : List ByteArray}, distF may seen l = true → ∀ s ∈ l, may s = true
  | [], _, _, s, hs => by cases hs
  | a :: l, seen, h, s, hs => by
    unfold distF at h
    split at h
    · cases h
    · rename_i hm
      split at h
      · cases h
      · rcases List.mem_cons.1 hs with rfl | hs
        · simpa using hm
        · exact distF_may h s hs
theorem idxF_self {l : List ByteArray} (hn : l.Nodup) (j : Nat) (hj : j < l.length) : idxF l (l[j]'hj) = j := by
  obtain ⟨h1, h2⟩ := idxF_some (List.getElem_mem hj)
  have := nodup_same hn h2 (List.getElem?_eq_getElem hj)
  omega
theorem nodup_idx {l : List ByteArray} (h : ∀ j (hj : j < l.length), idxF l (l[j]'hj) = j) : l.Nodup := by
  refine List.pairwise_iff_getElem.2 (fun i j hi hj hij e => ?_)
  have h1 := h i hi
  have h2 := h j hj
  rw [e, h2] at h1
  omega
/-- Texts may be: each is one, and stands first at its own place. -/
theorem dist_iff (may : ByteArray → Bool) (l : List ByteArray) : distF may [] l = true ↔ ∀ j (hj : j < l.length), may (l[j]'hj) = true ∧ idxF l (l[j]'hj) = j := by
  constructor
  · intro h j hj
    exact ⟨distF_may h _ (List.getElem_mem hj), idxF_self (distF_nodup h).1 j hj⟩
  · intro h
    refine distF_of (nodup_idx (fun j hj => (h j hj).2)) (fun s _ hs => by cases hs) (fun s hs => ?_)
    obtain ⟨j, hj, rfl⟩ := List.mem_iff_getElem.1 hs
    exact (h j hj).1
/-- The first rules, and what has come with them. -/
structure GS (g : Gram) (i nm tm : Nat) : Prop where
  rul : rulF g.terms.length (g.terms.length + g.names.length) [] (g.rules.take i) = true
  lefts : risS (leftsF (g.rules.take i)) g.terms.length = some ((g.terms.length : Int) + nm)
  terms : risS (termsF g (g.rules.take i)) 0 = some (tm : Int)
theorem GS.start (g : Gram) : GS g 0 0 0 := ⟨rfl, by simp [leftsF, risS], rfl⟩
theorem take_split {l : List Rule} {i : Nat} (h : i < l.length) : l = l.take i ++ (l[i]'h) :: l.drop (i + 1) := by
  rw [← List.drop_eq_getElem_cons h, List.take_append_drop]
/-- What a good grammar's next rule holds. -/
theorem GS.left_ {g : Gram} {i nm tm : Nat} (hg : GoodP g) (h : GS g i nm tm) (hi : i < g.rules.length) :
    ¬ (g.rules[i]'hi).left < g.terms.length ∧ (g.rules[i]'hi).left ≤ g.terms.length + nm ∧ (g.rules[i]'hi).left < g.terms.length + g.names.length ∧ (g.rules[i]'hi).right.length ≤ 8 ∧ ((g.rules.take i).any fun x => decide (x = g.rules[i]'hi)) = false ∧
    ∀ k (hk : k < (g.rules[i]'hi).right.length) (tm' : Nat), risS (((g.rules[i]'hi).right.take k).filter (termF g)) tm = some (tm' : Int) → 0 ≤ (g.rules[i]'hi).right[k] ∧ (g.rules[i]'hi).right[k] < g.terms.length + g.names.length ∧ ((g.rules[i]'hi).right[k] < g.terms.length → (g.rules[i]'hi).right[k] ≤ tm') := by
  have hm := rulF_mem hg.ruled _ (List.getElem_mem hi)
  have hs := take_split hi
  have h1 := hg.lefts
  have h2 := hg.come
  have h3 := hg.ruled
  rw [hs] at h1 h2 h3
  rw [leftsF, List.map_append, risS_append] at h1
  rw [show (List.map (fun x => x.left) (g.rules.take i)) = leftsF (g.rules.take i) from rfl, h.lefts] at h1
  have h1 : risS ((g.rules[i]'hi).left :: leftsF (g.rules.drop (i + 1))) ((g.terms.length : Int) + nm) = some (g.terms.length + g.names.length : Int) := h1
  rw [termsF, List.flatMap_append, risS_append] at h2
  rw [show (List.flatMap (fun r => r.right.filter (termF g)) (g.rules.take i)) = termsF g (g.rules.take i) from rfl, h.terms] at h2
  rw [List.flatMap_cons] at h2
  have h2 : risS ((g.rules[i]'hi).right.filter (termF g) ++ termsF g (g.rules.drop (i + 1))) (tm : Int) = some (g.terms.length : Int) := h2
  have h4 := (rulF_append h3).2
  rw [List.nil_append] at h4
  refine ⟨hm.1, ?_, hm.2.1, hm.2.2.1, ?_, fun k hk tm' ht => ⟨(hm.2.2.2 _ (List.getElem_mem hk)).1, (hm.2.2.2 _ (List.getElem_mem hk)).2, fun hlt => ?_⟩⟩
  · unfold risS at h1
    split at h1
    · cases h1
    · omega
  · rw [rulF_cons] at h4
    split at h4
    · cases h4
    · rename_i hn
      exact Bool.eq_false_iff.2 (fun h => hn (Or.inr (Or.inr (Or.inr h))))
  · have e1 : (g.rules[i]'hi).right = (g.rules[i]'hi).right.take k ++ (g.rules[i]'hi).right[k] :: (g.rules[i]'hi).right.drop (k + 1) := by
      rw [← List.drop_eq_getElem_cons hk, List.take_append_drop]
    have h0 := (hm.2.2.2 _ (List.getElem_mem hk)).1
    have e2 : termF g ((g.rules[i]'hi).right[k]) = true := decide_eq_true ⟨h0, hlt⟩
    rw [e1, List.filter_append, List.filter_cons, if_pos e2, List.append_assoc, risS_append, ht] at h2
    have h2 : risS ((g.rules[i]'hi).right[k] :: ((g.rules[i]'hi).right.drop (k + 1)).filter (termF g) ++ termsF g (g.rules.drop (i + 1))) (tm' : Int) = some (g.terms.length : Int) := h2
    rw [List.cons_append] at h2
    unfold risS at h2
    split at h2
    · cases h2
    · omega
theorem GS.next {g : Gram} {i nm tm tm' : Nat} (h : GS g i nm tm) (hi : i < g.rules.length) (h1 : ¬ (g.rules[i]'hi).left < g.terms.length) (h2 : (g.rules[i]'hi).left ≤ g.terms.length + nm) (h3 : (g.rules[i]'hi).left < g.terms.length + g.names.length) (h4 : (g.rules[i]'hi).right.length ≤ 8)
    (h5 : ((g.rules.take i).any fun x => decide (x = g.rules[i]'hi)) = false) (h6 : ∀ s ∈ (g.rules[i]'hi).right, 0 ≤ s ∧ s < g.terms.length + g.names.length) (h7 : risS ((g.rules[i]'hi).right.filter (termF g)) tm = some (tm' : Int)) :
    GS g (i + 1) (if (g.rules[i]'hi).left = g.terms.length + nm then nm + 1 else nm) tm' := by
  have e := List.take_succ_eq_append_getElem hi
  refine ⟨?_, ?_, ?_⟩
  · rw [e]
    refine rulF_snoc h.rul ?_ ?_
    · rw [List.nil_append, h5]
      rintro (h | h | h | h)
      · omega
      · omega
      · omega
      · cases h
    · rw [List.any_eq_false]
      intro s hs
      have := h6 s hs
      simp [symB]
      omega
  · rw [leftsF_succ hi, risS_append, h.lefts]
    show risS [_] _ = _
    rw [risS_one h2]
    congr 1
    split <;> simp_all <;> omega
  · rw [termsF_succ hi, risS_append, h.terms]
    exact h7
theorem good_end {g : Gram} {nm tm : Nat} (h : GS g g.rules.length nm tm) (h1 : namesOk g = true) (h2 : termsOk g = true) (h3 : 1 ≤ g.rules.length) (h4 : g.rules.length ≤ 60) : goodF g = (decide (nm = g.names.length) && decide (tm = g.terms.length)) := by
  obtain ⟨r, l, t⟩ := h
  rw [List.take_length] at r l t
  rw [Bool.eq_iff_iff, good_iff, Bool.and_eq_true, decide_eq_true_eq, decide_eq_true_eq]
  constructor
  · intro hg
    have e1 := hg.lefts
    have e2 := hg.come
    rw [l] at e1
    rw [t] at e2
    injection e1 with e1
    injection e2 with e2
    omega
  · rintro ⟨rfl, rfl⟩
    exact ⟨h1, h2, h3, h4, r, l, t⟩
theorem names_iff (g : Gram) : namesOk g = true ↔ (∀ j (hj : j < g.names.length), nameOk (g.names[j]'hj) = true ∧ idxF g.names (g.names[j]'hj) = j) ∧ 1 ≤ g.names.length ∧ g.names.length ≤ 40 := by
  unfold namesOk
  rw [Bool.and_eq_true, Bool.and_eq_true, dist_iff, decide_eq_true_eq, decide_eq_true_eq]
  exact ⟨fun h => ⟨h.1.1, by omega, by omega⟩, fun h => ⟨⟨h.1, by omega⟩, by omega⟩⟩
theorem terms_iff (g : Gram) : termsOk g = true ↔ (∀ j (hj : j < g.terms.length), termOk (g.terms[j]'hj) = true ∧ idxF g.terms (g.terms[j]'hj) = j) ∧ g.terms.length ≤ 40 := by
  unfold termsOk
  rw [Bool.and_eq_true, Bool.and_eq_true, dist_iff, decide_eq_true_eq, decide_eq_true_eq]
  exact ⟨fun h => ⟨h.1.1, by omega⟩, fun h => ⟨⟨h.1, by omega⟩, by omega⟩⟩
theorem good_not {g : Gram} (h : ¬ GoodP g) : goodF g = false := by
  cases hg : goodF g with
  | false => rfl
  | true => exact absurd ((good_iff g).1 hg) h
end Go.Proofs.Ytphmmppmhphgeaa
