/- The plain law of GrammarSpoilt. -/
import Derived.Test.YtphmmppmhphgeaaP2
set_option linter.unusedVariables false
set_option linter.unusedSimpArgs false
namespace Go.Proofs.Ytphmmppmhphgeaa
open Go.RowKit Go.Proofs.YtphmmppmhphgeaaW.PrintWords

theorem risS_of {upto : Int} : ∀ {l : List Int} {fr : Int}, risF upto l fr = true → risS l fr = some upto
  | [], fr, h => by
    have : fr = upto := by simpa [risF] using h
    rw [this]; rfl
  | n :: l, fr, h => by
    unfold risF at h
    unfold risS
    split at h
    · cases h
    · rename_i hlt; rw [if_neg hlt]; exact risS_of h
theorem risS_came : ∀ {l : List Int} {fr u x : Int}, risS l fr = some u → fr ≤ x → x < u → x ∈ l
  | [], fr, u, x, h, h1, h2 => by injection h with h; omega
  | n :: l, fr, u, x, h, h1, h2 => by
    unfold risS at h
    split at h
    · cases h
    · by_cases hx : x = n
      · rw [hx]; exact List.mem_cons_self
      · exact List.mem_cons_of_mem _ (risS_came h (by split <;> omega) h2)
theorem rulF_nodup {t all : Int} : ∀ {l seen : List Rule}, rulF t all seen l = true → ∀ x ∈ l, x ∉ seen
  | [], _, _, x, hx => by cases hx
  | r :: l, seen, h, x, hx => by
    unfold rulF at h
    split at h
    · cases h
    · rename_i h1
      split at h
      · cases h
      · rcases List.mem_cons.1 hx with rfl | hx
        · intro hm
          exact h1 (Or.inr (Or.inr (Or.inr (List.any_eq_true.2 ⟨x, hm, by simp⟩))))
        · exact fun hm => rulF_nodup h x hx (List.mem_append_left _ hm)
theorem rulF_cons (t all : Int) (seen l : List Rule) (r : Rule) : rulF t all seen (r :: l) = (if r.left < t ∨ all ≤ r.left ∨ 8 < r.right.length ∨ (seen.any fun x => decide (x = r)) = true then false
    else if r.right.any (symB all) = true then false else rulF t all (seen ++ [r]) l) := rfl
theorem rulF_append {t all : Int} : ∀ {l m seen : List Rule}, rulF t all seen (l ++ m) = true → rulF t all seen l = true ∧ rulF t all (seen ++ l) m = true
  | [], m, seen, h => by rw [List.append_nil]; exact ⟨rfl, h⟩
  | r :: l, m, seen, h => by
    rw [List.cons_append, rulF_cons] at h
    rw [rulF_cons]
    split at h
    · cases h
    · rename_i h1
      rw [if_neg h1]
      split at h
      · cases h
      · rename_i h2
        rw [if_neg h2]
        have := rulF_append h
        rw [List.append_assoc, List.singleton_append] at this
        exact this
structure GoodP (g : Gram) : Prop where
  names : namesOk g = true
  terms : termsOk g = true
  one : 1 ≤ g.rules.length
  most : g.rules.length ≤ 60
  ruled : rulF g.terms.length (g.terms.length + g.names.length) [] g.rules = true
  lefts : risS (leftsF g.rules) g.terms.length = some (g.terms.length + g.names.length : Int)
  come : risS (termsF g g.rules) 0 = some (g.terms.length : Int)
theorem good_iff (g : Gram) : goodF g = true ↔ GoodP g := by
  unfold goodF ruledF
  simp only [Bool.and_eq_true, decide_eq_true_eq]
  constructor
  · rintro ⟨⟨⟨⟨h1, h2⟩, ⟨h3, h4⟩, h5⟩, h6⟩, h7⟩
    exact ⟨h1, h2, h3, h4, h5, risS_of h6, risS_of h7⟩
  · rintro ⟨h1, h2, h3, h4, h5, h6, h7⟩
    exact ⟨⟨⟨⟨h1, h2⟩, ⟨h3, h4⟩, h5⟩, risF_of h6⟩, risF_of h7⟩
/-- With a rule twice it may not be. -/
theorem spoilt_twice {g : Gram} {x : Rule} (hx : x ∈ g.rules) : goodF ⟨g.terms, g.names, g.rules ++ [x]⟩ = false := by
  cases h : goodF ⟨g.terms, g.names, g.rules ++ [x]⟩ with
  | false => rfl
  | true =>
    have hp := ((good_iff _).1 h).ruled
    exact absurd hx (by simpa using rulF_nodup (rulF_append hp).2 x List.mem_cons_self)
/-- With a name more it may not be. -/
theorem spoilt_name {g : Gram} (hg : goodF g = true) (s : ByteArray) : goodF ⟨g.terms, g.names ++ [s], g.rules⟩ = false := by
  cases h : goodF ⟨g.terms, g.names ++ [s], g.rules⟩ with
  | false => rfl
  | true =>
    have h1 := ((good_iff _).1 h).lefts
    rw [((good_iff _).1 hg).lefts] at h1
    injection h1 with h1
    simp only [List.length_append, List.length_singleton] at h1
    omega
/-- What the law reckons of the rules but the last one. -/
def comeB (init : List Rule) (s : Int) : Bool := init.any fun r => r.right.any fun y => y == s
def leftB (g : Gram) (init : List Rule) (last : Rule) : Bool := (init.any fun r => r.left == last.left) && last.right.all fun s => decide ((g.terms.length : Int) ≤ s) || comeB init s
theorem spoilt_last {g : Gram} (hg : goodF g = true) {init : List Rule} {last : Rule} (hr : g.rules = init ++ [last]) : goodF ⟨g.terms, g.names, init⟩ = (leftB g init last && decide ((0 : Int) < init.length)) := by
  obtain ⟨n1, n2, n3, n4, n5, n6, n7⟩ := (good_iff _).1 hg
  rw [hr] at n3 n4 n5 n6 n7
  have r1 := (rulF_append n5).1
  have rm := rulF_mem n5
  have rl := rm last (by simp)
  have e6 : leftsF (init ++ [last]) = leftsF init ++ [last.left] := by simp [leftsF]
  have e7 : termsF g (init ++ [last]) = termsF g init ++ last.right.filter (termF g) := by simp [termsF]
  rw [e6, risS_append] at n6
  rw [e7, risS_append] at n7
  rw [Bool.eq_iff_iff, Bool.and_eq_true, decide_eq_true_eq]
  have ht : ∀ s ∈ last.right, s < (g.terms.length : Int) → s ∈ last.right.filter (termF g) := fun s hs h => List.mem_filter.2 ⟨hs, decide_eq_true ⟨(rl.2.2.2 s hs).1, h⟩⟩
  constructor
  · intro h
    obtain ⟨m1, m2, m3, m4, m5, m6, m7⟩ := (good_iff _).1 h
    refine ⟨?_, by simp only at m3; omega⟩
    unfold leftB
    rw [Bool.and_eq_true, List.any_eq_true, List.all_eq_true]
    constructor
    · have hm := risS_came m6 (x := last.left) (by show (g.terms.length : Int) ≤ last.left; omega) (by show last.left < (g.terms.length : Int) + g.names.length; omega)
      obtain ⟨r, hr1, hr2⟩ := List.mem_map.1 hm
      exact ⟨r, hr1, by simpa using hr2⟩
    · intro s hs
      rw [Bool.or_eq_true, decide_eq_true_eq]
      by_cases hsl : (g.terms.length : Int) ≤ s
      · exact Or.inl hsl
      · right
        have hm := risS_came m7 (x := s) (rl.2.2.2 s hs).1 (by show s < (g.terms.length : Int); omega)
        obtain ⟨r, hr1, hr2⟩ := List.mem_flatMap.1 hm
        unfold comeB
        rw [List.any_eq_true]
        exact ⟨r, hr1, List.any_eq_true.2 ⟨s, (List.mem_filter.1 hr2).1, by simp⟩⟩
  · rintro ⟨h, h0⟩
    unfold leftB at h
    rw [Bool.and_eq_true, List.any_eq_true, List.all_eq_true] at h
    obtain ⟨⟨r, hr1, hr2⟩, h2⟩ := h
    have hr2 : r.left = last.left := by simpa using hr2
    cases hu : risS (leftsF init) g.terms.length with
    | none => rw [hu] at n6; cases n6
    | some u =>
      rw [hu] at n6
      have n6 : risS [last.left] u = some (g.terms.length + g.names.length : Int) := n6
      have hlt : last.left < u := (risS_lt hu).2 last.left (List.mem_map.2 ⟨r, hr1, hr2⟩)
      rw [risS_old (fun n hn => by rw [List.mem_singleton.1 hn]; exact hlt)] at n6
      injection n6 with n6
      cases hv : risS (termsF g init) 0 with
      | none => rw [hv] at n7; cases n7
      | some v =>
        rw [hv] at n7
        have n7 : risS (last.right.filter (termF g)) v = some (g.terms.length : Int) := n7
        have hold : ∀ s ∈ last.right.filter (termF g), s < v := by
          intro s hs
          obtain ⟨hs1, hs2⟩ := List.mem_filter.1 hs
          have hs3 := of_decide_eq_true hs2
          have := h2 s hs1
          rw [Bool.or_eq_true, decide_eq_true_eq] at this
          rcases this with h3 | h3
          · omega
          · unfold comeB at h3
            obtain ⟨r', hr', h4⟩ := List.any_eq_true.1 h3
            obtain ⟨y, hy, h5⟩ := List.any_eq_true.1 h4
            have h5 : y = s := by simpa using h5
            subst h5
            exact (risS_lt hv).2 y (List.mem_flatMap.2 ⟨r', hr', List.mem_filter.2 ⟨hy, hs2⟩⟩)
        rw [risS_old hold] at n7
        injection n7 with n7
        exact (good_iff _).2 ⟨n1, n2, by simp only; omega, by simp only [List.length_append, List.length_singleton] at n4; simp only; omega, r1, by rw [← n6]; exact hu, by rw [← n7]; exact hv⟩
end Go.Proofs.Ytphmmppmhphgeaa
