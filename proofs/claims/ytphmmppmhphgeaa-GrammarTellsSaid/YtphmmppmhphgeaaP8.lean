/- Plain facts for the document's answer on tokens: place by place. -/
import Derived.Test.YtphmmppmhphgeaaP4
set_option linter.unusedVariables false
set_option linter.unusedSimpArgs false
namespace Go.Proofs.Ytphmmppmhphgeaa
open Go.RowKit Go.Proofs.YtphmmppmhphgeaaW.PrintWords

/-- What is told of the text from a place on, behind some tokens. -/
def contF (L : List UInt8) (i : Nat) (acc : List Tok) : Except Nat (List Tok) := toksU (i + skipF false (L.drop i)) ((L.drop i).drop (skipF false (L.drop i))) acc
theorem contF_blank {L : List UInt8} {i : Nat} {acc : List Tok} (hi : i < L.length) (h : L[i].toNat = 32 ∨ L[i].toNat = 9 ∨ L[i].toNat = 10) : contF L i acc = contF L (i + 1) acc := by
  unfold contF
  rw [List.drop_eq_getElem_cons hi]
  simp only [skipF, if_pos h]
  rw [Nat.add_comm 1, List.drop_succ_cons]
  congr 1
  omega
theorem contF_note {L : List UInt8} {i : Nat} {acc : List Tok} (hi : i < L.length) (h1 : ¬ (L[i].toNat = 32 ∨ L[i].toNat = 9 ∨ L[i].toNat = 10)) (h : L[i].toNat = 35) : contF L i acc = contF L (i + 1 + runF (L.drop (i + 1)) noteB) acc := by
  unfold contF
  rw [List.drop_eq_getElem_cons hi]
  simp only [skipF, if_neg h1, if_pos h]
  have e2 : L.drop (i + 1 + runF (L.drop (i + 1)) noteB) = (L.drop (i + 1)).drop (runF (L.drop (i + 1)) noteB) := by rw [List.drop_drop]
  rw [e2]
  generalize L.drop (i + 1) = r
  rw [skipF_note, Nat.add_comm 1, List.drop_succ_cons, List.drop_drop]
  congr 1
  omega
theorem contF_some {L : List UInt8} {i n : Nat} {acc : List Tok} {t : Tok} (hi : i < L.length) (h1 : ¬ (L[i].toNat = 32 ∨ L[i].toNat = 9 ∨ L[i].toNat = 10)) (h : ¬ L[i].toNat = 35) (ht : tokenF (L.drop i) i = some (t, n)) : contF L i acc = contF L (i + n) (acc ++ [t]) := by
  have h0 : skipF false (L.drop i) = 0 := by
    rw [List.drop_eq_getElem_cons hi]
    simp only [skipF, if_neg h1, if_neg h]
  conv => lhs; unfold contF
  rw [h0, Nat.add_zero, List.drop_zero, toksU_some ht]
  unfold contF
  rw [List.drop_drop]
theorem contF_none {L : List UInt8} {i : Nat} {acc : List Tok} (hi : i < L.length) (h1 : ¬ (L[i].toNat = 32 ∨ L[i].toNat = 9 ∨ L[i].toNat = 10)) (h : ¬ L[i].toNat = 35) (ht : tokenF (L.drop i) i = none) : contF L i acc = .error i := by
  have h0 : skipF false (L.drop i) = 0 := by
    rw [List.drop_eq_getElem_cons hi]
    simp only [skipF, if_neg h1, if_neg h]
  unfold contF
  rw [h0, Nat.add_zero, List.drop_zero]
  unfold toksU
  exact toksF_none (by intro e; have := congrArg List.length e; simp only [List.length_drop, List.length_nil] at this; omega) ht
theorem contF_end {L : List UInt8} {i : Nat} {acc : List Tok} (hi : L.length ≤ i) : contF L i acc = .ok acc := by
  unfold contF
  rw [List.drop_eq_nil_of_le hi]
  rfl
def lexR : Except Nat (List Tok) → Except (Int × Int) (List Tok)
  | .error p => .error (11, (p : Int))
  | .ok l => .ok l
theorem lexE_cont {s : ByteArray} (h : s.size ≤ 2000) : lexE s = lexR (contF (bsl s) 0 []) := by
  rw [lexE_eq s h]
  unfold contF
  rw [List.drop_zero, Nat.zero_add]
  generalize toksU _ _ [] = R
  cases R <;> rfl
/-- How far a run goes: as many as are so. -/
structure Run (p : Int → Bool) (r : List UInt8) (j : Nat) : Prop where
  le : j ≤ r.length
  all : ∀ t (ht : t < r.length), t < j → p r[t].toNat = true
theorem Run.start (p : Int → Bool) (r : List UInt8) : Run p r 0 := ⟨Nat.zero_le _, fun t ht h => by omega⟩
theorem Run.next {p : Int → Bool} {r : List UInt8} {j : Nat} (h : Run p r j) (hj : j < r.length) (hp : p r[j].toNat = true) : Run p r (j + 1) := ⟨hj, fun t ht htj => by
  rcases Nat.lt_or_ge t j with h1 | h1
  · exact h.all t ht h1
  · obtain rfl : t = j := by omega
    exact hp⟩
theorem Run.stop {p : Int → Bool} {r : List UInt8} {j : Nat} (h : Run p r j) (hj : j < r.length) (hp : p r[j].toNat = false) : runF r p = j := runF_stop hj h.all hp
theorem Run.end_ {p : Int → Bool} {r : List UInt8} {j : Nat} (h : Run p r j) (hj : r.length ≤ j) : runF r p = r.length := Nat.le_antisymm (runF_le r p) (runF_ge (Nat.le_refl _) (fun t ht _ => h.all t ht (by omega)))
theorem runF_before {p : Int → Bool} : ∀ {r : List UInt8} {t : Nat}, t < runF r p → ∀ (ht : t < r.length), p r[t].toNat = true
  | [], t, h, ht => absurd ht (Nat.not_lt_zero _)
  | a :: r, t, h, ht => by
    by_cases ha : p a.toNat = true
    · cases t with
      | zero => exact ha
      | succ t =>
        have e : runF (a :: r) p = runF r p + 1 := by unfold runF; rw [List.takeWhile_cons, if_pos ha, List.length_cons]
        rw [e] at h
        exact runF_before (r := r) (t := t) (by omega) (by simpa using ht)
    · have e : runF (a :: r) p = 0 := by unfold runF; rw [List.takeWhile_cons, if_neg ha]; rfl
      omega
theorem runF_after {p : Int → Bool} : ∀ {r : List UInt8} (h : runF r p < r.length), p (r[runF r p]'h).toNat = false
  | [], h => absurd h (Nat.not_lt_zero _)
  | a :: r, h => by
    by_cases ha : p a.toNat = true
    · have e : runF (a :: r) p = runF r p + 1 := by unfold runF; rw [List.takeWhile_cons, if_pos ha, List.length_cons]
      simp only [e, List.getElem_cons_succ]
      exact runF_after (r := r) (by rw [e] at h; simpa using h)
    · have e : runF (a :: r) p = 0 := by unfold runF; rw [List.takeWhile_cons, if_neg ha]; rfl
      simp only [e, List.getElem_cons_zero]
      simpa using ha
/-- A quoted text ends at the first quote. -/
theorem tokenF_quote {c : UInt8} {r : List UInt8} {at_ : Int} (hl : letterB c.toNat = false) (hc : c.toNat = 39) :
    tokenF (c :: r) at_ = if runF r (fun x => x != 39) < r.length ∧ isTermF (r.take (runF r (fun x => x != 39))) = true then some (⟨2, ofL (r.take (runF r (fun x => x != 39))), at_⟩, runF r (fun x => x != 39) + 2) else none := by
  unfold tokenF
  dsimp only
  rw [if_neg (by rw [hl]; decide), if_pos hc]
  obtain ⟨q, hq⟩ : ∃ q, q = runF r (fun x => x != 39) := ⟨_, rfl⟩
  obtain ⟨m, hm⟩ : ∃ m, m = runF r insideB := ⟨_, rfl⟩
  rw [← hq, ← hm]
  have hqa : ∀ t (ht : t < r.length), t < q → ¬ r[t].toNat = 39 := fun t ht htq e => by
    have := runF_before (p := fun x : Int => x != 39) (hq ▸ htq) ht
    rw [e] at this
    exact absurd this (by decide)
  have hma : ∀ t (ht : t < r.length), t < m → insideB r[t].toNat = true := fun t ht htm => runF_before (hm ▸ htm) ht
  have hin : insideB 39 = false := by decide
  by_cases hlt : q < r.length
  · have h39 : r[q].toNat = 39 := by
      have := runF_after (p := fun x : Int => x != 39) (hq ▸ hlt)
      simp only [← hq] at this
      have h2 : ¬ ((r[q].toNat : Int) != 39) = true := by rw [this]; decide
      rw [bne_iff_ne] at h2
      omega
    by_cases ht : isTermF (r.take q) = true
    · have hall : ∀ t (ht' : t < r.length), t < q → insideB r[t].toNat = true := by
        intro t ht' htq
        unfold isTermF at ht
        rw [Bool.and_eq_true, List.all_eq_true] at ht
        refine ht.2 r[t] ?_
        rw [List.mem_take_iff_getElem]
        exact ⟨t, by omega, rfl⟩
      have hmq : m = q := by
        rw [hm]
        exact runF_stop hlt hall (by rw [h39]; exact hin)
      rw [hmq, if_pos ⟨ht, by rw [List.getElem?_eq_getElem hlt, Option.map_some, h39]⟩, if_pos ⟨hlt, ht⟩]
    · rw [if_neg (fun h => ?_), if_neg (fun h => ht h.2)]
      obtain ⟨h1, h2⟩ := h
      have hmq : m = q := by
        rcases Nat.lt_trichotomy m q with h | h | h
        · have hml : m < r.length := by omega
          rw [List.getElem?_eq_getElem hml, Option.map_some] at h2
          injection h2 with h2
          exact absurd h2 (hqa m hml h)
        · exact h
        · have := hma q hlt h
          rw [h39] at this
          exact absurd this (by decide)
      rw [hmq] at h1
      exact ht h1
  · rw [if_neg (fun h => ?_), if_neg (fun h => hlt h.1)]
    obtain ⟨h1, h2⟩ := h
    rcases Nat.lt_or_ge m r.length with hml | hml
    · rw [List.getElem?_eq_getElem hml, Option.map_some] at h2
      injection h2 with h2
      exact absurd h2 (hqa m hml (by omega))
    · rw [List.getElem?_eq_none hml] at h2
      cases h2
theorem contF_sign {L : List UInt8} {i : Nat} {acc : List Tok} {kind : Int} {c0 : UInt8} (hi : i < L.length) (hc : L[i] = c0) (hl : letterB c0.toNat = false) (h39 : ¬ c0.toNat = 39) (hs : signF c0.toNat = kind) (hk : ¬ kind = 0) (h1 : ¬ (c0.toNat = 32 ∨ c0.toNat = 9 ∨ c0.toNat = 10)) (h35 : ¬ c0.toNat = 35) : contF L i acc = contF L (i + 1) (acc ++ [⟨kind, ⟨#[c0]⟩, i⟩]) := by
  refine contF_some hi (by rw [hc]; exact h1) (by rw [hc]; exact h35) ?_
  rw [List.drop_eq_getElem_cons hi, hc]
  unfold tokenF
  dsimp only
  rw [if_neg (by rw [hl]; decide), if_neg (by omega), if_neg (by rw [hs]; exact hk), hs]
  rfl
theorem contF_other {L : List UInt8} {i : Nat} {acc : List Tok} (hi : i < L.length) (hl : letterB L[i].toNat = false) (h39 : ¬ L[i].toNat = 39) (hs : signF L[i].toNat = 0) (h1 : ¬ (L[i].toNat = 32 ∨ L[i].toNat = 9 ∨ L[i].toNat = 10)) (h35 : ¬ L[i].toNat = 35) : contF L i acc = .error i := by
  refine contF_none hi h1 h35 ?_
  rw [List.drop_eq_getElem_cons hi]
  unfold tokenF
  dsimp only
  rw [if_neg (by rw [hl]; decide), if_neg (by omega), if_pos hs]
theorem letter_inner {c : Int} (h : letterB c = true) : innerB c = true := by unfold innerB; rw [h]; rfl
theorem letter_no {c : Int} (h : letterB c = true) : ¬ (c = 32 ∨ c = 9 ∨ c = 10) ∧ ¬ c = 35 ∧ ¬ c = 39 := by
  unfold letterB at h
  have := of_decide_eq_true h
  omega
theorem contF_letter {L : List UInt8} {i j : Nat} {acc : List Tok} (hi : i < L.length) (hl : letterB L[i].toNat = true) (hj : runF (L.drop (i + 1)) innerB = j) :
    contF L i acc = if isNameF ((L.drop i).take (1 + j)) = true then contF L (i + (1 + j)) (acc ++ [⟨1, ofL ((L.drop i).take (1 + j)), i⟩]) else .error i := by
  have hn := letter_no hl
  have hr : runF (L[i] :: L.drop (i + 1)) innerB = 1 + j := by
    unfold runF at hj ⊢
    rw [List.takeWhile_cons, if_pos (letter_inner hl), List.length_cons, hj]
    omega
  have hd := List.drop_eq_getElem_cons hi
  by_cases h : isNameF ((L.drop i).take (1 + j)) = true
  · rw [if_pos h]
    refine contF_some hi (by omega) (by omega) ?_
    rw [hd] at h ⊢
    unfold tokenF
    dsimp only
    rw [if_pos hl, hr, if_pos h]
  · rw [if_neg h]
    refine contF_none hi (by omega) (by omega) ?_
    rw [hd] at h ⊢
    unfold tokenF
    dsimp only
    rw [if_pos hl, hr, if_neg h]
theorem contF_quote {L : List UInt8} {i q : Nat} {acc : List Tok} (hi : i < L.length) (hl : L[i].toNat = 39) (hq : runF (L.drop (i + 1)) (fun x => x != 39) = q) :
    contF L i acc = if q < (L.drop (i + 1)).length ∧ isTermF ((L.drop (i + 1)).take q) = true then contF L (i + (q + 2)) (acc ++ [⟨2, ofL ((L.drop (i + 1)).take q), i⟩]) else .error i := by
  have ht := tokenF_quote (c := L[i]) (r := L.drop (i + 1)) (at_ := (i : Int)) (by rw [hl]; decide) hl
  rw [hq, ← List.drop_eq_getElem_cons hi] at ht
  split
  · rename_i h
    rw [if_pos h] at ht
    exact contF_some hi (by omega) (by omega) ht
  · rename_i h
    rw [if_neg h] at ht
    exact contF_none hi (by omega) (by omega) ht
end Go.Proofs.Ytphmmppmhphgeaa
