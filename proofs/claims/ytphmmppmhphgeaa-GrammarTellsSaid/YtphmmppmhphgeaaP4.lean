/- The plain law of GrammarAgain: a text written twice, one behind the other. -/
import Derived.Test.YtphmmppmhphgeaaP3
set_option linter.unusedVariables false
set_option linter.unusedSimpArgs false
namespace Go.Proofs.Ytphmmppmhphgeaa
open Go.RowKit Go.Proofs.YtphmmppmhphgeaaW.PrintWords

/-! ### tokens of a text that goes on behind a line's end -/
theorem runF_line {p : Int → Bool} (hp : p 10 = false) (m : List UInt8) : ∀ l : List UInt8, runF (l ++ 10 :: m) p = runF l p
  | [] => by
    unfold runF
    rw [List.nil_append, List.takeWhile_cons, if_neg]
    · rfl
    · show ¬ p 10 = true
      rw [hp]; decide
  | a :: l => by
    have ih := runF_line hp m l
    unfold runF at ih ⊢
    rw [List.cons_append, List.takeWhile_cons, List.takeWhile_cons]
    split
    · rw [List.length_cons, List.length_cons, ih]
    · rfl
theorem take_line {l m : List UInt8} {n : Nat} (h : n ≤ l.length) : (l ++ 10 :: m).take n = l.take n := by
  rw [List.take_append_of_le_length h]
theorem tokenF_line {l : List UInt8} (hl : l ≠ []) (m : List UInt8) (at_ : Int) : tokenF (l ++ 10 :: m) at_ = tokenF l at_ := by
  cases l with
  | nil => exact absurd rfl hl
  | cons c r =>
    have h1 : runF (c :: (r ++ 10 :: m)) innerB = runF (c :: r) innerB := runF_line (by decide) m (c :: r)
    have h2 : runF (r ++ 10 :: m) insideB = runF r insideB := runF_line (by decide) m r
    have h3 : (c :: (r ++ 10 :: m)).take (runF (c :: r) innerB) = (c :: r).take (runF (c :: r) innerB) := take_line (l := c :: r) (runF_le _ _)
    have h4 : (r ++ 10 :: m).take (runF r insideB) = r.take (runF r insideB) := take_line (runF_le _ _)
    have h5 : ((r ++ 10 :: m)[runF r insideB]?).map UInt8.toNat = some 39 ↔ (r[runF r insideB]?).map UInt8.toNat = some 39 := by
      rcases Nat.lt_or_ge (runF r insideB) r.length with h | h
      · rw [List.getElem?_append_left h]
      · have e : runF r insideB = r.length := Nat.le_antisymm (runF_le _ _) h
        rw [e, List.getElem?_append_right (Nat.le_refl _), Nat.sub_self, List.getElem?_eq_none (Nat.le_refl _)]
        simp
    rw [List.cons_append]
    unfold tokenF
    dsimp only
    rw [h1, h2, h3, h4]
    simp only [h5]
theorem skipF_line (m : List UInt8) : ∀ (b : Bool) (l : List UInt8), skipF b (l ++ 10 :: m) = if skipF b l < l.length then skipF b l else l.length + 1 + skipF false m
  | true, [] => by simp [skipF]
  | false, [] => by simp [skipF]
  | true, c :: r => by
    have h1 := skipF_line m true r
    have h2 := skipF_line m false r
    rw [List.cons_append]
    simp only [skipF, List.length_cons]
    split
    · rw [h2]; split <;> split <;> omega
    · rw [h1]; split <;> split <;> omega
  | false, c :: r => by
    have h1 := skipF_line m true r
    have h2 := skipF_line m false r
    rw [List.cons_append]
    simp only [skipF, List.length_cons]
    split
    · rw [h2]; split <;> split <;> omega
    · split
      · rw [h1]; split <;> split <;> omega
      · rw [if_pos (by omega)]
theorem toksF_fuel : ∀ {k k' at_ : Nat} {l : List UInt8} {acc : List Tok}, l.length < k → l.length < k' → toksF k at_ l acc = toksF k' at_ l acc
  | 0, _, _, _, _, h, _ => absurd h (Nat.not_lt_zero _)
  | _ + 1, 0, _, _, _, _, h => absurd h (Nat.not_lt_zero _)
  | k + 1, k' + 1, at_, [], acc, _, _ => rfl
  | k + 1, k' + 1, at_, c :: r, acc, h, h' => by
    cases hT : tokenF (c :: r) at_ with
    | none => rw [toksF_none (by simp) hT, toksF_none (by simp) hT]
    | some q =>
      obtain ⟨t, n⟩ := q
      have hb := tokenF_bound hT
      rw [toksF_some hT, toksF_some hT]
      exact toksF_fuel (by simp only [List.length_drop, List.length_cons] at *; omega) (by simp only [List.length_drop, List.length_cons] at *; omega)
def toksU (at_ : Nat) (l : List UInt8) (acc : List Tok) : Except Nat (List Tok) := toksF (l.length + 1) at_ l acc
theorem toksU_some {at_ : Nat} {l : List UInt8} {acc : List Tok} {t : Tok} {n : Nat} (h : tokenF l at_ = some (t, n)) : toksU at_ l acc = toksU (at_ + n + skipF false (l.drop n)) ((l.drop n).drop (skipF false (l.drop n))) (acc ++ [t]) := by
  have hb := tokenF_bound h
  unfold toksU
  rw [toksF_some h]
  exact toksF_fuel (by simp only [List.length_drop]; omega) (by omega)
theorem toksU_line (m : List UInt8) : ∀ (q : Nat) {l : List UInt8} {at_ : Nat} {acc : List Tok}, l.length ≤ q → l ≠ [] →
    toksU at_ (l ++ 10 :: m) acc = (match toksU at_ l acc with | .error p => .error p | .ok r => toksU (at_ + l.length + 1 + skipF false m) (m.drop (skipF false m)) r)
  | 0, l, _, _, h, hl => absurd (List.eq_nil_of_length_eq_zero (by omega)) hl
  | q + 1, l, at_, acc, h, hl => by
    have hla : l ++ 10 :: m ≠ [] := by simp
    cases hT : tokenF l at_ with
    | none =>
      unfold toksU
      rw [toksF_none hl hT, toksF_none hla (by rw [tokenF_line hl, hT])]
    | some x =>
      obtain ⟨t, n⟩ := x
      have hb := tokenF_bound hT
      rw [toksU_some (by rw [tokenF_line hl, hT] : tokenF (l ++ 10 :: m) at_ = some (t, n)), toksU_some hT, List.drop_append_of_le_length hb.2, skipF_line]
      have hs := skipF_le false (l.drop n)
      split
      · rename_i hlt
        rw [List.drop_append_of_le_length (by omega)]
        rw [toksU_line m q (by simp only [List.length_drop] at *; omega) (by intro e; have := congrArg List.length e; simp only [List.length_drop, List.length_nil] at this hlt; omega)]
        split
        · rfl
        · congr 2
          simp only [List.length_drop] at *
          omega
      · rename_i hge
        have e : skipF false (l.drop n) = (l.drop n).length := by omega
        rw [e, List.drop_length]
        have e2 : (l.drop n ++ 10 :: m).drop ((l.drop n).length + 1 + skipF false m) = m.drop (skipF false m) := by
          rw [Nat.add_assoc, List.drop_append, List.drop_eq_nil_of_le (by omega), List.nil_append, Nat.add_sub_cancel_left, Nat.add_comm 1, List.drop_succ_cons]
        rw [e2]
        show _ = toksU _ _ _
        congr 1
        simp only [List.length_drop] at *
        omega
def sh (d : Nat) (t : Tok) : Tok := ⟨t.kind, t.text, t.pos + d⟩
theorem tokenF_sh (l : List UInt8) (at_ : Int) (d : Nat) : tokenF l (at_ + d) = (tokenF l at_).map fun x => (sh d x.1, x.2) := by
  cases l with
  | nil => rfl
  | cons c r =>
    unfold tokenF
    dsimp only
    split
    · split <;> rfl
    · split
      · split <;> rfl
      · split <;> rfl
theorem toksF_sh (d : Nat) (acc0 : List Tok) : ∀ (k : Nat) {at_ : Nat} {l : List UInt8} {acc : List Tok}, toksF k (at_ + d) l (acc0 ++ acc.map (sh d)) = (match toksF k at_ l acc with | .error p => .error (p + d) | .ok r => .ok (acc0 ++ r.map (sh d)))
  | 0, at_, l, acc => rfl
  | k + 1, at_, [], acc => rfl
  | k + 1, at_, c :: r, acc => by
    have hs := tokenF_sh (c :: r) at_ d
    cases hT : tokenF (c :: r) at_ with
    | none =>
      rw [hT] at hs
      rw [toksF_none (by simp) hT, toksF_none (by simp) (by rw [Int.natCast_add]; exact hs)]
    | some q =>
      obtain ⟨t, n⟩ := q
      rw [hT] at hs
      have hs' : tokenF (c :: r) ((at_ + d : Nat) : Int) = some (sh d t, n) := by rw [Int.natCast_add]; exact hs
      rw [toksF_some hT, toksF_some hs', ← toksF_sh d acc0 k, List.map_append, List.append_assoc]
      congr 1
      omega
theorem toksU_sh {at_ d : Nat} {l : List UInt8} (acc0 : List Tok) : toksU (at_ + d) l acc0 = (match toksU at_ l [] with | .error p => .error (p + d) | .ok r => .ok (acc0 ++ r.map (sh d))) := by
  have h := toksF_sh d acc0 (l.length + 1) (at_ := at_) (l := l) (acc := [])
  rw [List.map_nil, List.append_nil] at h
  exact h
/-- A text, a line's end, the text. -/
def twice (s : ByteArray) : ByteArray := s ++ ⟨#[10]⟩ ++ s
theorem bsl_append (a b : ByteArray) : bsl (a ++ b) = bsl a ++ bsl b := by simp [bsl]
theorem bsl_twice (s : ByteArray) : bsl (twice s) = bsl s ++ 10 :: bsl s := by
  unfold twice
  rw [bsl_append, bsl_append, List.append_assoc]
  rfl
theorem size_twice (s : ByteArray) : (twice s).size = 2 * s.size + 1 := by
  rw [← size_data, bsl_twice, List.length_append, List.length_cons, size_data]; omega
theorem lexE_eq (s : ByteArray) (h : s.size ≤ 2000) : lexE s = (match toksU (skipF false (bsl s)) ((bsl s).drop (skipF false (bsl s))) [] with | .error p => .error (11, (p : Int)) | .ok l => .ok l) := by
  unfold lexE
  rw [if_neg (by omega)]
  unfold toksU
  rw [toksF_fuel (k' := ((bsl s).drop (skipF false (bsl s))).length + 1) (by simp only [List.length_drop]; omega) (by omega)]
  generalize toksF _ _ _ [] = R
  cases R <;> rfl
theorem lexE_twice {s : ByteArray} (hs : s.size ≤ 900) : lexE (twice s) = (match lexE s with | .error e => .error e | .ok l => .ok (l ++ l.map (sh (s.size + 1)))) := by
  have hz := size_data s
  have hl := skipF_le false (bsl s)
  rw [lexE_eq (twice s) (by rw [size_twice]; omega), lexE_eq s (by omega), bsl_twice, skipF_line]
  generalize bsl s = L at *
  have key : ∀ acc, toksU (L.length + 1 + skipF false L) (L.drop (skipF false L)) acc = (match toksU (skipF false L) (L.drop (skipF false L)) [] with | .error p => .error (p + (s.size + 1)) | .ok r => .ok (acc ++ r.map (sh (s.size + 1)))) := fun acc => by
    rw [show L.length + 1 + skipF false L = skipF false L + (s.size + 1) by omega]
    exact toksU_sh acc
  by_cases hlt : skipF false L < L.length
  · rw [if_pos hlt, List.drop_append_of_le_length hl, toksU_line L (L.drop (skipF false L)).length (Nat.le_refl _) (by intro e; have := congrArg List.length e; simp only [List.length_drop, List.length_nil] at this; omega)]
    rw [show skipF false L + (L.drop (skipF false L)).length + 1 + skipF false L = L.length + 1 + skipF false L by simp only [List.length_drop]; omega]
    cases hT : toksU (skipF false L) (L.drop (skipF false L)) [] with
    | error p => rfl
    | ok r =>
      dsimp only
      rw [key, hT]
  · rw [if_neg hlt]
    have e : skipF false L = L.length := by omega
    have e2 : (L ++ 10 :: L).drop (L.length + 1 + skipF false L) = L.drop (skipF false L) := by
      rw [Nat.add_assoc, List.drop_append, List.drop_eq_nil_of_le (by omega), List.nil_append, Nat.add_sub_cancel_left, Nat.add_comm 1, List.drop_succ_cons]
    rw [e2, key, e, List.drop_length]
    rfl
end Go.Proofs.Ytphmmppmhphgeaa
