/- Plain facts for the document's answer on alternatives: place by place. -/
import Derived.Test.YtphmmppmhphgeaaP5
set_option linter.unusedVariables false
set_option linter.unusedSimpArgs false
namespace Go.Proofs.Ytphmmppmhphgeaa
open Go.RowKit Go.Proofs.YtphmmppmhphgeaaW.PrintWords

/-- Where a place is. -/
def posAt (en : Int) (l : List Tok) (i : Nat) : Int := match l[i]? with | some t => t.pos | none => en
section
variable {en : Int} {l : List Tok}
theorem posAt_in {i : Nat} (hi : i < l.length) : posAt en l i = l[i].pos := by unfold posAt; rw [List.getElem?_eq_getElem hi]
theorem posAt_out {i : Nat} (hi : l.length ≤ i) : posAt en l i = en := by unfold posAt; rw [List.getElem?_eq_none hi]
theorem defF_at_bad {i : Nat} {out : List Alt} (h : ∀ hi : i < l.length, ¬ l[i].kind = 1) : defF en (l.drop i) out = .error (12, posAt en l i) := by
  rcases Nat.lt_or_ge i l.length with hi | hi
  · rw [List.drop_eq_getElem_cons hi, posAt_in hi]
    cases hd : l.drop (i + 1) with
    | nil => rw [defF_one, if_neg (h hi)]
    | cons t2 r2 => rw [defF_two, if_neg (h hi)]
  · rw [List.drop_eq_nil_of_le hi, posAt_out hi]; rfl
theorem defF_at_bad2 {i : Nat} {out : List Alt} (hi : i < l.length) (hk : l[i].kind = 1) (h : ∀ hi : i + 1 < l.length, ¬ l[i + 1].kind = 3) : defF en (l.drop i) out = .error (12, posAt en l (i + 1)) := by
  rw [List.drop_eq_getElem_cons hi]
  rcases Nat.lt_or_ge (i + 1) l.length with hi2 | hi2
  · rw [List.drop_eq_getElem_cons hi2, defF_two, if_pos hk, if_neg (h hi2), posAt_in hi2]
  · rw [List.drop_eq_nil_of_le hi2, defF_one, if_pos hk, posAt_out hi2]
theorem defF_at {i : Nat} {out : List Alt} (hi : i < l.length) (hk : l[i].kind = 1) (hi2 : i + 1 < l.length) (hk2 : l[i + 1].kind = 3) : defF en (l.drop i) out = altsF en l[i] ((l.drop (i + 2)).length + 1) (l.drop (i + 2)) out := by
  rw [List.drop_eq_getElem_cons hi, List.drop_eq_getElem_cons hi2, defF_two, if_pos hk, if_pos hk2]
theorem altF_at {i : Nat} {acc : List Tok} (hi : i < l.length) (hk : l[i].kind = 1 ∨ l[i].kind = 2) : altF en (l.drop i) acc = altF en (l.drop (i + 1)) (acc ++ [l[i]]) := by
  rw [List.drop_eq_getElem_cons hi, altF, if_pos hk]
theorem altF_at_end {i : Nat} {acc : List Tok} (hi : i < l.length) (hk : l[i].kind = 4 ∨ l[i].kind = 5) : altF en (l.drop i) acc = .ok (acc, l[i].kind == 4, l.drop (i + 1)) := by
  rw [List.drop_eq_getElem_cons hi, altF, if_neg (by omega), if_pos hk]
theorem altF_at_bad {i : Nat} {acc : List Tok} (h : ∀ hi : i < l.length, ¬ (l[i].kind = 1 ∨ l[i].kind = 2) ∧ ¬ (l[i].kind = 4 ∨ l[i].kind = 5)) : altF en (l.drop i) acc = .error (12, posAt en l i) := by
  rcases Nat.lt_or_ge i l.length with hi | hi
  · rw [List.drop_eq_getElem_cons hi, altF, if_neg (h hi).1, if_neg (h hi).2, posAt_in hi]
  · rw [List.drop_eq_nil_of_le hi, posAt_out hi]; rfl
/-- What a definition that begins here says of the whole. -/
structure JR (en : Int) (l : List Tok) (RES : Except (Int × Int) (List Alt)) (i : Nat) (out : List Alt) : Prop where
  bad : (i < l.length ∨ out = []) → ∀ e, defF en (l.drop i) out = .error e → RES = .error e
  good : (i < l.length ∨ out = []) → ∀ r o, defF en (l.drop i) out = .ok (r, o) → ∃ k, r.length ≤ k ∧ restF en k r o = RES
  fin : l.length ≤ i → out ≠ [] → RES = .ok out
theorem JR.start : JR en l (readF en l) 0 [] := by
  refine ⟨fun _ e h => ?_, fun _ r o h => ?_, fun _ h => absurd rfl h⟩
  · rw [List.drop_zero] at h; unfold readF; rw [h]
  · rw [List.drop_zero] at h; exact ⟨r.length, Nat.le_refl _, by unfold readF; rw [h]⟩
theorem JR.next {RES : Except (Int × Int) (List Alt)} {i k : Nat} {out : List Alt} (ho : out ≠ []) (hk : (l.drop i).length ≤ k) (h : restF en k (l.drop i) out = RES) : JR en l RES i out := by
  refine ⟨fun hc e he => ?_, fun hc r o he => ?_, fun hi _ => ?_⟩
  · have hi : i < l.length := hc.resolve_right ho
    have hd := List.drop_eq_getElem_cons hi
    rw [hd] at h hk he
    cases k with
    | zero => simp at hk; omega
    | succ k => rw [← h, restF, he]
  · have hi : i < l.length := hc.resolve_right ho
    have hd := List.drop_eq_getElem_cons hi
    rw [hd] at h hk he
    cases k with
    | zero => simp at hk; omega
    | succ k =>
      rw [restF, he] at h
      have := (defF_le he).1
      rw [List.length_cons] at this hk
      exact ⟨k, by omega, h⟩
  · rw [List.drop_eq_nil_of_le hi] at h
    rw [← h]
    cases k <;> rfl
/-- What the alternatives that begin here say of the definition. -/
structure JA (en : Int) (l : List Tok) (D : Except (Int × Int) (List Tok × List Alt)) (left : Tok) (i : Nat) (out : List Alt) (more : Bool) : Prop where
  go : more = true → ∃ k, (l.drop i).length < k ∧ altsF en left k (l.drop i) out = D
  stop : more = false → D = .ok (l.drop i, out) ∧ out ≠ []
theorem JA.bad {D : Except (Int × Int) (List Tok × List Alt)} {left : Tok} {i : Nat} {out : List Alt} {e : Int × Int} (h : JA en l D left i out true) (ha : altF en (l.drop i) [] = .error e) : D = .error e := by
  obtain ⟨k, hk, hd⟩ := h.go rfl
  cases k with
  | zero => omega
  | succ k => rw [← hd, altsF, ha]
theorem JA.large {D : Except (Int × Int) (List Tok × List Alt)} {left : Tok} {i : Nat} {out : List Alt} {right r : List Tok} {more : Bool} (h : JA en l D left i out true) (ha : altF en (l.drop i) [] = .ok (right, more, r)) (hb : 60 ≤ out.length ∨ 8 < right.length) : D = .error (14, left.pos) := by
  obtain ⟨k, hk, hd⟩ := h.go rfl
  cases k with
  | zero => omega
  | succ k =>
    rw [← hd, altsF, ha]
    dsimp only
    rw [if_pos hb]
theorem JA.next {D : Except (Int × Int) (List Tok × List Alt)} {left : Tok} {i j : Nat} {out : List Alt} {right : List Tok} {more : Bool} (h : JA en l D left i out true) (ha : altF en (l.drop i) [] = .ok (right, more, l.drop j)) (hb : ¬ (60 ≤ out.length ∨ 8 < right.length)) : JA en l D left j (out ++ [⟨left, right⟩]) more := by
  obtain ⟨k, hk, hd⟩ := h.go rfl
  cases k with
  | zero => omega
  | succ k =>
    rw [altsF, ha] at hd
    dsimp only at hd
    rw [if_neg hb] at hd
    have hlt := altF_lt ha
    refine ⟨fun hm => ?_, fun hm => ?_⟩
    · rw [if_pos hm] at hd
      exact ⟨k, by omega, hd⟩
    · rw [if_neg (by rw [hm]; decide)] at hd
      exact ⟨hd.symm, by simp⟩
end
end Go.Proofs.Ytphmmppmhphgeaa
