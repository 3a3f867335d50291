/- Plain facts: what a good grammar holds; where the faults of a text lie; what tokens and alternatives hold. -/
import Derived.Test.YtphmmppmhphgeaaC7
set_option linter.unusedVariables false
set_option linter.unusedSimpArgs false
namespace Go.Proofs.Ytphmmppmhphgeaa
open Go.RowKit Go.Proofs.YtphmmppmhphgeaaW.PrintWords

theorem distF_nodup {may : ByteArray → Bool} : ∀ {l seen : List ByteArray}, distF may seen l = true → l.Nodup ∧ ∀ s ∈ l, s ∉ seen := by
  intro l
  induction l with
  | nil => intro seen _; exact ⟨List.nodup_nil, fun s hs => by cases hs⟩
  | cons a l ih =>
    intro seen h
    rw [distF] at h
    split at h
    · cases h
    · split at h
      · cases h
      · rename_i hn
        obtain ⟨h1, h2⟩ := ih h
        have ha : a ∉ seen := by
          intro hm
          apply hn
          rw [List.any_eq_true]
          exact ⟨a, hm, by simp⟩
        refine ⟨List.nodup_cons.2 ⟨fun hm => h2 a hm (by simp), h1⟩, fun s hs => ?_⟩
        rcases List.mem_cons.1 hs with rfl | hs
        · exact ha
        · intro hm
          exact h2 s hs (List.mem_append_left _ hm)
theorem good_facts {g : Gram} (h : goodF g = true) : g.names.length ≤ 40 ∧ g.terms.length ≤ 40 ∧ g.names.Nodup ∧ g.terms.Nodup := by
  unfold goodF namesOk termsOk at h
  simp only [Bool.and_eq_true, decide_eq_true_eq] at h
  obtain ⟨⟨⟨⟨⟨⟨h1, h2⟩, h3⟩, ⟨h4, h5⟩, h6⟩, _⟩, _⟩, _⟩ := h
  exact ⟨by omega, by omega, (distF_nodup h1).1, (distF_nodup h4).1⟩
theorem name_in {g : Gram} {z : Int} (h0 : 0 ≤ z) (h1 : z < g.terms.length + g.names.length) : ∃ s, nameF g z = some s := by
  unfold nameF
  rw [if_neg (by omega)]
  by_cases ht : z < g.terms.length
  · rw [if_pos ht]
    exact ⟨_, List.getElem?_eq_getElem (by omega)⟩
  · rw [if_neg ht]
    exact ⟨_, List.getElem?_eq_getElem (by omega)⟩
theorem name_out {g : Gram} {z : Int} (h : z < 0 ∨ (g.terms.length : Int) + g.names.length ≤ z) : nameF g z = none ∧ termF g z = false := by
  unfold nameF termF
  rcases h with h | h
  · rw [if_pos h]
    exact ⟨rfl, decide_eq_false (by omega)⟩
  · rw [if_neg (by omega), if_neg (by omega)]
    exact ⟨List.getElem?_eq_none (by omega), decide_eq_false (by omega)⟩
theorem nodup_same {l : List ByteArray} {i j : Nat} {s : ByteArray} (h : l.Nodup) (hi : l[i]? = some s) (hj : l[j]? = some s) : i = j := by
  obtain ⟨h1, e1⟩ := List.getElem?_eq_some_iff.1 hi
  obtain ⟨h2, e2⟩ := List.getElem?_eq_some_iff.1 hj
  have hp := List.pairwise_iff_getElem.1 h
  rcases Nat.lt_trichotomy i j with hlt | heq | hlt
  · exact absurd (e1.trans e2.symm) (hp i j h1 h2 hlt)
  · exact heq
  · exact absurd (e2.trans e1.symm) (hp j i h2 h1 hlt)
theorem name_own {g : Gram} (h : goodF g = true) {x y : Int} {s : ByteArray} (hx : nameF g x = some s) (hy : nameF g y = some s) (ht : termF g x = termF g y) : x = y := by
  obtain ⟨_, _, hn, htn⟩ := good_facts h
  by_cases x0 : x < 0
  · rw [(name_out (Or.inl x0)).1] at hx; cases hx
  by_cases y0 : y < 0
  · rw [(name_out (Or.inl y0)).1] at hy; cases hy
  unfold nameF at hx hy
  rw [if_neg x0] at hx
  rw [if_neg y0] at hy
  by_cases x1 : x < g.terms.length
  · have t1 : termF g x = true := decide_eq_true ⟨by omega, x1⟩
    rw [t1] at ht
    have t2 := of_decide_eq_true ht.symm
    rw [if_pos x1] at hx
    rw [if_pos t2.2] at hy
    have := nodup_same htn hx hy
    omega
  · have t1 : termF g x = false := decide_eq_false (by omega)
    rw [t1] at ht
    have t2 := of_decide_eq_false ht.symm
    rw [if_neg x1] at hx
    rw [if_neg (by omega)] at hy
    have := nodup_same hn hx hy
    omega


/-! ### where faults lie, what tokens are -/
def Pin (n : Nat) (p : Int) : Prop := 0 ≤ p ∧ p ≤ n
/-- A token of a text of so many bytes. -/
structure TP (n : Nat) (t : Tok) : Prop where
  pin : Pin n t.pos
  kinds : 1 ≤ t.kind ∧ t.kind ≤ 5
  name : t.kind = 1 → nameOk t.text = true
  term : t.kind = 2 → termOk t.text = true
theorem signF_kinds (c : Int) (h : signF c ≠ 0) : 3 ≤ signF c ∧ signF c ≤ 5 := by
  unfold signF at *
  split
  · omega
  · split
    · omega
    · split
      · omega
      · rename_i h1 h2 h3; rw [if_neg h1, if_neg h2, if_neg h3] at h; exact absurd rfl h
theorem tokenF_tp {N : Nat} {l : List UInt8} {at_ : Nat} {t : Tok} {n : Nat} (hN : at_ ≤ N) (h : tokenF l at_ = some (t, n)) : TP N t := by
  cases l with
  | nil => cases h
  | cons c r =>
    have hp : Pin N ((at_ : Nat) : Int) := ⟨by omega, by omega⟩
    unfold tokenF at h
    dsimp only at h
    split at h
    · split at h
      · rename_i hn
        injection h with h; injection h with h _; subst h
        exact ⟨hp, ⟨by dsimp only; omega, by dsimp only; omega⟩, fun _ => hn, fun h => by dsimp only at h; omega⟩
      · cases h
    · split at h
      · split at h
        · rename_i hn
          injection h with h; injection h with h _; subst h
          exact ⟨hp, ⟨by dsimp only; omega, by dsimp only; omega⟩, fun h => by dsimp only at h; omega, fun _ => hn.1⟩
        · cases h
      · split at h
        · cases h
        · rename_i hs
          have hk := signF_kinds _ hs
          injection h with h; injection h with h _; subst h
          exact ⟨hp, by dsimp only; omega, fun h => by dsimp only at h; omega, fun h => by dsimp only at h; omega⟩
theorem toksF_tp {N : Nat} : ∀ {k at_ : Nat} {l : List UInt8} {acc : List Tok}, at_ + l.length ≤ N → (∀ t ∈ acc, TP N t) →
    (∀ p, toksF k at_ l acc = .error p → p ≤ N) ∧ (∀ r, toksF k at_ l acc = .ok r → ∀ t ∈ r, TP N t) := by
  intro k
  induction k with
  | zero => intro at_ l acc hl ha; exact ⟨fun p h => by injection h with h; omega, fun r h => by cases h⟩
  | succ k ih =>
    intro at_ l acc hl ha
    cases l with
    | nil => exact ⟨fun p h => (by cases h), fun r h => by injection h with h; subst h; exact ha⟩
    | cons c t =>
      cases hT : tokenF (c :: t) at_ with
      | none => rw [toksF_none (by simp) hT]; exact ⟨fun p h => by injection h with h; omega, fun r h => by cases h⟩
      | some q =>
        obtain ⟨x, n⟩ := q
        rw [toksF_some hT]
        have h2 := tokenF_bound hT
        have h3 := skipF_le false ((c :: t).drop n)
        rw [List.length_drop] at h3
        refine ih (by simp only [List.length_drop]; omega) (fun y hy => ?_)
        rcases List.mem_append.1 hy with hy | hy
        · exact ha y hy
        · rw [List.mem_singleton.1 hy]; exact tokenF_tp (by omega) hT
theorem lexE_tp {s : ByteArray} : (∀ a p, lexE s = .error (a, p) → Pin s.size p) ∧ (∀ l, lexE s = .ok l → ∀ t ∈ l, TP s.size t) := by
  generalize hR : lexE s = R
  unfold lexE at hR
  split at hR
  · subst hR; exact ⟨fun a p h => by injection h with h; injection h with _ h; subst h; exact ⟨by omega, by omega⟩, fun l h => by cases h⟩
  · have h1 := skipF_le false (bsl s)
    have h2 := size_data s
    have h3 := toksF_tp (N := s.size) (k := (bsl s).length + 1) (at_ := skipF false (bsl s)) (l := (bsl s).drop (skipF false (bsl s))) (acc := []) (by rw [List.length_drop]; omega) (fun t ht => by cases ht)
    split at hR
    · rename_i p hp
      subst hR
      exact ⟨fun a q h => by injection h with h; injection h with _ h; subst h; have := h3.1 _ hp; exact ⟨by omega, by omega⟩, fun l h => by cases h⟩
    · rename_i l hl
      subst hR
      exact ⟨fun a q h => (by cases h), fun l' h => by injection h with h; subst h; exact h3.2 _ hl⟩

/-- An alternative of a text of so many bytes. -/
structure AP (n : Nat) (a : Alt) : Prop where
  left : TP n a.left
  leftKind : a.left.kind = 1
  right : ∀ t ∈ a.right, TP n t ∧ (t.kind = 1 ∨ t.kind = 2)
section
variable {N : Nat} {en : Int}
theorem altF_tp (hen : Pin N en) : ∀ {l acc : List Tok}, (∀ t ∈ l, TP N t) → (∀ t ∈ acc, TP N t ∧ (t.kind = 1 ∨ t.kind = 2)) →
    (∀ a p, altF en l acc = .error (a, p) → Pin N p) ∧ (∀ right more r, altF en l acc = .ok (right, more, r) → (∀ t ∈ right, TP N t ∧ (t.kind = 1 ∨ t.kind = 2)) ∧ (∀ t ∈ r, TP N t)) := by
  intro l
  induction l with
  | nil => intro acc _ _; exact ⟨fun a p h => by injection h with h; injection h with _ h; subst h; exact hen, fun _ _ _ h => by cases h⟩
  | cons t l ih =>
    intro acc hl ha
    generalize hR : altF en (t :: l) acc = R
    unfold altF at hR
    have ht := hl t List.mem_cons_self
    have hl' : ∀ t ∈ l, TP N t := fun x hx => hl x (List.mem_cons_of_mem _ hx)
    split at hR
    · rename_i hk
      subst hR
      exact ih hl' (fun x hx => by
        rcases List.mem_append.1 hx with hx | hx
        · exact ha x hx
        · rw [List.mem_singleton.1 hx]; exact ⟨ht, hk⟩)
    · split at hR <;> subst hR
      · exact ⟨fun a p h => (by cases h), fun right more r h => by injection h with h; injection h with h1 h; injection h with h2 h3; subst h1 h3; exact ⟨ha, hl'⟩⟩
      · exact ⟨fun a p h => by injection h with h; injection h with _ h; subst h; exact ht.pin, fun _ _ _ h => by cases h⟩
theorem altsF_tp (hen : Pin N en) {left : Tok} (hleft : TP N left) (hk : left.kind = 1) : ∀ {k : Nat} {l : List Tok} {out : List Alt}, (∀ t ∈ l, TP N t) → (∀ a ∈ out, AP N a) →
    (∀ a p, altsF en left k l out = .error (a, p) → Pin N p) ∧ (∀ r out', altsF en left k l out = .ok (r, out') → (∀ t ∈ r, TP N t) ∧ (∀ a ∈ out', AP N a) ∧ out' ≠ []) := by
  intro k
  induction k with
  | zero => intro l out _ _; exact ⟨fun a p h => by injection h with h; injection h with _ h; subst h; exact ⟨by omega, by omega⟩, fun _ _ h => by cases h⟩
  | succ k ih =>
    intro l out hl ho
    generalize hR : altsF en left (k + 1) l out = R
    unfold altsF at hR
    have hA := altF_tp hen (l := l) (acc := []) hl (fun t ht => by cases ht)
    split at hR
    · rename_i e he
      subst hR
      exact ⟨fun a p h => by injection h with h; subst h; exact hA.1 _ _ he, fun _ _ h => by cases h⟩
    · rename_i right more r ha
      have h2 := hA.2 _ _ _ ha
      split at hR
      · subst hR
        exact ⟨fun a p h => by injection h with h; injection h with _ h; subst h; exact hleft.pin, fun _ _ h => by cases h⟩
      · have ho' : ∀ a ∈ out ++ [(⟨left, right⟩ : Alt)], AP N a := fun a ha' => by
          rcases List.mem_append.1 ha' with hx | hx
          · exact ho a hx
          · rw [List.mem_singleton.1 hx]; exact ⟨hleft, hk, h2.1⟩
        split at hR <;> subst hR
        · exact ih h2.2 ho'
        · exact ⟨fun a p h => (by cases h), fun r' out' h => by injection h with h; injection h with h1 h3; subst h1 h3; exact ⟨h2.2, ho', by simp⟩⟩
theorem defF_one (t : Tok) (out : List Alt) : defF en [t] out = if t.kind = 1 then .error (12, en) else .error (12, t.pos) := rfl
theorem defF_two (t t2 : Tok) (r2 : List Tok) (out : List Alt) : defF en (t :: t2 :: r2) out = if t.kind = 1 then (if t2.kind = 3 then altsF en t (r2.length + 1) r2 out else .error (12, t2.pos)) else .error (12, t.pos) := rfl
theorem defF_tp (hen : Pin N en) {l : List Tok} {out : List Alt} (hl : ∀ t ∈ l, TP N t) (ho : ∀ a ∈ out, AP N a) :
    (∀ a p, defF en l out = .error (a, p) → Pin N p) ∧ (∀ r out', defF en l out = .ok (r, out') → (∀ t ∈ r, TP N t) ∧ (∀ a ∈ out', AP N a) ∧ out' ≠ []) := by
  cases l with
  | nil => exact ⟨fun a p h => by injection h with h; injection h with _ h; subst h; exact hen, fun _ _ h => by cases h⟩
  | cons t r =>
    have ht := hl t List.mem_cons_self
    cases r with
    | nil =>
      rw [defF_one]
      split
      · exact ⟨fun a p h => by injection h with h; injection h with _ h; subst h; exact hen, fun _ _ h => by cases h⟩
      · exact ⟨fun a p h => by injection h with h; injection h with _ h; subst h; exact ht.pin, fun _ _ h => by cases h⟩
    | cons t2 r2 =>
      have ht2 := hl t2 (List.mem_cons_of_mem _ List.mem_cons_self)
      rw [defF_two]
      split
      · rename_i hk
        split
        · exact altsF_tp hen ht hk (fun x hx => hl x (List.mem_cons_of_mem _ (List.mem_cons_of_mem _ hx))) ho
        · exact ⟨fun a p h => by injection h with h; injection h with _ h; subst h; exact ht2.pin, fun _ _ h => by cases h⟩
      · exact ⟨fun a p h => by injection h with h; injection h with _ h; subst h; exact ht.pin, fun _ _ h => by cases h⟩
theorem restF_tp (hen : Pin N en) : ∀ {k : Nat} {l : List Tok} {out : List Alt}, (∀ t ∈ l, TP N t) → (∀ a ∈ out, AP N a) → out ≠ [] →
    (∀ a p, restF en k l out = .error (a, p) → Pin N p) ∧ (∀ out', restF en k l out = .ok out' → (∀ a ∈ out', AP N a) ∧ out' ≠ []) := by
  intro k
  induction k with
  | zero =>
    intro l out hl ho hne
    cases l with
    | nil => exact ⟨fun a p h => (by cases h), fun out' h => by injection h with h; subst h; exact ⟨ho, hne⟩⟩
    | cons t r => exact ⟨fun a p h => by injection h with h; injection h with _ h; subst h; exact ⟨by omega, by omega⟩, fun _ h => by cases h⟩
  | succ k ih =>
    intro l out hl ho hne
    cases l with
    | nil => exact ⟨fun a p h => (by cases h), fun out' h => by injection h with h; subst h; exact ⟨ho, hne⟩⟩
    | cons t r =>
      generalize hR : restF en (k + 1) (t :: r) out = R
      unfold restF at hR
      have hD := defF_tp hen hl ho
      split at hR
      · rename_i e he
        subst hR
        exact ⟨fun a p h => by injection h with h; subst h; exact hD.1 _ _ he, fun _ h => by cases h⟩
      · rename_i r' out' hd
        have h2 := hD.2 _ _ hd
        subst hR
        exact ih h2.1 h2.2.1 h2.2.2
theorem readF_tp (hen : Pin N en) {l : List Tok} (hl : ∀ t ∈ l, TP N t) :
    (∀ a p, readF en l = .error (a, p) → Pin N p) ∧ (∀ out, readF en l = .ok out → (∀ a ∈ out, AP N a) ∧ out ≠ []) := by
  generalize hR : readF en l = R
  unfold readF at hR
  have hD := defF_tp hen hl (out := []) (fun a ha => by cases ha)
  split at hR
  · rename_i e he
    subst hR
    exact ⟨fun a p h => by injection h with h; subst h; exact hD.1 _ _ he, fun _ h => by cases h⟩
  · rename_i r out hd
    have h2 := hD.2 _ _ hd
    subst hR
    exact restF_tp hen h2.1 h2.2.1 h2.2.2
end
theorem rightF_err {ts ns : List ByteArray} : ∀ {l : List Tok} {acc : List Int} {a p : Int}, rightF ts ns l acc = .error (a, p) → a = 13 ∧ ∃ t ∈ l, t.pos = p := by
  intro l
  induction l with
  | nil => intro acc a p h; cases h
  | cons t l ih =>
    intro acc a p h
    unfold rightF at h
    split at h
    · rename_i e he
      injection h with h
      subst h
      unfold symF at he
      split at he
      · cases he
      · split at he
        · injection he with he; injection he with h1 h2; subst h1 h2; exact ⟨rfl, t, List.mem_cons_self, rfl⟩
        · cases he
    · obtain ⟨h1, x, hx, h2⟩ := ih h
      exact ⟨h1, x, List.mem_cons_of_mem _ hx, h2⟩
theorem rulesF_err {ts ns : List ByteArray} : ∀ {l : List Alt} {acc : List Rule} {a p : Int}, rulesF ts ns l acc = .error (a, p) → a = 13 ∧ ∃ x ∈ l, ∃ t ∈ x.right, t.pos = p := by
  intro l
  induction l with
  | nil => intro acc a p h; cases h
  | cons y l ih =>
    intro acc a p h
    unfold rulesF at h
    split at h
    · rename_i e he
      injection h with h
      subst h
      unfold numF at he
      split at he
      · rename_i e2 he2
        injection he with he
        subst he
        obtain ⟨h1, t, ht, h2⟩ := rightF_err he2
        exact ⟨h1, y, List.mem_cons_self, t, ht, h2⟩
      · cases he
    · obtain ⟨h1, x, hx, h2⟩ := ih h
      exact ⟨h1, x, List.mem_cons_of_mem _ hx, h2⟩
/-- The fault of a text lies within it, and is one. -/
theorem ofF_err {s : ByteArray} {a p : Int} (h : ofF s = .error (a, p)) : a ≠ 0 ∧ 0 ≤ p ∧ p ≤ s.size := by
  unfold ofF at h
  split at h
  · rename_i e he
    injection h with h; subst h
    exact ⟨lexE_err he, lexE_tp.1 _ _ he⟩
  · rename_i l hl
    have hp := lexE_tp.2 _ hl
    have hR := readF_tp (N := s.size) (en := (s.size : Int)) ⟨by omega, by omega⟩ hp
    split at h
    · rename_i e he
      injection h with h; subst h
      exact ⟨readF_err he, hR.1 _ _ he⟩
    · rename_i alts hal
      have ha := (hR.2 _ hal).1
      unfold grammF at h
      split at h
      · rename_i e he
        injection h with h; subst h
        obtain ⟨h1, x, hx, t, ht, h2⟩ := rulesF_err he
        subst h2
        exact ⟨by omega, ((ha x hx).right t ht).1.pin⟩
      · split at h
        · injection h with h; injection h with h1 h2; subst h1 h2; exact ⟨by decide, by omega, by omega⟩
        · cases h
/-- What lies behind a text's grammar. -/
theorem ofF_ok {s : ByteArray} {g : Gram} (h : ofF s = .ok g) : ∃ l alts, lexE s = .ok l ∧ readF s.size l = .ok alts ∧ grammF alts = .ok g ∧ (∀ a ∈ alts, AP s.size a) ∧ alts ≠ [] ∧ Short alts ∧ alts.length ≤ 60 := by
  unfold ofF at h
  split at h
  · cases h
  · rename_i l hl
    split at h
    · cases h
    · rename_i alts hal
      have hp := lexE_tp.2 _ hl
      have hR := (readF_tp (N := s.size) (en := (s.size : Int)) ⟨by omega, by omega⟩ hp).2 _ hal
      have hS := readF_short hal
      exact ⟨l, alts, hl, hal, h, hR.1, hR.2, hS.1, hS.2⟩
end Go.Proofs.Ytphmmppmhphgeaa
