/- The plain law of GrammarMay: alternative by alternative, its rule is the next one, or one that came. -/
import Derived.Test.YtphmmppmhphgeaaP2
set_option linter.unusedVariables false
set_option linter.unusedSimpArgs false
namespace Go.Proofs.Ytphmmppmhphgeaa
open Go.RowKit Go.Proofs.YtphmmppmhphgeaaW.PrintWords

def sameR (g : Gram) : List Int → List Tok → Bool
  | s :: l, t :: r => decide (nameF g s = some t.text) && (termF g s == decide (t.kind = 2)) && sameR g l r
  | _, _ => true
/-- Is a rule that alternative? -/
def isF (g : Gram) (x : Rule) (left : ByteArray) (right : List Tok) : Bool :=
  decide (nameF g x.left = some left) && !termF g x.left && decide (x.right.length = right.length) && sameR g x.right right
/-- What the law goes through, token by token. -/
def mayL (g : Gram) : List Tok → Nat → ByteArray → List Tok → Bool
  | [], rule, _, _ => rule == g.rules.length
  | t :: r, rule, left, right =>
    if t.kind = 3 then mayL g r rule left right
    else if t.kind = 1 ∧ (r.head?.map fun x => x.kind) = some 3 then mayL g r rule t.text right
    else if t.kind = 4 ∨ t.kind = 5 then
      if ((g.rules.take rule).any fun x => isF g x left right) = true then mayL g r rule left []
      else match g.rules[rule]? with
        | none => false
        | some x => if isF g x left right = true then mayL g r (rule + 1) left [] else false
    else mayL g r rule left (right ++ [t])
theorem mayL_cons (g : Gram) (t : Tok) (r : List Tok) (rule : Nat) (left : ByteArray) (right : List Tok) : mayL g (t :: r) rule left right =
    (if t.kind = 3 then mayL g r rule left right
    else if t.kind = 1 ∧ (r.head?.map fun x => x.kind) = some 3 then mayL g r rule t.text right
    else if t.kind = 4 ∨ t.kind = 5 then
      if ((g.rules.take rule).any fun x => isF g x left right) = true then mayL g r rule left []
      else match g.rules[rule]? with
        | none => false
        | some x => if isF g x left right = true then mayL g r (rule + 1) left [] else false
    else mayL g r rule left (right ++ [t])) := by rw [mayL]
def foldA (g : Gram) : List Alt → Nat → Option Nat
  | [], n => some n
  | a :: l, n =>
    if ((g.rules.take n).any fun x => isF g x a.left.text a.right) = true then foldA g l n
    else match g.rules[n]? with
      | none => none
      | some x => if isF g x a.left.text a.right = true then foldA g l (n + 1) else none
theorem foldA_append (g : Gram) : ∀ (l m : List Alt) (n : Nat), foldA g (l ++ m) n = (foldA g l n).bind (foldA g m)
  | [], m, n => rfl
  | a :: l, m, n => by
    rw [List.cons_append]
    unfold foldA
    split
    · exact foldA_append g l m n
    · split
      · rfl
      · split
        · exact foldA_append g l m _
        · rfl
section
variable {en : Int} {g : Gram}
theorem mayL_alt {lt : Tok} : ∀ {l acc right r : List Tok} {more : Bool}, altF en l acc = .ok (right, more, r) → ∀ n, mayL g l n lt.text acc = (match foldA g [⟨lt, right⟩] n with | none => false | some n' => mayL g r n' lt.text [])
  | [], acc, right, r, more, h, n => by cases h
  | t :: l, acc, right, r, more, h, n => by
    unfold altF at h
    split at h
    · rename_i hk
      rw [mayL_cons, if_neg (by omega), if_neg, if_neg (by omega)]
      · exact mayL_alt h n
      · rintro ⟨_, h3⟩
        cases l with
        | nil => cases h3
        | cons t2 l =>
          simp only [List.head?_cons, Option.map_some, Option.some.injEq] at h3
          unfold altF at h
          rw [if_neg (by omega), if_neg (by omega)] at h
          cases h
    · rename_i hk
      split at h
      · rename_i hk2
        injection h with h
        injection h with h1 h
        injection h with h2 h3
        subst h1 h3
        rw [mayL_cons, foldA, if_neg (by omega), if_neg (by omega), if_pos hk2]
        dsimp only
        split
        · rfl
        · split
          · rfl
          · split
            · rfl
            · rfl
      · cases h
theorem mayL_alts {lt : Tok} : ∀ {k : Nat} {l r : List Tok} {out out' : List Alt}, altsF en lt k l out = .ok (r, out') → ∃ new, out' = out ++ new ∧ ∀ n, mayL g l n lt.text [] = (match foldA g new n with | none => false | some n' => mayL g r n' lt.text [])
  | 0, l, r, out, out', h => by cases h
  | k + 1, l, r, out, out', h => by
    unfold altsF at h
    split at h
    · cases h
    · rename_i right more r1 ha
      split at h
      · cases h
      · split at h
        · obtain ⟨new, e, hn⟩ := mayL_alts h
          refine ⟨⟨lt, right⟩ :: new, by rw [e, List.append_assoc]; rfl, fun n => ?_⟩
          rw [mayL_alt ha n, show (⟨lt, right⟩ : Alt) :: new = [⟨lt, right⟩] ++ new from rfl, foldA_append]
          cases foldA g [⟨lt, right⟩] n with
          | none => rfl
          | some n' => exact hn n'
        · injection h with h
          injection h with h1 h2
          subst h1 h2
          exact ⟨[⟨lt, right⟩], rfl, fun n => mayL_alt ha n⟩
theorem mayL_def {l r : List Tok} {out out' : List Alt} (h : defF en l out = .ok (r, out')) : ∃ new lt, out' = out ++ new ∧ ∀ n left, mayL g l n left [] = (match foldA g new n with | none => false | some n' => mayL g r n' lt [])  := by
  cases l with
  | nil => cases h
  | cons t r1 =>
    cases r1 with
    | nil => rw [defF_one] at h; split at h <;> cases h
    | cons t2 r2 =>
      rw [defF_two] at h
      split at h
      · rename_i hk
        split at h
        · rename_i hk2
          obtain ⟨new, e, hn⟩ := mayL_alts (g := g) h
          refine ⟨new, t.text, e, fun n left => ?_⟩
          rw [← hn n]
          rw [mayL_cons]
          rw [if_neg (by omega), if_pos ⟨hk, by simp [hk2]⟩]
          rw [mayL_cons]
          rw [if_pos hk2]
        · cases h
      · cases h
theorem mayL_rest : ∀ {k : Nat} {l : List Tok} {out out' : List Alt}, restF en k l out = .ok out' → ∃ new, out' = out ++ new ∧ ∀ n left, mayL g l n left [] = (match foldA g new n with | none => false | some n' => n' == g.rules.length)
  | k, [], out, out', h => by
    have h : out = out' := by cases k <;> (injection h)
    exact ⟨[], by rw [h, List.append_nil], fun n left => rfl⟩
  | 0, t :: r, out, out', h => by cases h
  | k + 1, t :: r, out, out', h => by
    unfold restF at h
    split at h
    · cases h
    · rename_i r' o' hd
      obtain ⟨n1, lt, e1, h1⟩ := mayL_def (g := g) hd
      obtain ⟨n2, e2, h2⟩ := mayL_rest h
      refine ⟨n1 ++ n2, by rw [e2, e1, List.append_assoc], fun n left => ?_⟩
      rw [h1, foldA_append]
      cases foldA g n1 n with
      | none => rfl
      | some n' => exact h2 n' lt
theorem mayL_read {l : List Tok} {out : List Alt} (h : readF en l = .ok out) (n : Nat) (left : ByteArray) : mayL g l n left [] = (match foldA g out n with | none => false | some n' => n' == g.rules.length) := by
  unfold readF at h
  split at h
  · cases h
  · rename_i r o hd
    obtain ⟨n1, lt, e1, h1⟩ := mayL_def (g := g) hd
    obtain ⟨n2, e2, h2⟩ := mayL_rest (g := g) h
    rw [h1, e2, e1, List.nil_append, foldA_append]
    cases foldA g n1 n with
    | none => rfl
    | some n' => exact h2 n' lt
end
theorem quotesF_mem : ∀ {r : List Tok} {ts : List ByteArray} {t : Tok}, t ∈ r → t.kind = 2 → t.text ∈ quotesF r ts
  | x :: r, ts, t, h, hk => by
    unfold quotesF
    rcases List.mem_cons.1 h with rfl | h
    · rw [if_pos hk]; exact (quotesF_prefix r _).subset (addF_mem.2 (Or.inr rfl))
    · exact quotesF_mem h hk
theorem gatherF_mem : ∀ {l : List Alt} {ts ns : List ByteArray} {a : Alt}, a ∈ l → a.left.text ∈ (gatherF l ts ns).2 ∧ ∀ t ∈ a.right, t.kind = 2 → t.text ∈ (gatherF l ts ns).1
  | x :: l, ts, ns, a, h => by
    unfold gatherF
    rcases List.mem_cons.1 h with rfl | h
    · have hp := gatherF_prefix l (quotesF a.right ts) (addF ns a.left.text)
      exact ⟨hp.2.subset (addF_mem.2 (Or.inr rfl)), fun t ht hk => hp.1.subset (quotesF_mem ht hk)⟩
    · exact gatherF_mem h
theorem name_of {g : Gram} {s : ByteArray} (h : s ∈ g.names) : nameF g (g.terms.length + idxF g.names s) = some s ∧ termF g (g.terms.length + idxF g.names s) = false := by
  obtain ⟨h0, h1⟩ := idxF_some h
  refine ⟨?_, decide_eq_false (by omega)⟩
  unfold nameF
  rw [if_neg (by omega), if_neg (by omega), show ((g.terms.length : Int) + idxF g.names s).toNat - g.terms.length = (idxF g.names s).toNat by omega]
  exact h1
theorem term_of {g : Gram} {s : ByteArray} (h : s ∈ g.terms) : nameF g (idxF g.terms s) = some s ∧ termF g (idxF g.terms s) = true := by
  obtain ⟨h0, h1⟩ := idxF_some h
  have h2 := idxF_lt h
  refine ⟨?_, decide_eq_true ⟨h0, h2⟩⟩
  unfold nameF
  rw [if_neg (by omega), if_pos h2]
  exact h1
theorem sameR_num {g : Gram} : ∀ {l : List Tok} {m : List Int}, (∀ t ∈ l, (t.kind = 1 ∨ t.kind = 2) ∧ (t.kind = 2 → t.text ∈ g.terms)) → rightF g.terms g.names l [] = .ok m → sameR g m l = true
  | [], m, _, h => by injection h with h; subst h; rfl
  | t :: l, m, hk, h => by
    unfold rightF at h
    split at h
    · cases h
    · rename_i i hi
      obtain ⟨m', rfl, h1, _⟩ := rightF_acc h
      rw [List.nil_append, List.singleton_append]
      have ih := sameR_num (fun x hx => hk x (List.mem_cons_of_mem _ hx)) h1
      have h0 := hk t List.mem_cons_self
      unfold sameR
      rw [ih, Bool.and_true, Bool.and_eq_true, decide_eq_true_eq, beq_iff_eq]
      unfold symF at hi
      by_cases h2 : t.kind = 2
      · rw [if_pos h2] at hi
        injection hi with hi
        subst hi
        have := term_of (h0.2 h2)
        exact ⟨this.1, by rw [this.2, decide_eq_true h2]⟩
      · rw [if_neg h2] at hi
        split at hi
        · cases hi
        · rename_i h3
          injection hi with hi
          subst hi
          have := name_of (g := g) (idxF_in (l := g.names) (s := t.text) (by omega))
          exact ⟨this.1, by rw [this.2, decide_eq_false h2]⟩
theorem sameR_inj {g : Gram} (hg : goodF g = true) : ∀ {l m : List Int} {r : List Tok}, l.length = r.length → m.length = r.length → sameR g l r = true → sameR g m r = true → l = m
  | [], [], [], _, _, _, _ => rfl
  | [], _ :: _, [], _, h, _, _ => by cases h
  | _ :: _, _, [], h, _, _, _ => by cases h
  | [], _, _ :: _, h, _, _, _ => by cases h
  | _ :: _, [], _ :: _, _, h, _, _ => by cases h
  | a :: l, b :: m, t :: r, h1, h2, h3, h4 => by
    unfold sameR at h3 h4
    rw [Bool.and_eq_true, Bool.and_eq_true, decide_eq_true_eq, beq_iff_eq] at h3 h4
    rw [name_own hg h3.1.1 h4.1.1 (h3.1.2.trans h4.1.2.symm), sameR_inj hg (by simpa using h1) (by simpa using h2) h3.2 h4.2]
theorem isF_inj {g : Gram} (hg : goodF g = true) {x y : Rule} {left : ByteArray} {right : List Tok} (hx : isF g x left right = true) (hy : isF g y left right = true) : x = y := by
  unfold isF at hx hy
  simp only [Bool.and_eq_true, decide_eq_true_eq, Bool.not_eq_true'] at hx hy
  obtain ⟨⟨⟨x1, x2⟩, x3⟩, x4⟩ := hx
  obtain ⟨⟨⟨y1, y2⟩, y3⟩, y4⟩ := hy
  have e1 := name_own hg x1 y1 (x2.trans y2.symm)
  have e2 := sameR_inj hg x3 y3 x4 y4
  cases x; cases y; simp_all
theorem isF_num {g : Gram} {a : Alt} {x : Rule} (hx : numF g.terms g.names a = .ok x) (hl : a.left.text ∈ g.names) (hk : ∀ t ∈ a.right, (t.kind = 1 ∨ t.kind = 2) ∧ (t.kind = 2 → t.text ∈ g.terms)) : isF g x a.left.text a.right = true := by
  obtain ⟨h1, h2⟩ := numF_left hx
  have hn := name_of hl
  have hlen : x.right.length = a.right.length := by
    obtain ⟨m, e, _, h3⟩ := rightF_acc h2
    rw [List.nil_append] at e
    rw [e, h3]
  unfold isF
  rw [h1, hn.1, hn.2, sameR_num hk h2, hlen]
  simp
theorem rulesF_prefix {ts ns : List ByteArray} : ∀ {l : List Alt} {acc rs : List Rule}, rulesF ts ns l acc = .ok rs → acc <+: rs
  | [], acc, rs, h => by injection h with h; subst h; exact List.prefix_rfl
  | a :: l, acc, rs, h => by
    unfold rulesF at h
    split at h
    · cases h
    · rename_i x hx
      refine List.IsPrefix.trans ?_ (rulesF_prefix h)
      unfold pushF
      split
      · exact List.prefix_rfl
      · exact List.prefix_append _ _
theorem foldA_rules {g : Gram} (hg : goodF g = true) : ∀ {l : List Alt} {acc : List Rule}, rulesF g.terms g.names l acc = .ok g.rules → (∀ a ∈ l, a.left.text ∈ g.names ∧ ∀ t ∈ a.right, (t.kind = 1 ∨ t.kind = 2) ∧ (t.kind = 2 → t.text ∈ g.terms)) → foldA g l acc.length = some g.rules.length
  | [], acc, h, _ => by injection h with h; rw [← h]; rfl
  | a :: l, acc, h, ha => by
    unfold rulesF at h
    split at h
    · cases h
    · rename_i x hx
      have h0 := ha a List.mem_cons_self
      have h1 := isF_num hx h0.1 h0.2
      have ih := foldA_rules hg h (fun y hy => ha y (List.mem_cons_of_mem _ hy))
      have hp := rulesF_prefix h
      have hpa : acc <+: g.rules := by
        refine List.IsPrefix.trans ?_ hp
        unfold pushF
        split
        · exact List.prefix_rfl
        · exact List.prefix_append _ _
      have ht : g.rules.take acc.length = acc := by
        obtain ⟨m, e⟩ := hpa
        rw [← e]
        simp
      unfold foldA
      rw [ht]
      by_cases hm : x ∈ acc
      · rw [if_pos (List.any_eq_true.2 ⟨x, hm, h1⟩)]
        rw [show pushF acc x = acc from by unfold pushF; rw [if_pos (List.any_eq_true.2 ⟨x, hm, by simp⟩)]] at ih
        exact ih
      · rw [if_neg]
        · have hpu : pushF acc x = acc ++ [x] := by
            unfold pushF
            rw [if_neg]
            intro hh
            obtain ⟨y, hy, he⟩ := List.any_eq_true.1 hh
            have he := of_decide_eq_true he
            subst he
            exact hm hy
          rw [hpu] at ih hp
          have hx' : g.rules[acc.length]? = some x := by
            obtain ⟨m, e⟩ := hp
            rw [← e]
            simp
          rw [hx']
          dsimp only
          rw [if_pos h1, ← ih]
          congr 1
          simp
        · intro hh
          obtain ⟨y, hy, he⟩ := List.any_eq_true.1 hh
          exact hm (isF_inj hg h1 he ▸ hy)
/-- The plain law. -/
theorem may_law {s : ByteArray} {g : Gram} (h : ofF s = .ok g) : ∃ l, lexE s = .ok l ∧ goodF g = true ∧ 1 ≤ g.rules.length ∧ mayL g l 0 ⟨#[]⟩ [] = true := by
  obtain ⟨l, alts, h1, h2, h3, h4, h5, h6, h7⟩ := ofF_ok h
  obtain ⟨hg, ht, hn, hr⟩ := grammF_good h3 h4 h5 h6 h7
  refine ⟨l, h1, hg, ?_, ?_⟩
  · unfold goodF ruledF at hg
    simp only [Bool.and_eq_true, decide_eq_true_eq] at hg
    exact hg.1.1.2.1.1
  · rw [mayL_read h2, show (0 : Nat) = ([] : List Rule).length from rfl, foldA_rules hg hr]
    · simp
    · intro a ha
      have hm := gatherF_mem (ts := []) (ns := []) ha
      rw [← ht, ← hn] at hm
      exact ⟨hm.1, fun t h => ⟨((h4 a ha).right t h).2, hm.2 t h⟩⟩
end Go.Proofs.Ytphmmppmhphgeaa
