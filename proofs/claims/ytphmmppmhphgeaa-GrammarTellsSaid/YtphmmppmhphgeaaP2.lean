/- What is read may be: the grammar of alternatives is a good one. -/
import Derived.Test.YtphmmppmhphgeaaP1
set_option linter.unusedVariables false
set_option linter.unusedSimpArgs false
namespace Go.Proofs.Ytphmmppmhphgeaa
open Go.RowKit Go.Proofs.YtphmmppmhphgeaaW.PrintWords

/-! ### rows of texts that are gathered -/
theorem addF_mem {l : List ByteArray} {s x : ByteArray} : x ∈ addF l s ↔ x ∈ l ∨ x = s := by
  unfold addF
  split
  · rename_i h
    obtain ⟨y, hy, he⟩ := List.any_eq_true.1 h
    have he := of_decide_eq_true he
    subst he
    exact ⟨Or.inl, fun h => h.elim id (fun h => h ▸ hy)⟩
  · simp
theorem addF_old {l : List ByteArray} {s : ByteArray} (h : s ∈ l) : addF l s = l := by
  unfold addF
  rw [if_pos (List.any_eq_true.2 ⟨s, h, by simp⟩)]
theorem addF_new {l : List ByteArray} {s : ByteArray} (h : s ∉ l) : addF l s = l ++ [s] := by
  unfold addF
  rw [if_neg]
  intro hh
  obtain ⟨y, hy, he⟩ := List.any_eq_true.1 hh
  have he := of_decide_eq_true he
  subst he
  exact h hy
theorem addF_nodup {l : List ByteArray} {s : ByteArray} (h : l.Nodup) : (addF l s).Nodup := by
  by_cases hs : s ∈ l
  · rw [addF_old hs]; exact h
  · rw [addF_new hs]
    exact List.nodup_append.2 ⟨h, by simp, fun a ha b hb => by rw [List.mem_singleton.1 hb]; intro e; subst e; exact hs ha⟩
theorem addF_prefix (l : List ByteArray) (s : ByteArray) : l <+: addF l s := by
  unfold addF
  split
  · exact List.prefix_rfl
  · exact List.prefix_append _ _
theorem quotesF_prefix : ∀ (r : List Tok) (ts : List ByteArray), ts <+: quotesF r ts
  | [], ts => List.prefix_rfl
  | t :: r, ts => by
    unfold quotesF
    split
    · exact (addF_prefix ts t.text).trans (quotesF_prefix r _)
    · exact quotesF_prefix r ts
theorem gatherF_prefix : ∀ (l : List Alt) (ts ns : List ByteArray), ts <+: (gatherF l ts ns).1 ∧ ns <+: (gatherF l ts ns).2
  | [], ts, ns => ⟨List.prefix_rfl, List.prefix_rfl⟩
  | a :: r, ts, ns => by
    unfold gatherF
    have h := gatherF_prefix r (quotesF a.right ts) (addF ns a.left.text)
    exact ⟨(quotesF_prefix _ _).trans h.1, (addF_prefix _ _).trans h.2⟩
theorem quotesF_inv {P : ByteArray → Prop} : ∀ (r : List Tok) (ts : List ByteArray), ts.Nodup → (∀ s ∈ ts, P s) → (∀ t ∈ r, t.kind = 2 → P t.text) → (quotesF r ts).Nodup ∧ ∀ s ∈ quotesF r ts, P s
  | [], ts, h1, h2, _ => ⟨h1, h2⟩
  | t :: r, ts, h1, h2, h3 => by
    unfold quotesF
    have h3' : ∀ t ∈ r, t.kind = 2 → P t.text := fun x hx => h3 x (List.mem_cons_of_mem _ hx)
    split
    · rename_i hk
      exact quotesF_inv r _ (addF_nodup h1) (fun s hs => by
        rcases addF_mem.1 hs with hs | rfl
        · exact h2 s hs
        · exact h3 t List.mem_cons_self hk) h3'
    · exact quotesF_inv r ts h1 h2 h3'
theorem gatherF_inv {P Q : ByteArray → Prop} : ∀ (l : List Alt) (ts ns : List ByteArray), ts.Nodup → (∀ s ∈ ts, P s) → ns.Nodup → (∀ s ∈ ns, Q s) → (∀ a ∈ l, Q a.left.text ∧ ∀ t ∈ a.right, t.kind = 2 → P t.text) →
    (gatherF l ts ns).1.Nodup ∧ (∀ s ∈ (gatherF l ts ns).1, P s) ∧ (gatherF l ts ns).2.Nodup ∧ ∀ s ∈ (gatherF l ts ns).2, Q s
  | [], ts, ns, h1, h2, h3, h4, _ => ⟨h1, h2, h3, h4⟩
  | a :: r, ts, ns, h1, h2, h3, h4, h5 => by
    unfold gatherF
    have hq := quotesF_inv a.right ts h1 h2 (h5 a List.mem_cons_self).2
    exact gatherF_inv r _ _ hq.1 hq.2 (addF_nodup h3) (fun s hs => by
      rcases addF_mem.1 hs with hs | rfl
      · exact h4 s hs
      · exact (h5 a List.mem_cons_self).1) (fun x hx => h5 x (List.mem_cons_of_mem _ hx))
theorem distF_of {may : ByteArray → Bool} : ∀ {l seen : List ByteArray}, l.Nodup → (∀ s ∈ l, s ∉ seen) → (∀ s ∈ l, may s = true) → distF may seen l = true
  | [], _, _, _, _ => rfl
  | a :: l, seen, h1, h2, h3 => by
    unfold distF
    rw [if_neg (by rw [h3 a List.mem_cons_self]; decide), if_neg]
    · exact distF_of (List.nodup_cons.1 h1).2 (fun s hs hm => by
        rcases List.mem_append.1 hm with hm | hm
        · exact h2 s (List.mem_cons_of_mem _ hs) hm
        · rw [List.mem_singleton.1 hm] at hs; exact (List.nodup_cons.1 h1).1 hs) (fun s hs => h3 s (List.mem_cons_of_mem _ hs))
    · intro h
      obtain ⟨y, hy, he⟩ := List.any_eq_true.1 h
      have he := of_decide_eq_true he
      subst he
      exact h2 a List.mem_cons_self hy

/-! ### places -/
theorem posF_shift {α : Type} (p : α → Bool) : ∀ (l : List α) (k : Nat), posF p l k = if posF p l 0 < 0 then -1 else posF p l 0 + k
  | [], k => by simp [posF]
  | a :: l, k => by
    unfold posF
    by_cases h : p a = true
    · rw [if_pos h, if_pos h]; simp
    · rw [if_neg h, if_neg h, posF_shift p l (k + 1), posF_shift p l (0 + 1)]
      have := posF_ge p l 0
      by_cases h1 : posF p l 0 < 0
      · simp [h1]
      · rw [if_neg h1, if_neg h1, if_neg (by omega)]; omega
theorem idxF_cons (a : ByteArray) (l : List ByteArray) (s : ByteArray) : idxF (a :: l) s = if s = a then 0 else if idxF l s < 0 then -1 else idxF l s + 1 := by
  unfold idxF
  rw [posF]
  by_cases h : s = a
  · simp [h]
  · rw [if_neg (by simpa using h), if_neg h, posF_shift]; rfl
theorem idxF_none {l : List ByteArray} {s : ByteArray} (h : s ∉ l) : idxF l s = -1 := by
  induction l with
  | nil => rfl
  | cons a l ih =>
    rw [idxF_cons, if_neg (fun e => h (by rw [e]; exact List.mem_cons_self)), ih (fun hm => h (List.mem_cons_of_mem _ hm))]
    rfl
theorem idxF_some {l : List ByteArray} {s : ByteArray} (h : s ∈ l) : 0 ≤ idxF l s ∧ l[(idxF l s).toNat]? = some s := by
  induction l with
  | nil => cases h
  | cons a l ih =>
    rw [idxF_cons]
    by_cases hs : s = a
    · rw [if_pos hs]; subst hs; exact ⟨by omega, rfl⟩
    · rw [if_neg hs]
      have hm : s ∈ l := (List.mem_cons.1 h).resolve_left hs
      obtain ⟨h1, h2⟩ := ih hm
      rw [if_neg (by omega)]
      refine ⟨by omega, ?_⟩
      rw [show (idxF l s + 1).toNat = (idxF l s).toNat + 1 by omega, List.getElem?_cons_succ]
      exact h2
theorem idxF_in {l : List ByteArray} {s : ByteArray} (h : 0 ≤ idxF l s) : s ∈ l := by
  by_cases hm : s ∈ l
  · exact hm
  · rw [idxF_none hm] at h; omega
theorem idxF_lt {l : List ByteArray} {s : ByteArray} (h : s ∈ l) : idxF l s < l.length := by
  have := (List.getElem?_eq_some_iff.1 (idxF_some h).2).1
  have := (idxF_some h).1
  omega
theorem idxF_append {l m : List ByteArray} {s : ByteArray} (h : s ∈ l) : idxF (l ++ m) s = idxF l s := by
  induction l with
  | nil => cases h
  | cons a l ih =>
    rw [List.cons_append, idxF_cons, idxF_cons]
    by_cases hs : s = a
    · rw [if_pos hs, if_pos hs]
    · rw [if_neg hs, if_neg hs, ih ((List.mem_cons.1 h).resolve_left hs)]
theorem idxF_behind {l m : List ByteArray} {s : ByteArray} (h : s ∉ l) : idxF (l ++ s :: m) s = l.length := by
  induction l with
  | nil => rw [List.nil_append, idxF_cons, if_pos rfl]; rfl
  | cons a l ih =>
    have h1 := ih (fun hm => h (List.mem_cons_of_mem _ hm))
    rw [List.cons_append, idxF_cons, if_neg (fun e => h (by rw [e]; exact List.mem_cons_self)), h1, if_neg (by omega), List.length_cons]
    omega
/-- Where an added text stands. -/
theorem idx_add {l L : List ByteArray} {s : ByteArray} (h : addF l s <+: L) : 0 ≤ idxF L s ∧ idxF L s < L.length ∧ (idxF L s < l.length ∧ addF l s = l ∨ idxF L s = l.length ∧ (addF l s).length = l.length + 1) := by
  obtain ⟨m, rfl⟩ := h
  by_cases hs : s ∈ l
  · rw [addF_old hs, idxF_append hs]
    have h1 := idxF_some hs
    have h2 := idxF_lt hs
    exact ⟨h1.1, by rw [List.length_append]; omega, Or.inl ⟨h2, rfl⟩⟩
  · rw [addF_new hs, List.append_assoc, List.singleton_append, idxF_behind hs]
    exact ⟨by omega, by rw [List.length_append, List.length_cons]; omega, Or.inr ⟨rfl, by simp⟩⟩

/-! ### whether numbers come first in order: how many have come -/
def risS : List Int → Int → Option Int
  | [], fr => some fr
  | n :: l, fr => if fr < n then none else risS l (if n = fr then fr + 1 else fr)
theorem risF_of {upto : Int} : ∀ {l : List Int} {fr : Int}, risS l fr = some upto → risF upto l fr = true
  | [], fr, h => by injection h with h; simp [risF, h]
  | n :: l, fr, h => by
    unfold risS at h
    unfold risF
    split
    · rename_i hlt; rw [if_pos hlt] at h; cases h
    · rename_i hlt; rw [if_neg hlt] at h; exact risF_of h
theorem risS_append : ∀ (l m : List Int) (fr : Int), risS (l ++ m) fr = (risS l fr).bind (risS m)
  | [], m, fr => rfl
  | n :: l, m, fr => by
    rw [List.cons_append]
    unfold risS
    split
    · rfl
    · exact risS_append l m _
theorem risS_lt : ∀ {l : List Int} {fr u : Int}, risS l fr = some u → fr ≤ u ∧ ∀ n ∈ l, n < u
  | [], fr, u, h => by injection h with h; subst h; exact ⟨Int.le_refl _, fun n hn => by cases hn⟩
  | n :: l, fr, u, h => by
    unfold risS at h
    split at h
    · cases h
    · obtain ⟨h1, h2⟩ := risS_lt h
      refine ⟨by split at h1 <;> omega, fun m hm => ?_⟩
      rcases List.mem_cons.1 hm with rfl | hm
      · split at h1 <;> omega
      · exact h2 m hm
theorem risS_old : ∀ {l : List Int} {fr : Int}, (∀ n ∈ l, n < fr) → risS l fr = some fr
  | [], fr, _ => rfl
  | n :: l, fr, h => by
    have h1 := h n List.mem_cons_self
    unfold risS
    rw [if_neg (by omega), if_neg (by omega)]
    exact risS_old (fun m hm => h m (List.mem_cons_of_mem _ hm))
theorem risS_one {n fr : Int} (h : n ≤ fr) : risS [n] fr = some (if n = fr then fr + 1 else fr) := by
  unfold risS
  rw [if_neg (by omega)]
  rfl

/-! ### a rule's numbers -/
theorem rightF_bad {ts ns : List ByteArray} : ∀ {l : List Tok} {e : Int × Int} {acc0 acc : List Int}, rightF ts ns l acc0 = .error e → rightF ts ns l acc = .error e
  | [], e, acc0, acc, h => by cases h
  | t :: l, e, acc0, acc, h => by
    unfold rightF at h ⊢
    split at h
    · exact h
    · exact rightF_bad h
theorem rightF_more {ts ns : List ByteArray} : ∀ {l : List Tok} {acc m : List Int}, rightF ts ns l [] = .ok m → rightF ts ns l acc = .ok (acc ++ m) ∧ m.length = l.length
  | [], acc, m, h => by injection h with h; subst h; exact ⟨by simp [rightF], rfl⟩
  | t :: l, acc, m, h => by
    unfold rightF at h ⊢
    split at h
    · cases h
    · rename_i i hi
      rw [List.nil_append] at h
      cases hr : rightF ts ns l [] with
      | error e => rw [rightF_bad hr] at h; cases h
      | ok m0 =>
        rw [(rightF_more hr).1] at h
        injection h with h
        subst h
        rw [(rightF_more hr).1]
        exact ⟨by simp, by simp [(rightF_more (acc := []) hr).2]⟩
theorem rightF_acc {ts ns : List ByteArray} {l : List Tok} {acc r : List Int} (h : rightF ts ns l acc = .ok r) : ∃ m, r = acc ++ m ∧ rightF ts ns l [] = .ok m ∧ m.length = l.length := by
  cases hr : rightF ts ns l [] with
  | error e => rw [rightF_bad hr] at h; cases h
  | ok m =>
    have h1 := rightF_more (acc := acc) hr
    rw [h1.1] at h
    injection h with h
    exact ⟨m, h.symm, rfl, h1.2⟩
/-- What the symbols of a right side are. -/
theorem rightF_syms {ts ns : List ByteArray} : ∀ {l : List Tok} {ts0 : List ByteArray} {m : List Int}, quotesF l ts0 <+: ts → (∀ t ∈ l, t.kind = 1 ∨ t.kind = 2) → rightF ts ns l [] = .ok m →
    (∀ s ∈ m, 0 ≤ s ∧ s < ts.length + ns.length) ∧ risS (m.filter fun s => decide (0 ≤ s ∧ s < ts.length)) ts0.length = some ((quotesF l ts0).length : Int)
  | [], ts0, m, _, _, h => by injection h with h; subst h; exact ⟨fun s hs => (by cases hs), rfl⟩
  | t :: l, ts0, m, hq, hk, h => by
    unfold rightF at h
    split at h
    · cases h
    · rename_i i hi
      obtain ⟨m', rfl, h1, _⟩ := rightF_acc h
      rw [List.nil_append]
      have hk' : ∀ t ∈ l, t.kind = 1 ∨ t.kind = 2 := fun x hx => hk x (List.mem_cons_of_mem _ hx)
      unfold quotesF at hq ⊢
      unfold symF at hi
      by_cases h2 : t.kind = 2
      · rw [if_pos h2] at hq hi ⊢
        injection hi with hi
        subst hi
        obtain ⟨i0, i1, i2⟩ := idx_add ((quotesF_prefix l _).trans hq)
        obtain ⟨ih1, ih2⟩ := rightF_syms hq hk' h1
        refine ⟨fun s hs => ?_, ?_⟩
        · rcases List.mem_append.1 hs with hs | hs
          · rw [List.mem_singleton.1 hs]; omega
          · exact ih1 s hs
        · rw [List.filter_append, List.filter_cons, if_pos (by simpa using ⟨i0, i1⟩), List.filter_nil, risS_append, risS_one (by omega)]
          show risS _ _ = _
          rw [← ih2]
          congr 1
          rcases i2 with ⟨i2, i3⟩ | ⟨i2, i3⟩
          · rw [if_neg (by omega), i3]
          · rw [if_pos i2, i3]; omega
      · rw [if_neg h2] at hq hi ⊢
        split at hi
        · cases hi
        · rename_i h0
          injection hi with hi
          subst hi
          have i1 := idxF_ge ns t.text
          obtain ⟨ih1, ih2⟩ := rightF_syms hq hk' h1
          refine ⟨fun s hs => ?_, ?_⟩
          · rcases List.mem_append.1 hs with hs | hs
            · rw [List.mem_singleton.1 hs]; omega
            · exact ih1 s hs
          · rw [List.filter_append, List.filter_cons, if_neg (by simp; omega), List.filter_nil, List.nil_append]
            exact ih2
theorem rulF_snoc {t all : Int} {x : Rule} : ∀ {l seen : List Rule}, rulF t all seen l = true → ¬ (x.left < t ∨ all ≤ x.left ∨ 8 < x.right.length ∨ ((seen ++ l).any fun y => decide (y = x)) = true) → x.right.any (symB all) = false → rulF t all seen (l ++ [x]) = true
  | [], seen, _, h1, h2 => by
    rw [List.append_nil] at h1
    rw [List.nil_append]
    unfold rulF
    rw [if_neg h1, if_neg (by rw [h2]; decide)]
    rfl
  | r :: l, seen, h, h1, h2 => by
    rw [List.cons_append]
    unfold rulF at h ⊢
    split at h
    · cases h
    · rename_i hn
      rw [if_neg hn]
      split at h
      · cases h
      · rename_i hn2
        rw [if_neg hn2]
        exact rulF_snoc h (by rwa [List.append_assoc, List.singleton_append]) h2

/-! ### all rules -/
structure Came (ts ns : List ByteArray) (acc : List Rule) (ts0 ns0 : List ByteArray) : Prop where
  ruled : rulF ts.length (ts.length + ns.length) [] acc = true
  lefts : risS (leftsF acc) ts.length = some (ts.length + ns0.length : Int)
  terms : risS (acc.flatMap fun r => r.right.filter fun s => decide (0 ≤ s ∧ s < ts.length)) 0 = some (ts0.length : Int)
theorem pushF_mem {l : List Rule} {x : Rule} : x ∈ pushF l x := by
  unfold pushF
  split
  · rename_i h
    obtain ⟨y, hy, he⟩ := List.any_eq_true.1 h
    have he := of_decide_eq_true he
    subst he
    exact hy
  · simp
theorem pushF_le (l : List Rule) (x : Rule) : l.length ≤ (pushF l x).length ∧ (pushF l x).length ≤ l.length + 1 ∧ 1 ≤ (pushF l x).length := by
  have := List.length_pos_of_mem (pushF_mem (l := l) (x := x))
  unfold pushF at *
  split
  · rename_i h; rw [if_pos h] at this; omega
  · simp
theorem numF_left {ts ns : List ByteArray} {a : Alt} {x : Rule} (h : numF ts ns a = .ok x) : x.left = ts.length + idxF ns a.left.text ∧ rightF ts ns a.right [] = .ok x.right := by
  unfold numF at h
  split at h
  · cases h
  · rename_i r hr
    injection h with h
    subst h
    exact ⟨rfl, hr⟩
theorem came_step {ts ns ts0 ns0 : List ByteArray} {acc : List Rule} {a : Alt} {x : Rule} (hx : numF ts ns a = .ok x) (hq : quotesF a.right ts0 <+: ts) (hn : addF ns0 a.left.text <+: ns) (hk : ∀ t ∈ a.right, t.kind = 1 ∨ t.kind = 2) (h8 : a.right.length ≤ 8) (h : Came ts ns acc ts0 ns0) :
    Came ts ns (pushF acc x) (quotesF a.right ts0) (addF ns0 a.left.text) := by
  obtain ⟨hl, hr⟩ := numF_left hx
  obtain ⟨s1, s2⟩ := rightF_syms hq hk hr
  obtain ⟨i0, i1, i2⟩ := idx_add hn
  have hlen : x.right.length = a.right.length := by
    obtain ⟨m, e, _, h2⟩ := rightF_acc hr
    rw [List.nil_append] at e
    rw [e, h2]
  unfold pushF
  split
  · rename_i hm
    obtain ⟨y, hy, he⟩ := List.any_eq_true.1 hm
    have he := of_decide_eq_true he
    subst he
    have l1 := (risS_lt h.lefts).2 y.left (List.mem_map.2 ⟨y, hy, rfl⟩)
    have hns : addF ns0 a.left.text = ns0 := by
      rcases i2 with i2 | i2
      · exact i2.2
      · omega
    have t1 : ∀ s ∈ (y.right.filter fun s => decide (0 ≤ s ∧ s < (ts.length : Int))), s < (ts0.length : Int) := fun s hs => (risS_lt h.terms).2 s (List.mem_flatMap.2 ⟨y, hy, hs⟩)
    rw [risS_old t1] at s2
    injection s2 with s2
    exact ⟨h.ruled, by rw [hns]; exact h.lefts, by rw [← s2]; exact h.terms⟩
  · rename_i hm
    refine ⟨rulF_snoc h.ruled ?_ ?_, ?_, ?_⟩
    · rw [List.nil_append]
      rintro (h1 | h1 | h1 | h1)
      · omega
      · omega
      · omega
      · exact hm h1
    · rw [List.any_eq_false]
      intro s hs
      have := s1 s hs
      simp [symB]
      omega
    · rw [leftsF, List.map_append, risS_append]
      rw [show List.map (fun x => x.left) acc = leftsF acc from rfl, h.lefts]
      show risS [x.left] _ = _
      rw [risS_one (by omega)]
      congr 1
      rcases i2 with ⟨i2, i3⟩ | ⟨i2, i3⟩
      · rw [if_neg (by omega), i3]
      · rw [if_pos (by omega), i3]; omega
    · rw [List.flatMap_append, risS_append, h.terms, List.flatMap_singleton]
      exact s2
theorem rulesF_came {ts ns : List ByteArray} : ∀ {l : List Alt} {acc rs : List Rule} {ts0 ns0 : List ByteArray}, gatherF l ts0 ns0 = (ts, ns) → rulesF ts ns l acc = .ok rs → (∀ a ∈ l, (∀ t ∈ a.right, t.kind = 1 ∨ t.kind = 2) ∧ a.right.length ≤ 8) → Came ts ns acc ts0 ns0 →
    Came ts ns rs ts ns ∧ rs.length ≤ acc.length + l.length ∧ (l ≠ [] → 1 ≤ rs.length) ∧ acc.length ≤ rs.length
  | [], acc, rs, ts0, ns0, hg, h, _, hc => by
    injection h with h
    injection hg with h1 h2
    subst h h1 h2
    exact ⟨hc, by simp, fun h => absurd rfl h, Nat.le_refl _⟩
  | a :: l, acc, rs, ts0, ns0, hg, h, ha, hc => by
    unfold gatherF at hg
    unfold rulesF at h
    split at h
    · cases h
    · rename_i x hx
      have hp := gatherF_prefix l (quotesF a.right ts0) (addF ns0 a.left.text)
      rw [hg] at hp
      have h0 := ha a List.mem_cons_self
      have hc' := came_step hx hp.1 hp.2 h0.1 h0.2 hc
      obtain ⟨r1, r2, r3, r4⟩ := rulesF_came hg h (fun y hy => ha y (List.mem_cons_of_mem _ hy)) hc'
      have hpl := pushF_le acc x
      exact ⟨r1, by rw [List.length_cons]; omega, fun _ => by omega, by omega⟩
/-- What is read may be. -/
theorem grammF_good {N : Nat} {alts : List Alt} {g : Gram} (h : grammF alts = .ok g) (ha : ∀ a ∈ alts, AP N a) (hne : alts ≠ []) (hs : Short alts) (hl : alts.length ≤ 60) :
    goodF g = true ∧ g.terms = (gatherF alts [] []).1 ∧ g.names = (gatherF alts [] []).2 ∧ rulesF g.terms g.names alts [] = .ok g.rules := by
  unfold grammF at h
  split at h
  · cases h
  · rename_i rs hrs
    split at h
    · cases h
    · rename_i hb
      injection h with h
      subst h
      refine ⟨?_, rfl, rfl, hrs⟩
      have hi := gatherF_inv (P := fun s => termOk s = true) (Q := fun s => nameOk s = true) alts [] [] List.nodup_nil (fun s hs => by cases hs) List.nodup_nil (fun s hs => by cases hs) (fun a h => ⟨(ha a h).left.name (ha a h).leftKind, fun t ht hk => ((ha a h).right t ht).1.term hk⟩)
      have hc := rulesF_came (ts0 := []) (ns0 := []) rfl hrs (fun a h => ⟨fun t ht => ((ha a h).right t ht).2, hs a h⟩) ⟨rfl, rfl, rfl⟩
      obtain ⟨c1, c2, c3, _⟩ := hc
      have hn1 : 1 ≤ (gatherF alts [] []).2.length := by
        cases alts with
        | nil => exact absurd rfl hne
        | cons a l =>
          have hp := gatherF_prefix l (quotesF a.right []) (addF [] a.left.text)
          have hm : a.left.text ∈ (gatherF (a :: l) [] []).2 := hp.2.subset (addF_mem.2 (Or.inr rfl))
          exact List.length_pos_of_mem hm
      have h3 := c3 hne
      simp only [List.length_nil, Nat.zero_add] at c2
      unfold goodF namesOk termsOk ruledF
      simp only [Bool.and_eq_true, decide_eq_true_eq]
      refine ⟨⟨⟨⟨⟨⟨distF_of hi.2.2.1 (fun s _ h => by cases h) hi.2.2.2, by omega⟩, by omega⟩, ⟨distF_of hi.1 (fun s _ h => by cases h) hi.2.1, by omega⟩, by omega⟩, ⟨⟨h3, by omega⟩, c1.ruled⟩⟩, risF_of c1.lefts⟩, risF_of c1.terms⟩
theorem ofF_good {s : ByteArray} {g : Gram} (h : ofF s = .ok g) : goodF g = true := by
  obtain ⟨l, alts, _, _, h3, h4, h5, h6, h7⟩ := ofF_ok h
  exact (grammF_good h3 h4 h5 h6 h7).1
end Go.Proofs.Ytphmmppmhphgeaa
