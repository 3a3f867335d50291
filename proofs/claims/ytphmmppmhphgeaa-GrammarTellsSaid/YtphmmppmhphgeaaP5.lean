/- The plain law of GrammarAgain: alternatives and rules of tokens that come twice. -/
import Derived.Test.YtphmmppmhphgeaaP4
set_option linter.unusedVariables false
set_option linter.unusedSimpArgs false
namespace Go.Proofs.Ytphmmppmhphgeaa
open Go.RowKit Go.Proofs.YtphmmppmhphgeaaW.PrintWords

section
variable {en en' : Int} {m : List Tok}
theorem altF_more : ∀ {l acc right r : List Tok} {more : Bool}, altF en l acc = .ok (right, more, r) → altF en' (l ++ m) acc = .ok (right, more, r ++ m)
  | [], _, _, _, _, h => by cases h
  | t :: l, acc, right, r, more, h => by
    rw [List.cons_append]
    unfold altF at h ⊢
    split at h
    · rename_i hk; rw [if_pos hk]; exact altF_more h
    · rename_i hk
      rw [if_neg hk]
      split at h
      · rename_i hk2
        rw [if_pos hk2]
        injection h with h; injection h with h1 h; injection h with h2 h3
        subst h1 h2 h3
        rfl
      · cases h
/-- The tokens behind begin as a definition does. -/
def Head (m : List Tok) : Prop := ∃ t1 t2 r, m = t1 :: t2 :: r ∧ t1.kind = 1 ∧ t2.kind = 3
theorem altF_bad (hm : Head m) : ∀ {l acc : List Tok} {e : Int × Int}, altF en l acc = .error e → ∃ e', altF en' (l ++ m) acc = .error e'
  | [], acc, e, h => by
    obtain ⟨t1, t2, r, rfl, h1, h2⟩ := hm
    refine ⟨(12, t2.pos), ?_⟩
    rw [List.nil_append]
    unfold altF
    rw [if_pos (Or.inl h1)]
    unfold altF
    rw [if_neg (by omega), if_neg (by omega)]
  | t :: l, acc, e, h => by
    rw [List.cons_append]
    unfold altF at h ⊢
    split at h
    · rename_i hk; rw [if_pos hk]; exact altF_bad hm h
    · rename_i hk
      rw [if_neg hk]
      split at h
      · cases h
      · rename_i hk2; rw [if_neg hk2]; exact ⟨_, rfl⟩
theorem altsF_more {left : Tok} : ∀ {k k' : Nat} {l r : List Tok} {out out' : List Alt}, altsF en left k l out = .ok (r, out') → k ≤ k' → altsF en' left k' (l ++ m) out = .ok (r ++ m, out')
  | 0, _, _, _, _, _, h, _ => by cases h
  | _ + 1, 0, _, _, _, _, _, h => absurd h (by omega)
  | k + 1, k' + 1, l, r, out, out', h, hk => by
    unfold altsF at h ⊢
    split at h
    · cases h
    · rename_i right more r1 ha
      rw [altF_more ha]
      dsimp only
      split at h
      · cases h
      · rename_i hn
        rw [if_neg hn]
        split at h
        · rename_i hm; rw [if_pos hm]; exact altsF_more h (by omega)
        · rename_i hm
          rw [if_neg hm]
          injection h with h; injection h with h1 h2
          subst h1 h2
          rfl
theorem altsF_bad (hm : Head m) {left : Tok} : ∀ {k k' : Nat} {l : List Tok} {out : List Alt} {e : Int × Int}, altsF en left k l out = .error e → l.length < k → ∃ e', altsF en' left k' (l ++ m) out = .error e'
  | 0, _, _, _, _, _, h => absurd h (by omega)
  | _ + 1, 0, _, _, _, _, _ => ⟨_, rfl⟩
  | k + 1, k' + 1, l, out, e, h, hk => by
    unfold altsF at h ⊢
    split at h
    · rename_i e1 he
      obtain ⟨e', he'⟩ := altF_bad (en' := en') hm he
      rw [he']
      exact ⟨_, rfl⟩
    · rename_i right more r1 ha
      rw [altF_more ha]
      dsimp only
      split at h
      · rename_i hn; rw [if_pos hn]; exact ⟨_, rfl⟩
      · rename_i hn
        rw [if_neg hn]
        split at h
        · rename_i hmo
          rw [if_pos hmo]
          have := altF_lt ha
          exact altsF_bad hm h (by omega)
        · cases h
theorem defF_more {l r : List Tok} {out out' : List Alt} (h : defF en l out = .ok (r, out')) : defF en' (l ++ m) out = .ok (r ++ m, out') := by
  cases l with
  | nil => cases h
  | cons t r1 =>
    cases r1 with
    | nil => rw [defF_one] at h; split at h <;> cases h
    | cons t2 r2 =>
      rw [List.cons_append, List.cons_append, defF_two]
      rw [defF_two] at h
      split at h
      · rename_i hk
        rw [if_pos hk]
        split at h
        · rename_i hk2
          rw [if_pos hk2]
          exact altsF_more h (by rw [List.length_append]; omega)
        · cases h
      · cases h
theorem defF_bad (hm : Head m) {l : List Tok} {out : List Alt} {e : Int × Int} (hl : l ≠ []) (h : defF en l out = .error e) : ∃ e', defF en' (l ++ m) out = .error e' := by
  cases l with
  | nil => exact absurd rfl hl
  | cons t r1 =>
    cases r1 with
    | nil =>
      obtain ⟨t1, t2, r, rfl, h1, h2⟩ := hm
      show ∃ e', defF en' (t :: t1 :: t2 :: r) out = .error e'
      rw [defF_two]
      split
      · rw [if_neg (by omega)]; exact ⟨_, rfl⟩
      · exact ⟨_, rfl⟩
    | cons t2 r2 =>
      rw [List.cons_append, List.cons_append, defF_two]
      rw [defF_two] at h
      split at h
      · rename_i hk
        rw [if_pos hk]
        split at h
        · rename_i hk2
          rw [if_pos hk2]
          exact altsF_bad hm h (by omega)
        · rename_i hk2; rw [if_neg hk2]; exact ⟨_, rfl⟩
      · rename_i hk; rw [if_neg hk]; exact ⟨_, rfl⟩
theorem restF_more : ∀ {k k' : Nat} {l : List Tok} {out out' : List Alt}, restF en k l out = .ok out' → k + m.length ≤ k' → ∃ k'', m.length ≤ k'' ∧ restF en' k' (l ++ m) out = restF en' k'' m out'
  | k, k', [], out, out', h, hk => by
    have h : out = out' := by cases k <;> (injection h)
    exact ⟨k', by omega, by rw [h, List.nil_append]⟩
  | 0, _, t :: r, _, _, h, _ => by cases h
  | k + 1, 0, t :: r, _, _, _, h => absurd h (by omega)
  | k + 1, k' + 1, t :: r, out, out', h, hk => by
    rw [List.cons_append]
    unfold restF at h
    split at h
    · cases h
    · rename_i r' o' hd
      have hd' := defF_more (en' := en') (m := m) hd
      rw [List.cons_append] at hd'
      obtain ⟨k'', h1, h2⟩ := restF_more (k' := k') h (by omega)
      refine ⟨k'', h1, ?_⟩
      conv => lhs; unfold restF
      rw [hd']
      exact h2
theorem restF_bad (hm : Head m) : ∀ {k k' : Nat} {l : List Tok} {out : List Alt} {e : Int × Int}, restF en k l out = .error e → l.length ≤ k → ∃ e', restF en' k' (l ++ m) out = .error e'
  | k, k', [], out, e, h, _ => by cases k <;> cases h
  | 0, _, t :: r, _, _, _, h => absurd h (by simp)
  | k + 1, 0, t :: r, _, _, _, h => ⟨_, rfl⟩
  | k + 1, k' + 1, t :: r, out, e, h, hk => by
    rw [List.cons_append]
    unfold restF at h ⊢
    split at h
    · rename_i e1 he
      obtain ⟨e', he'⟩ := defF_bad (en' := en') hm (by simp) he
      rw [List.cons_append] at he'
      rw [he']
      exact ⟨_, rfl⟩
    · rename_i r' o' hd
      have hd' := defF_more (en' := en') (m := m) hd
      rw [List.cons_append] at hd'
      rw [hd']
      have := (defF_le hd).1
      rw [List.length_cons] at this hk
      exact restF_bad hm h (by omega)
end
theorem readF_twice_bad {en en' : Int} {d : Nat} {l : List Tok} {e : Int × Int} (h : readF en l = .error e) : ∃ e', readF en' (l ++ l.map (sh d)) = .error e' := by
  unfold readF at h ⊢
  cases l with
  | nil => exact ⟨_, rfl⟩
  | cons t r =>
    by_cases hk : t.kind = 1
    · cases r with
      | nil =>
        refine ⟨(12, (sh d t).pos), ?_⟩
        have : defF en' ([t] ++ List.map (sh d) [t]) [] = .error (12, (sh d t).pos) := by
          show defF en' [t, sh d t] [] = _
          rw [defF_two, if_pos hk, if_neg (by show ¬ t.kind = 3; omega)]
        rw [this]
      | cons t2 r2 =>
        by_cases hk2 : t2.kind = 3
        · have hm : Head ((t :: t2 :: r2).map (sh d)) := ⟨sh d t, sh d t2, r2.map (sh d), rfl, hk, hk2⟩
          split at h
          · rename_i e1 he
            obtain ⟨e', he'⟩ := defF_bad (en' := en') hm (by simp) he
            rw [he']
            exact ⟨_, rfl⟩
          · rename_i r' o' hd
            rw [defF_more (en' := en') hd]
            exact restF_bad hm h (Nat.le_refl _)
        · refine ⟨(12, t2.pos), ?_⟩
          have : defF en' (t :: t2 :: r2 ++ List.map (sh d) (t :: t2 :: r2)) [] = .error (12, t2.pos) := by
            show defF en' (t :: t2 :: (r2 ++ List.map (sh d) (t :: t2 :: r2))) [] = _
            rw [defF_two, if_pos hk, if_neg hk2]
          rw [this]
    · refine ⟨(12, t.pos), ?_⟩
      have : defF en' (t :: r ++ List.map (sh d) (t :: r)) [] = .error (12, t.pos) := by
        cases r with
        | nil =>
          show defF en' [t, sh d t] [] = _
          rw [defF_two, if_neg hk]
        | cons t2 r2 =>
          show defF en' (t :: t2 :: (r2 ++ List.map (sh d) (t :: t2 :: r2))) [] = _
          rw [defF_two, if_neg hk]
      rw [this]

/-! ### the same tokens further on -/
def shA (d : Nat) (a : Alt) : Alt := ⟨sh d a.left, a.right.map (sh d)⟩
/-- How many alternatives end. -/
def ends (l : List Tok) : Nat := l.countP fun t => decide (t.kind = 4 ∨ t.kind = 5)
theorem ends_cons (t : Tok) (l : List Tok) : ends (t :: l) = ends l + if t.kind = 4 ∨ t.kind = 5 then 1 else 0 := by
  unfold ends
  rw [List.countP_cons]
  simp only [decide_eq_true_eq]
section
variable {en en' : Int} {d : Nat}
theorem altF_sh : ∀ {l acc right r : List Tok} {more : Bool}, altF en l acc = .ok (right, more, r) → altF en' (l.map (sh d)) (acc.map (sh d)) = .ok (right.map (sh d), more, r.map (sh d)) ∧ ends l = 1 + ends r
  | [], _, _, _, _, h => by cases h
  | t :: l, acc, right, r, more, h => by
    rw [List.map_cons, ends_cons]
    unfold altF at h ⊢
    split at h
    · rename_i hk
      rw [if_pos (by exact hk), if_neg (by omega)]
      have := altF_sh h
      rw [List.map_append] at this
      exact this
    · rename_i hk
      rw [if_neg (by exact hk)]
      split at h
      · rename_i hk2
        rw [if_pos (by exact hk2), if_pos hk2]
        injection h with h; injection h with h1 h; injection h with h2 h3
        subst h1 h2 h3
        exact ⟨rfl, by omega⟩
      · cases h
theorem altsF_sh {left : Tok} : ∀ {k : Nat} {l r : List Tok} {out out' : List Alt}, altsF en left k l out = .ok (r, out') → ∃ new, out' = out ++ new ∧ ends l = new.length + ends r ∧
    ∀ k' out0, k ≤ k' → (out0.length + new.length ≤ 60 → altsF en' (sh d left) k' (l.map (sh d)) out0 = .ok (r.map (sh d), out0 ++ new.map (shA d))) ∧ (60 < out0.length + new.length → ∃ p, altsF en' (sh d left) k' (l.map (sh d)) out0 = .error (14, p))
  | 0, _, _, _, _, h => by cases h
  | k + 1, l, r, out, out', h => by
    unfold altsF at h
    split at h
    · cases h
    · rename_i right more r1 ha
      have hs := altF_sh (en' := en') (d := d) ha
      rw [List.map_nil] at hs
      split at h
      · cases h
      · rename_i hn
        split at h
        · rename_i hm
          obtain ⟨new, e1, e2, e3⟩ := altsF_sh h
          refine ⟨⟨left, right⟩ :: new, by rw [e1, List.append_assoc]; rfl, by rw [List.length_cons]; omega, fun k' out0 hk => ?_⟩
          cases k' with
          | zero => omega
          | succ k' =>
            unfold altsF
            rw [hs.1]
            dsimp only
            have e4 := e3 k' (out0 ++ [⟨sh d left, right.map (sh d)⟩]) (by omega)
            simp only [List.length_append, List.length_cons, List.length_nil] at e4 ⊢
            rw [if_pos hm]
            refine ⟨fun h60 => ?_, fun h60 => ?_⟩
            · rw [if_neg (by rw [List.length_map]; omega), e4.1 (by omega), List.append_assoc]
              rfl
            · split
              · exact ⟨_, rfl⟩
              · exact e4.2 (by omega)
        · rename_i hm
          injection h with h; injection h with h1 h2
          subst h1 h2
          refine ⟨[⟨left, right⟩], rfl, by simpa using hs.2, fun k' out0 hk => ?_⟩
          cases k' with
          | zero => omega
          | succ k' =>
            unfold altsF
            rw [hs.1]
            dsimp only
            rw [if_neg hm]
            simp only [List.length_cons, List.length_nil]
            refine ⟨fun h60 => ?_, fun h60 => ?_⟩
            · rw [if_neg (by rw [List.length_map]; omega)]; rfl
            · rw [if_pos (Or.inl (by omega))]; exact ⟨_, rfl⟩
theorem defF_sh {l r : List Tok} {out out' : List Alt} (h : defF en l out = .ok (r, out')) : ∃ new, out' = out ++ new ∧ ends l = new.length + ends r ∧
    ∀ out0, (out0.length + new.length ≤ 60 → defF en' (l.map (sh d)) out0 = .ok (r.map (sh d), out0 ++ new.map (shA d))) ∧ (60 < out0.length + new.length → ∃ p, defF en' (l.map (sh d)) out0 = .error (14, p)) := by
  cases l with
  | nil => cases h
  | cons t r1 =>
    cases r1 with
    | nil => rw [defF_one] at h; split at h <;> cases h
    | cons t2 r2 =>
      rw [defF_two] at h
      split at h
      · rename_i hk
        split at h
        · rename_i hk2
          obtain ⟨new, e1, e2, e3⟩ := altsF_sh (en' := en') (d := d) h
          refine ⟨new, e1, by rw [ends_cons, ends_cons, if_neg (by omega), if_neg (by omega)]; omega, fun out0 => ?_⟩
          have e4 := e3 ((r2.map (sh d)).length + 1) out0 (by rw [List.length_map]; omega)
          rw [List.map_cons, List.map_cons, defF_two, if_pos (show (sh d t).kind = 1 from hk), if_pos (show (sh d t2).kind = 3 from hk2)]
          exact e4
        · cases h
      · cases h
theorem restF_sh : ∀ {k : Nat} {l : List Tok} {out out' : List Alt}, restF en k l out = .ok out' → ∃ new, out' = out ++ new ∧ ends l = new.length ∧
    ∀ k' out0, l.length ≤ k' → (out0.length + new.length ≤ 60 → restF en' k' (l.map (sh d)) out0 = .ok (out0 ++ new.map (shA d))) ∧ (out0.length ≤ 60 → 60 < out0.length + new.length → ∃ p, restF en' k' (l.map (sh d)) out0 = .error (14, p))
  | k, [], out, out', h => by
    have h : out = out' := by cases k <;> (injection h)
    refine ⟨[], by rw [h, List.append_nil], rfl, fun k' out0 _ => ⟨fun _ => ?_, fun h1 h2 => ?_⟩⟩
    · rw [List.map_nil, List.map_nil, List.append_nil]; cases k' <;> rfl
    · simp only [List.length_nil] at h2; omega
  | 0, t :: r, out, out', h => by cases h
  | k + 1, t :: r, out, out', h => by
    unfold restF at h
    split at h
    · cases h
    · rename_i r' o' hd
      have hlt := (defF_le hd).1
      obtain ⟨n1, e1, c1, f1⟩ := defF_sh (en' := en') (d := d) hd
      obtain ⟨n2, e2, c2, f2⟩ := restF_sh h
      refine ⟨n1 ++ n2, by rw [e2, e1, List.append_assoc], by rw [List.length_append]; omega, fun k' out0 hk => ?_⟩
      cases k' with
      | zero => simp at hk
      | succ k' =>
        rw [List.length_cons] at hlt hk
        rw [List.map_cons] at f1 ⊢
        have g1 := f1 out0
        have g2 := f2 k' (out0 ++ n1.map (shA d)) (by omega)
        simp only [List.length_append, List.length_map] at g2 ⊢
        unfold restF
        refine ⟨fun h60 => ?_, fun h0 h60 => ?_⟩
        · rw [g1.1 (by omega)]
          dsimp only
          rw [g2.1 (by omega), List.append_assoc, List.map_append]
        · by_cases h1 : out0.length + n1.length ≤ 60
          · rw [g1.1 h1]
            exact g2.2 (by omega) (by omega)
          · obtain ⟨p, hp⟩ := g1.2 (by omega)
            rw [hp]
            exact ⟨p, rfl⟩
end
theorem readF_twice {en en' : Int} {d : Nat} {l : List Tok} {alts : List Alt} (h : readF en l = .ok alts) : ends l = alts.length ∧ (2 * alts.length ≤ 60 → readF en' (l ++ l.map (sh d)) = .ok (alts ++ alts.map (shA d))) ∧ (60 < 2 * alts.length → ∃ p, readF en' (l ++ l.map (sh d)) = .error (14, p)) := by
  have h60 := (readF_short h).2
  unfold readF at h ⊢
  split at h
  · cases h
  · rename_i r out hd
    rw [defF_more (en' := en') hd]
    dsimp only
    have hlt := (defF_le hd).1
    obtain ⟨k'', hk, hr⟩ := restF_more (en' := en') (m := l.map (sh d)) (k' := (r ++ l.map (sh d)).length) h (by rw [List.length_append]; omega)
    rw [hr]
    obtain ⟨n1, e1, c1, f1⟩ := defF_sh (en' := en') (d := d) hd
    obtain ⟨n2, e2, c2, f2⟩ := restF_sh (en' := en') (d := d) h
    rw [List.nil_append] at e1
    subst e1
    rw [List.length_map] at hk
    have e3 : alts.length = out.length + n2.length := by rw [e2, List.length_append]
    refine ⟨by omega, ?_⟩
    cases hl : l with
    | nil => rw [hl] at hd; cases hd
    | cons t r0 =>
      rw [hl] at f1 hk hlt
      rw [List.length_cons] at hk hlt
      cases k'' with
      | zero => omega
      | succ k'' =>
        rw [List.map_cons] at f1 ⊢
        have g1 := f1 alts
        have g2 := f2 k'' (alts ++ out.map (shA d)) (by omega)
        simp only [List.length_append, List.length_map] at g2
        unfold restF
        refine ⟨fun h1 => ?_, fun h1 => ?_⟩
        · rw [g1.1 (by omega)]
          dsimp only
          rw [g2.1 (by omega), List.append_assoc, ← List.map_append, ← e2]
        · by_cases h2 : alts.length + out.length ≤ 60
          · rw [g1.1 h2]
            exact g2.2 (by omega) (by omega)
          · obtain ⟨p, hp⟩ := g1.2 (by omega)
            rw [hp]
            exact ⟨p, rfl⟩

/-! ### the rules of alternatives that come twice -/
theorem gatherF_cons (a : Alt) (l : List Alt) (ts ns : List ByteArray) : gatherF (a :: l) ts ns = gatherF l (quotesF a.right ts) (addF ns a.left.text) := rfl
theorem rulesF_cons (ts ns : List ByteArray) (a : Alt) (l : List Alt) (acc : List Rule) : rulesF ts ns (a :: l) acc = (match numF ts ns a with | .error e => .error e | .ok x => rulesF ts ns l (pushF acc x)) := rfl
theorem gatherF_append : ∀ (l m : List Alt) (ts ns : List ByteArray), gatherF (l ++ m) ts ns = gatherF m (gatherF l ts ns).1 (gatherF l ts ns).2
  | [], m, ts, ns => rfl
  | a :: l, m, ts, ns => by
    rw [List.cons_append, gatherF_cons, gatherF_cons]
    exact gatherF_append l m _ _
theorem quotesF_old : ∀ {r : List Tok} {ts : List ByteArray}, (∀ t ∈ r, t.kind = 2 → t.text ∈ ts) → quotesF r ts = ts
  | [], ts, _ => rfl
  | t :: r, ts, h => by
    unfold quotesF
    split
    · rename_i hk
      rw [addF_old (h t List.mem_cons_self hk)]
      exact quotesF_old (fun x hx => h x (List.mem_cons_of_mem _ hx))
    · exact quotesF_old (fun x hx => h x (List.mem_cons_of_mem _ hx))
theorem gatherF_old : ∀ {l : List Alt} {ts ns : List ByteArray}, (∀ a ∈ l, a.left.text ∈ ns ∧ ∀ t ∈ a.right, t.kind = 2 → t.text ∈ ts) → gatherF l ts ns = (ts, ns)
  | [], ts, ns, _ => rfl
  | a :: l, ts, ns, h => by
    unfold gatherF
    have h0 := h a List.mem_cons_self
    rw [quotesF_old h0.2, addF_old h0.1]
    exact gatherF_old (fun x hx => h x (List.mem_cons_of_mem _ hx))
theorem gatherF_twice (d : Nat) (l : List Alt) : gatherF (l ++ l.map (shA d)) [] [] = gatherF l [] [] := by
  rw [gatherF_append]
  refine (gatherF_old ?_).trans rfl
  intro a ha
  obtain ⟨b, hb, rfl⟩ := List.mem_map.1 ha
  have h := gatherF_mem (ts := []) (ns := []) hb
  refine ⟨h.1, fun t ht hk => ?_⟩
  obtain ⟨x, hx, rfl⟩ := List.mem_map.1 ht
  exact h.2 x hx hk
theorem rightF_sh {ts ns : List ByteArray} {d : Nat} : ∀ {l : List Tok} {acc r : List Int}, rightF ts ns l acc = .ok r → rightF ts ns (l.map (sh d)) acc = .ok r
  | [], acc, r, h => h
  | t :: l, acc, r, h => by
    rw [List.map_cons]
    unfold rightF at h ⊢
    have hs : ∀ i, symF ts ns t = .ok i → symF ts ns (sh d t) = .ok i := by
      intro i hi
      unfold symF at hi ⊢
      show (if t.kind = 2 then _ else _) = _
      split at hi
      · rename_i hk; rw [if_pos hk]; exact hi
      · rename_i hk
        rw [if_neg hk]
        split at hi
        · cases hi
        · rename_i hn; rw [if_neg (by exact hn)]; exact hi
    split at h
    · cases h
    · rename_i i hi
      rw [hs i hi]
      exact rightF_sh h
theorem numF_sh {ts ns : List ByteArray} {d : Nat} {a : Alt} {x : Rule} (h : numF ts ns a = .ok x) : numF ts ns (shA d a) = .ok x := by
  unfold numF at h ⊢
  split at h
  · cases h
  · rename_i r hr
    rw [show (shA d a).right = a.right.map (sh d) from rfl, rightF_sh hr]
    exact h
theorem rulesF_append {ts ns : List ByteArray} : ∀ {l m : List Alt} {acc : List Rule}, rulesF ts ns (l ++ m) acc = (match rulesF ts ns l acc with | .error e => .error e | .ok rs => rulesF ts ns m rs)
  | [], m, acc => rfl
  | a :: l, m, acc => by
    rw [List.cons_append, rulesF_cons, rulesF_cons]
    cases numF ts ns a with
    | error e => rfl
    | ok x => exact rulesF_append
theorem rulesF_mem {ts ns : List ByteArray} : ∀ {l : List Alt} {acc rs : List Rule}, rulesF ts ns l acc = .ok rs → ∀ a ∈ l, ∃ x ∈ rs, numF ts ns a = .ok x
  | a :: l, acc, rs, h, b, hb => by
    unfold rulesF at h
    split at h
    · cases h
    · rename_i x hx
      rcases List.mem_cons.1 hb with rfl | hb
      · exact ⟨x, (rulesF_prefix h).subset pushF_mem, hx⟩
      · exact rulesF_mem h b hb
theorem rulesF_old {ts ns : List ByteArray} : ∀ {l : List Alt} {acc : List Rule}, (∀ a ∈ l, ∃ x ∈ acc, numF ts ns a = .ok x) → rulesF ts ns l acc = .ok acc
  | [], acc, _ => rfl
  | a :: l, acc, h => by
    obtain ⟨x, hx, he⟩ := h a List.mem_cons_self
    unfold rulesF
    rw [he]
    dsimp only
    rw [show pushF acc x = acc from by unfold pushF; rw [if_pos (List.any_eq_true.2 ⟨x, hx, by simp⟩)]]
    exact rulesF_old (fun y hy => h y (List.mem_cons_of_mem _ hy))
theorem grammF_twice (d : Nat) (alts : List Alt) : grammF (alts ++ alts.map (shA d)) = grammF alts := by
  unfold grammF
  rw [gatherF_twice, rulesF_append]
  cases hr : rulesF (gatherF alts [] []).1 (gatherF alts [] []).2 alts [] with
  | error e => rfl
  | ok rs =>
    dsimp only
    rw [rulesF_old]
    intro a ha
    obtain ⟨b, hb, rfl⟩ := List.mem_map.1 ha
    obtain ⟨x, hx, he⟩ := rulesF_mem hr b hb
    exact ⟨x, hx, numF_sh he⟩
/-- The plain law. -/
theorem again_bad {s : ByteArray} {e : Int × Int} (hs : s.size ≤ 900) (h : ofF s = .error e) : ∃ e', ofF (twice s) = .error e' := by
  unfold ofF at h ⊢
  rw [lexE_twice hs]
  split at h
  · rename_i e1 he; rw [he]; exact ⟨_, rfl⟩
  · rename_i l hl
    rw [hl]
    dsimp only
    split at h
    · rename_i e1 he
      obtain ⟨e', he'⟩ := readF_twice_bad (en' := ((twice s).size : Int)) (d := s.size + 1) he
      rw [he']
      exact ⟨_, rfl⟩
    · rename_i alts ha
      obtain ⟨_, h1, h2⟩ := readF_twice (en' := ((twice s).size : Int)) (d := s.size + 1) ha
      by_cases h60 : 2 * alts.length ≤ 60
      · rw [h1 h60]
        dsimp only
        rw [grammF_twice, h]
        exact ⟨_, rfl⟩
      · obtain ⟨p, hp⟩ := h2 (by omega)
        rw [hp]
        exact ⟨_, rfl⟩
theorem again_ok {s : ByteArray} {g : Gram} (hs : s.size ≤ 900) (h : ofF s = .ok g) : ∃ l, lexE s = .ok l ∧ (if 60 < 2 * ends l then ∃ p, ofF (twice s) = .error (14, p) else ofF (twice s) = .ok g) := by
  obtain ⟨l, alts, h1, h2, h3, _⟩ := ofF_ok h
  refine ⟨l, h1, ?_⟩
  obtain ⟨e1, e2, e3⟩ := readF_twice (en' := ((twice s).size : Int)) (d := s.size + 1) h2
  rw [e1]
  unfold ofF
  rw [lexE_twice hs, h1]
  dsimp only
  split
  · rename_i h60
    obtain ⟨p, hp⟩ := e3 h60
    rw [hp]
    exact ⟨p, rfl⟩
  · rename_i h60
    rw [e2 (by omega)]
    dsimp only
    rw [grammF_twice, h3]
end Go.Proofs.Ytphmmppmhphgeaa
