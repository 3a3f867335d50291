/- What the document's answer for a grammar computes, in plain Lean. -/
import Derived.Test.YtphmmppmhphgeaaP2
import Derived.Test.YtphmmppmhphgeaaP1
set_option linter.unusedVariables false
set_option linter.unusedSimpArgs false
namespace Go.Proofs.Ytphmmppmhphgeaa
open Go.RowKit

/-- The names of some alternatives, behind those that are there. -/
def namesF : List Alt → List ByteArray → List ByteArray
  | [], ns => ns
  | a :: r, ns => namesF r (addF ns a.left.text)
/-- A right side's terminals, or where a name is none. -/
def scanR (ns : List ByteArray) : List Tok → List ByteArray → Except Int (List ByteArray)
  | [], ts => .ok ts
  | t :: r, ts => if t.kind = 1 ∧ idxF ns t.text < 0 then .error t.pos else scanR ns r (if t.kind = 2 then addF ts t.text else ts)
def scanF (ns : List ByteArray) : List Alt → List ByteArray → Except Int (List ByteArray)
  | [], ts => .ok ts
  | a :: r, ts => match scanR ns a.right ts with
    | .error p => .error p
    | .ok ts' => scanF ns r ts'
def sym1 (ts ns : List ByteArray) (t : Tok) : Int := if t.kind = 1 then (ts.length : Int) + idxF ns t.text else idxF ts t.text
def rule1 (ts ns : List ByteArray) (a : Alt) : Rule := ⟨(ts.length : Int) + idxF ns a.left.text, a.right.map (sym1 ts ns)⟩
def rules1 (ts ns : List ByteArray) : List Alt → List Rule → List Rule
  | [], acc => acc
  | a :: r, acc => rules1 ts ns r (pushF acc (rule1 ts ns a))
def gram1 (alts : List Alt) : Except (Int × Int) Gram :=
  match scanF (namesF alts []) alts [] with
  | .error p => .error (13, p)
  | .ok ts => if 40 < (namesF alts []).length ∨ 40 < ts.length then .error (14, 0) else .ok ⟨ts, namesF alts [], rules1 ts (namesF alts []) alts []⟩

theorem gatherF_names : ∀ (l : List Alt) (ts ns : List ByteArray), (gatherF l ts ns).2 = namesF l ns
  | [], _, _ => rfl
  | a :: r, ts, ns => gatherF_names r _ _
theorem scanR_ok {ns : List ByteArray} : ∀ {l : List Tok} {ts ts' : List ByteArray}, scanR ns l ts = .ok ts' → quotesF l ts = ts' ∧ ∀ t ∈ l, t.kind = 1 → 0 ≤ idxF ns t.text
  | [], ts, ts', h => by injection h with h; exact ⟨h, fun t ht => by cases ht⟩
  | t :: r, ts, ts', h => by
    unfold scanR at h
    split at h
    · cases h
    · rename_i hn
      obtain ⟨h1, h2⟩ := scanR_ok h
      refine ⟨h1, fun x hx hk => ?_⟩
      rcases List.mem_cons.1 hx with rfl | hx
      · have : ¬ idxF ns x.text < 0 := fun hb => hn ⟨hk, hb⟩
        omega
      · exact h2 x hx hk
theorem scanF_ok {ns : List ByteArray} : ∀ {l : List Alt} {ts ts' ns0 : List ByteArray}, scanF ns l ts = .ok ts' → (gatherF l ts ns0).1 = ts' ∧ ∀ a ∈ l, ∀ t ∈ a.right, t.kind = 1 → 0 ≤ idxF ns t.text
  | [], ts, ts', ns0, h => by injection h with h; exact ⟨h, fun t ht => by cases ht⟩
  | a :: r, ts, ts', ns0, h => by
    unfold scanF at h
    split at h
    · cases h
    · rename_i ts1 h1
      obtain ⟨q1, q2⟩ := scanR_ok h1
      obtain ⟨k1, k2⟩ := scanF_ok (ns0 := addF ns0 a.left.text) h
      refine ⟨by show (gatherF r (quotesF a.right ts) (addF ns0 a.left.text)).1 = ts'; rw [q1]; exact k1, fun x hx => ?_⟩
      rcases List.mem_cons.1 hx with rfl | hx
      · exact q2
      · exact k2 x hx
theorem rightF_ok {ts ns : List ByteArray} : ∀ {l : List Tok} {acc : List Int}, (∀ t ∈ l, t.kind = 1 ∨ t.kind = 2) → (∀ t ∈ l, t.kind = 1 → 0 ≤ idxF ns t.text) → rightF ts ns l acc = .ok (acc ++ l.map (sym1 ts ns))
  | [], acc, _, _ => by simp [rightF]
  | t :: r, acc, hk, hn => by
    have hs : symF ts ns t = .ok (sym1 ts ns t) := by
      unfold symF sym1
      rcases hk t List.mem_cons_self with h | h
      · rw [if_neg (by omega), if_neg (by have := hn t List.mem_cons_self h; omega), if_pos h]
      · rw [if_pos h, if_neg (by omega)]
    unfold rightF
    rw [hs]
    dsimp only
    rw [rightF_ok (fun x hx => hk x (List.mem_cons_of_mem _ hx)) (fun x hx => hn x (List.mem_cons_of_mem _ hx))]
    simp
theorem numF_ok {ts ns : List ByteArray} {a : Alt} (hk : ∀ t ∈ a.right, t.kind = 1 ∨ t.kind = 2) (hn : ∀ t ∈ a.right, t.kind = 1 → 0 ≤ idxF ns t.text) : numF ts ns a = .ok (rule1 ts ns a) := by
  unfold numF
  rw [rightF_ok hk hn]
  rfl
theorem rulesF_ok {ts ns : List ByteArray} : ∀ {l : List Alt} {acc : List Rule}, (∀ a ∈ l, ∀ t ∈ a.right, t.kind = 1 ∨ t.kind = 2) → (∀ a ∈ l, ∀ t ∈ a.right, t.kind = 1 → 0 ≤ idxF ns t.text) → rulesF ts ns l acc = .ok (rules1 ts ns l acc)
  | [], acc, _, _ => rfl
  | a :: r, acc, hk, hn => by
    unfold rulesF
    rw [numF_ok (hk a List.mem_cons_self) (hn a List.mem_cons_self)]
    exact rulesF_ok (fun x hx => hk x (List.mem_cons_of_mem _ hx)) (fun x hx => hn x (List.mem_cons_of_mem _ hx))
theorem scanR_bad {ns ts0 : List ByteArray} {p : Int} : ∀ {l : List Tok} {ts : List ByteArray} {acc : List Int}, (∀ t ∈ l, t.kind = 1 ∨ t.kind = 2) → scanR ns l ts = .error p → rightF ts0 ns l acc = .error (13, p)
  | [], ts, acc, _, h => by cases h
  | t :: r, ts, acc, hk, h => by
    unfold scanR at h
    unfold rightF
    split at h
    · rename_i hb
      injection h with h
      subst h
      have hs : symF ts0 ns t = .error (13, t.pos) := by
        unfold symF
        rw [if_neg (by omega), if_pos hb.2]
      rw [hs]
    · rename_i hn
      have hs : ∃ i, symF ts0 ns t = .ok i := by
        unfold symF
        rcases hk t List.mem_cons_self with h1 | h1
        · rw [if_neg (by omega), if_neg (fun hb => hn ⟨h1, hb⟩)]; exact ⟨_, rfl⟩
        · rw [if_pos h1]; exact ⟨_, rfl⟩
      obtain ⟨i, hi⟩ := hs
      rw [hi]
      exact scanR_bad (fun x hx => hk x (List.mem_cons_of_mem _ hx)) h
theorem scanF_bad {ns ts0 : List ByteArray} {p : Int} : ∀ {l : List Alt} {ts : List ByteArray} {acc : List Rule}, (∀ a ∈ l, ∀ t ∈ a.right, t.kind = 1 ∨ t.kind = 2) → scanF ns l ts = .error p → rulesF ts0 ns l acc = .error (13, p)
  | [], ts, acc, _, h => by cases h
  | a :: r, ts, acc, hk, h => by
    unfold scanF at h
    unfold rulesF
    split at h
    · rename_i q hq
      injection h with h
      subst h
      have : numF ts0 ns a = .error (13, q) := by
        unfold numF
        rw [scanR_bad (hk a List.mem_cons_self) hq]
      rw [this]
    · rename_i ts1 h1
      rw [numF_ok (hk a List.mem_cons_self) (scanR_ok h1).2]
      exact scanF_bad (fun x hx => hk x (List.mem_cons_of_mem _ hx)) h
theorem gram1_eq {alts : List Alt} (hk : ∀ a ∈ alts, ∀ t ∈ a.right, t.kind = 1 ∨ t.kind = 2) : gram1 alts = grammF alts := by
  unfold gram1 grammF
  rw [gatherF_names]
  cases h : scanF (namesF alts []) alts [] with
  | error p => rw [scanF_bad hk h]
  | ok ts =>
    obtain ⟨h1, h2⟩ := scanF_ok (ns0 := []) h
    rw [h1, rulesF_ok hk h2]
/-! ### steps -/
theorem addF_hit {l : List ByteArray} {s : ByteArray} (h : 0 ≤ idxF l s) : addF l s = l := addF_old (idxF_in h)
theorem addF_miss {l : List ByteArray} {s : ByteArray} (h : idxF l s < 0) : addF l s = l ++ [s] := addF_new (fun hm => by have := (idxF_some hm).1; omega)
theorem namesF_at {alts : List Alt} {ns : List ByteArray} {i : Nat} (h : i < alts.length) : namesF (alts.drop i) ns = namesF (alts.drop (i + 1)) (addF ns (alts[i]'h).left.text) := by
  rw [List.drop_eq_getElem_cons h]; rfl
theorem scanR_at {ns : List ByteArray} {l : List Tok} {ts : List ByteArray} {i : Nat} (h : i < l.length) : scanR ns (l.drop i) ts = if (l[i]'h).kind = 1 ∧ idxF ns (l[i]'h).text < 0 then .error (l[i]'h).pos else scanR ns (l.drop (i + 1)) (if (l[i]'h).kind = 2 then addF ts (l[i]'h).text else ts) := by
  rw [List.drop_eq_getElem_cons h]; rfl
theorem scanF_at {ns : List ByteArray} {alts : List Alt} {ts : List ByteArray} {i : Nat} (h : i < alts.length) : scanF ns (alts.drop i) ts = (match scanR ns (alts[i]'h).right ts with | .error p => .error p | .ok ts' => scanF ns (alts.drop (i + 1)) ts') := by
  rw [List.drop_eq_getElem_cons h]; rfl
theorem rules1_at {ts ns : List ByteArray} {alts : List Alt} {acc : List Rule} {i : Nat} (h : i < alts.length) : rules1 ts ns (alts.drop i) acc = rules1 ts ns (alts.drop (i + 1)) (pushF acc (rule1 ts ns (alts[i]'h))) := by
  rw [List.drop_eq_getElem_cons h]; rfl
theorem addF_len1 (l : List ByteArray) (s : ByteArray) : (addF l s).length ≤ l.length + 1 := (addF_le l s).2
/-- What is told of a row of alternatives is what the program tells. -/
theorem lex_read_kinds {s : ByteArray} {l : List Tok} {alts : List Alt} (h1 : lexE s = .ok l) (h2 : readF s.size l = .ok alts) : ∀ a ∈ alts, ∀ t ∈ a.right, t.kind = 1 ∨ t.kind = 2 :=
  fun a ha t ht => (((readF_tp (N := s.size) (en := (s.size : Int)) ⟨by omega, by omega⟩ (lexE_tp.2 _ h1)).2 _ h2).1 a ha).right t ht |>.2
end Go.Proofs.Ytphmmppmhphgeaa
