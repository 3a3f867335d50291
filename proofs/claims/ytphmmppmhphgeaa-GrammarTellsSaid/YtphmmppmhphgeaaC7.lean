/- The grammar of a text: what is told (plain), and the catcher. -/
import Derived.Test.YtphmmppmhphgeaaC6
import Derived.Test.YtphmmppmhphgeaaA4
import Derived.Test.YtphmmppmhphgeaaWLast
import Derived.Recover
set_option linter.unusedVariables false
set_option linter.unusedSimpArgs false
namespace Go.Proofs.Ytphmmppmhphgeaa
open Go.RowKit Go.Proofs.YtphmmppmhphgeaaW.PrintWords Go.Proofs.YtphmmppmhphgeaaW.PrintLast

/-! ### what is told -/
def lexE (s : ByteArray) : Except (Int × Int) (List Tok) :=
  if 2000 < s.size then .error (14, 0) else
  match toksF ((bsl s).length + 1) (skipF false (bsl s)) ((bsl s).drop (skipF false (bsl s))) [] with
  | .error p => .error (11, p)
  | .ok l => .ok l
/-- The terminals of a row of tokens, behind those that are there. -/
def quotesF : List Tok → List ByteArray → List ByteArray
  | [], ts => ts
  | t :: r, ts => quotesF r (if t.kind = 2 then addF ts t.text else ts)
def gatherF : List Alt → List ByteArray → List ByteArray → List ByteArray × List ByteArray
  | [], ts, ns => (ts, ns)
  | a :: r, ts, ns => gatherF r (quotesF a.right ts) (addF ns a.left.text)
def pushF (l : List Rule) (x : Rule) : List Rule := if (l.any fun y => decide (y = x)) = true then l else l ++ [x]
def rulesF (ts ns : List ByteArray) : List Alt → List Rule → Except (Int × Int) (List Rule)
  | [], acc => .ok acc
  | a :: r, acc => match numF ts ns a with
    | .error e => .error e
    | .ok x => rulesF ts ns r (pushF acc x)
def grammF (alts : List Alt) : Except (Int × Int) Gram :=
  match rulesF (gatherF alts [] []).1 (gatherF alts [] []).2 alts [] with
  | .error e => .error e
  | .ok rs => if 40 < (gatherF alts [] []).2.length ∨ 40 < (gatherF alts [] []).1.length then .error (14, 0) else .ok ⟨(gatherF alts [] []).1, (gatherF alts [] []).2, rs⟩
def ofF (s : ByteArray) : Except (Int × Int) Gram :=
  match lexE s with
  | .error e => .error e
  | .ok l => match readF s.size l with
    | .error e => .error e
    | .ok alts => grammF alts

theorem toksF_len : ∀ {k at_ : Nat} {l : List UInt8} {acc r : List Tok}, toksF k at_ l acc = .ok r → r.length ≤ acc.length + l.length := by
  intro k
  induction k with
  | zero => intro at_ l acc r h; cases h
  | succ k ih =>
    intro at_ l acc r h
    cases l with
    | nil => injection h with h; subst h; simp
    | cons c t =>
      cases hT : tokenF (c :: t) at_ with
      | none => rw [toksF_none (by simp) hT] at h; cases h
      | some q =>
        obtain ⟨x, n⟩ := q
        rw [toksF_some hT] at h
        have h1 := ih h
        have h2 := tokenF_bound hT
        rw [List.length_append, List.length_singleton, List.length_drop, List.length_drop] at h1
        omega
theorem lexE_len {s : ByteArray} {l : List Tok} (h : lexE s = .ok l) : l.length ≤ 2000 ∧ s.size ≤ 2000 := by
  unfold lexE at h
  split at h
  · cases h
  · rename_i hs
    split at h
    · cases h
    · rename_i l' hl
      injection h with h
      subst h
      have h1 := toksF_len hl
      have h2 := size_data s
      rw [List.length_drop] at h1
      simp only [List.length_nil] at h1
      omega
def Short (alts : List Alt) : Prop := ∀ a ∈ alts, a.right.length ≤ 8
theorem Short.push {alts : List Alt} {a : Alt} (h : Short alts) (ha : a.right.length ≤ 8) : Short (alts ++ [a]) := by
  intro x hx
  rcases List.mem_append.1 hx with hx | hx
  · exact h x hx
  · rw [List.mem_singleton.1 hx]; exact ha
theorem altsF_short {en : Int} {left : Tok} : ∀ {k : Nat} {l : List Tok} {out : List Alt} {r : List Tok} {out' : List Alt}, altsF en left k l out = .ok (r, out') → Short out → Short out' := by
  intro k
  induction k with
  | zero => intro l out r out' h; cases h
  | succ k ih =>
    intro l out r out' h hs
    unfold altsF at h
    split at h
    · cases h
    · rename_i right more r1 ha
      split at h
      · cases h
      · rename_i hn
        have hp : Short (out ++ [⟨left, right⟩]) := hs.push (by show right.length ≤ 8; omega)
        split at h
        · exact ih h hp
        · injection h with h
          injection h with h2 h3
          subst h3
          exact hp
theorem defF_short {en : Int} {l : List Tok} {out : List Alt} {r : List Tok} {out' : List Alt} (h : defF en l out = .ok (r, out')) (hs : Short out) : Short out' := by
  unfold defF at h
  split at h
  · cases h
  · split at h
    · split at h
      · cases h
      · split at h
        · exact altsF_short h hs
        · cases h
    · cases h
theorem restF_short {en : Int} : ∀ {k : Nat} {l : List Tok} {out out' : List Alt}, restF en k l out = .ok out' → Short out → out.length ≤ 60 → Short out' ∧ out'.length ≤ 60 := by
  intro k
  induction k with
  | zero =>
    intro l out out' h hs hl
    cases l with
    | nil => injection h with h; subst h; exact ⟨hs, hl⟩
    | cons t r => cases h
  | succ k ih =>
    intro l out out' h hs hl
    cases l with
    | nil => injection h with h; subst h; exact ⟨hs, hl⟩
    | cons t r =>
      unfold restF at h
      split at h
      · cases h
      · rename_i r' o' hd
        exact ih h (defF_short hd hs) (defF_le hd).2
theorem readF_short {en : Int} {l : List Tok} {out : List Alt} (h : readF en l = .ok out) : Short out ∧ out.length ≤ 60 := by
  unfold readF at h
  split at h
  · cases h
  · rename_i r o hd
    exact restF_short h (defF_short hd (fun a ha => by cases ha)) (defF_le hd).2
theorem quotesF_len : ∀ (r : List Tok) (ts : List ByteArray), (quotesF r ts).length ≤ ts.length + r.length
  | [], ts => by simp [quotesF]
  | t :: r, ts => by
    unfold quotesF
    have h := quotesF_len r (if t.kind = 2 then addF ts t.text else ts)
    have h2 := addF_le ts t.text
    by_cases hk : t.kind = 2
    · rw [if_pos hk] at h ⊢
      simp only [List.length_cons]
      omega
    · rw [if_neg hk] at h ⊢
      simp only [List.length_cons]
      omega
theorem gatherF_len : ∀ (l : List Alt) (ts ns : List ByteArray), Short l → (gatherF l ts ns).1.length ≤ ts.length + 8 * l.length ∧ (gatherF l ts ns).2.length ≤ ns.length + l.length
  | [], ts, ns, _ => by simp [gatherF]
  | a :: r, ts, ns, hs => by
    unfold gatherF
    have h := gatherF_len r (quotesF a.right ts) (addF ns a.left.text) (fun x hx => hs x (List.mem_cons_of_mem _ hx))
    have h1 := quotesF_len a.right ts
    have h2 := addF_le ns a.left.text
    have h3 := hs a (List.mem_cons_self ..)
    simp only [List.length_cons]
    omega

theorem altF_err {en : Int} : ∀ {l acc : List Tok} {a p : Int}, altF en l acc = .error (a, p) → a = 12 := by
  intro l
  induction l with
  | nil => intro acc a p h; injection h with h; injection h with h _; exact h.symm
  | cons t l ih =>
    intro acc a p h
    unfold altF at h
    split at h
    · exact ih h
    · split at h
      · cases h
      · injection h with h; injection h with h _; exact h.symm
theorem altsF_err {en : Int} {left : Tok} : ∀ {k : Nat} {l : List Tok} {out : List Alt} {a p : Int}, altsF en left k l out = .error (a, p) → a ≠ 0 := by
  intro k
  induction k with
  | zero => intro l out a p h; injection h with h; injection h with h _; omega
  | succ k ih =>
    intro l out a p h
    unfold altsF at h
    split at h
    · rename_i e he
      injection h with h
      subst h
      have := altF_err he
      omega
    · split at h
      · injection h with h; injection h with h _; omega
      · split at h
        · exact ih h
        · cases h
theorem defF_err {en : Int} {l : List Tok} {out : List Alt} {a p : Int} (h : defF en l out = .error (a, p)) : a ≠ 0 := by
  unfold defF at h
  split at h
  · injection h with h; injection h with h _; omega
  · split at h
    · split at h
      · injection h with h; injection h with h _; omega
      · split at h
        · exact altsF_err h
        · injection h with h; injection h with h _; omega
    · injection h with h; injection h with h _; omega
theorem restF_err {en : Int} : ∀ {k : Nat} {l : List Tok} {out : List Alt} {a p : Int}, restF en k l out = .error (a, p) → a ≠ 0 := by
  intro k
  induction k with
  | zero =>
    intro l out a p h
    cases l with
    | nil => cases h
    | cons t r => injection h with h; injection h with h _; omega
  | succ k ih =>
    intro l out a p h
    cases l with
    | nil => cases h
    | cons t r =>
      unfold restF at h
      split at h
      · rename_i e he
        injection h with h
        subst h
        exact defF_err he
      · exact ih h
theorem readF_err {en : Int} {l : List Tok} {a p : Int} (h : readF en l = .error (a, p)) : a ≠ 0 := by
  unfold readF at h
  split at h
  · rename_i e he
    injection h with h
    subst h
    exact defF_err he
  · exact restF_err h
theorem lexE_err {s : ByteArray} {a p : Int} (h : lexE s = .error (a, p)) : a ≠ 0 := by
  unfold lexE at h
  split at h
  · injection h with h; injection h with h _; omega
  · split at h
    · injection h with h; injection h with h _; omega
    · cases h
def LexEnd (w : World) : Except (Int × Int) (List Tok) → Ending → World → Prop
  | .error (a, p), e, w' => e = .returned (.tuple #[.slice none 0 0, .agg #[.int .i64 a, .int .i64 p]])
  | .ok l, e, w' => ∃ v, e = .returned (.tuple #[v, .agg #[.int .i64 0, .int .i64 0]]) ∧ kTok.R 49 w' w.heap.size (fun _ => True) v l
theorem lex_c (s : ByteArray) (w : World) : Calls Try.prog 26 #[.string s] w fun e w' => LexEnd w (lexE s) e w' ∧ Below w.heap.size w w' := by
  by_cases hs : 2000 < s.size
  · refine (tokens_large s w hs).mono ?_
    rintro e w' ⟨rfl, hb⟩
    have h : lexE s = .error (14, 0) := by unfold lexE; rw [if_pos hs]
    rw [h]
    exact ⟨rfl, hb⟩
  · refine (tokens_c s w (by omega)).mono ?_
    rintro e w' ⟨ht, hb⟩
    refine ⟨?_, hb⟩
    unfold lexE
    rw [if_neg hs]
    revert ht
    cases toksF ((bsl s).length + 1) (skipF false (bsl s)) ((bsl s).drop (skipF false (bsl s))) [] with
    | error p => intro ht; exact ht
    | ok l => intro ht; exact ht

set_option maxRecDepth 100000 in
set_option maxHeartbeats 1000000 in
theorem ofRec_panicking (bp bq : Nat) (v1 v2 v3 : Value) (x y a at_ : Int) (older : List PanicEntry) (w w0 : World) (B : Nat) (hp : w.heap[bp]? = some (.cells #[v1, v2, v3] 25 (0, 0))) (hq : w.heap[bq]? = some (.cells #[.int .i64 x, .int .i64 y] 30 (0, 0))) (hpq : bp ≠ bq) (hBp : B ≤ bp) (hBq : B ≤ bq) (hb : Below B w0 w) :
    CallsD Try.prog 44 #[.pointer (some ⟨bp, 0, none⟩), .pointer (some ⟨bq, 0, none⟩)] (.panicking ({ v := .iface 30 (.agg #[.int .i64 a, .int .i64 at_]), recovered := false } :: older)) w fun e u' w' =>
      e = .returned (.tuple #[]) ∧ u' = .panicking ({ v := .iface 30 (.agg #[.int .i64 a, .int .i64 at_]), recovered := true } :: older) ∧ w'.heap[bp]? = some (.cells #[.slice none 0 0, .slice none 0 0, .slice none 0 0] 25 (0, 0)) ∧ w'.heap[bq]? = some (.cells #[.int .i64 a, .int .i64 at_] 30 (0, 0)) ∧ Below B w0 w' := by
  have hta : ∀ w, (Instr.typeAssert (.iface 30 (.agg #[.int .i64 a, .int .i64 at_])) 20 30 true).run Try.prog w = .ok (.tuple #[.agg #[.int .i64 a, .int .i64 at_], .bool true]) w := fun w => by kernel_rfl
  have n1 : ¬ bp = w.heap.size := by have := blk_lt hp; omega
  have n2 : ¬ bq = w.heap.size := by have := blk_lt hq; omega
  have n3 : ¬ w.heap.size = bp := fun h => n1 h.symm
  have n4 : ¬ w.heap.size = bq := fun h => n2 h.symm
  have n5 : ¬ bp = bq := hpq
  have n6 : ¬ bq = bp := fun h => hpq h.symm
  have hp1 := blk_alloc hp (.cells #[.int .i64 a, .int .i64 at_] 30 (0, 0))
  have hq1 := blk_alloc hq (.cells #[.int .i64 a, .int .i64 at_] 30 (0, 0))
  have hb1 := hb.alloc (by have := blk_lt hp; omega : B ≤ w.heap.size) (.cells #[.int .i64 a, .int .i64 at_] 30 (0, 0))
  have HN1 := Aside0.mk (blk_new w (.cells #[.int .i64 a, .int .i64 at_] 30 (0, 0)))
  have HP1 := Aside0.mk hp1
  have HQ1 := Aside0.mk hq1
  have HB1 := Aside0.mk hb1
  have c1 := blk_cell hp1 0
  have c4 := blk_cell hp1 1
  have c5 := blk_cell hp1 2
  have c2 := blk_cell hq1 0
  have c3 := blk_cell hq1 1
  have f1 := blk_frozen hp1 0
  have f4 := blk_frozen hp1 1
  have f5 := blk_frozen hp1 2
  have f2 := blk_frozen hq1 0
  have f3 := blk_frozen hq1 1
  clear hp hq hb hp1 hq1 hb1
  simp only [List.getElem?_toArray, List.getElem?_cons_zero, List.getElem?_cons_succ] at c1 c2 c3 c4 c5
  refine callsD_of_wpS Try.func44 rfl fun c₀ cs hu => ?_
  apply wpS_seq
  apply wpS_region
  simp [wpOpsS, go_sem, recoverD, hu, Try.ntmps44, Exit.thenS]
  refine wpS_of_wp ?_
  simp only [Array.replicate_succ, Array.replicate_zero, List.push_toArray, List.append_toArray, List.nil_append, List.cons_append, List.setIfInBounds_toArray, List.set_cons_zero, List.set_cons_succ]
  go_wp2
  refine start_ (n := 4) (S := fun w' => w'.heap[w.heap.size]? = some (.cells #[.int .i64 a, .int .i64 at_] 30 (0, 0))) (ds := [3]) #[false, false, false, false] (by kernel_rfl) rfl rfl (blk_drew HN1.out) (fun hHeld => ?_)
  refine pure_ (i := 0) (N := (some 16)) (v := ?_) (a' := ?_) #[true, false, false, false] rfl rfl (by kernel_rfl) (fun _ _ _ h => h) (Or.inl ⟨by rfl, ?_⟩) ?_ ?_
  rotate_left
  · (intro w'; go_simp; with_reducible rfl)
  rotate_left
  · (simp only [Act.put, List.setIfInBounds_toArray, List.set_cons_zero, List.set_cons_succ]; rfl)
  refine take_ (i := 1) (N := (some 17)) (v := ?_) (a' := ?_) #[true, true, false, false] rfl rfl (by kernel_rfl) (fun _ _ _ h => h) (Or.inl ⟨by rfl, ?_⟩) hHeld ?_ ?_
  rotate_left
  · (rintro w' s0; have d0 := blk_cell s0 0; have d1 := blk_cell s0 1; simp only [List.getElem?_toArray, List.getElem?_cons_zero, List.getElem?_cons_succ] at d0 d1; go_simp; with_reducible rfl)
  rotate_left
  · (simp only [Act.put, List.setIfInBounds_toArray, List.set_cons_zero, List.set_cons_succ]; rfl)
  refine one_ (i := 2) (N := none) #[true, true, true, false] rfl rfl (by kernel_rfl) (by decide) (fun K hK => ?_)
  refine skip_ (w1 := ?_) (by rfl) rfl ?_ ?_
  rotate_left
  · (go_simp; rfl)
  refine hK.out _ _ (blk_far (blk_far (blk_far hHeld n3 _) n3 _) n3 _) (fun hHeld => ?_)
  clear hK K
  refine last_ (i := 3) (N := none) #[true, true, true, true] rfl rfl (by kernel_rfl) (by decide) (fun K hK => ?_)
  skip
  refine skip_ (w1 := ?_) (by rfl) rfl ?_ ?_
  rotate_left
  · (go_simp; rfl)
  refine hK.out _ _ ?_
  clear hK K
  refine done_ (by kernel_rfl) ?_
  go_wp2
  refine ⟨rfl, _, rfl, .tuple #[], results_none rfl _ _ _, rfl, rfl, ?_, ?_, ?_⟩
  · exact blk_drew (blk_far (blk_far (blk_set (blk_set (blk_set HP1.out 0 _) 1 _) 2 _) hpq _) hpq _)
  · exact blk_drew (blk_set (blk_set (blk_far (blk_far (blk_far HQ1.out (fun h => hpq h.symm) _) (fun h => hpq h.symm) _) (fun h => hpq h.symm) _) 0 _) 1 _)
  · exact below_drew1 (below_set (below_set (below_set (below_set (below_set HB1.out hBp _ _) hBp _ _) hBp _ _) hBq _ _) hBq _ _)

set_option maxRecDepth 100000 in
theorem ofRec_idle (p q : Option Addr) (w : World) :
    CallsD Try.prog 44 #[.pointer p, .pointer q] .returning w fun e u' w' => e = .returned (.tuple #[]) ∧ u' = .returning ∧ w = w' := by
  refine callsD_of_wpS Try.func44 rfl fun c₀ cs hu => ?_
  apply wpS_seq
  apply wpS_region
  simp [wpOpsS, go_sem, recoverD, hu, Try.ntmps44, Exit.thenS]
  refine wpS_of_wp ?_
  simp only [Array.replicate_succ, Array.replicate_zero, List.push_toArray, List.append_toArray, List.nil_append, List.cons_append, List.setIfInBounds_toArray, List.set_cons_zero, List.set_cons_succ]
  go_wp2
  exact ⟨rfl, _, by cases c₀; simp_all, .tuple #[], results_none rfl _ _ _, rfl, rfl, rfl⟩
end Go.Proofs.Ytphmmppmhphgeaa
