/- Texts P13, P14, P15, P18, P20, X4, K1, P19, K2, K3, joined: contracts of functions of the program, and plain laws; each says what it proves. -/
import Derived.Test.YtdpdbgaoaibafaaJN
import Derived.Test.YtdpdbgaoaibafaaJE
import Derived.Test.YtdpdbgaoaibafaaJC
/- What may be nothing: just if one of its rules may; no terminal; no fewer with a rule more. -/
set_option linter.unusedVariables false
set_option linter.unusedSimpArgs false
namespace Go.Proofs.Ytdpdbgaoaibafaa

def someF (m : List Bool) (l : List Rule) (s : Int) : Bool := l.any fun r => decide (r.left = s) && allF m r.right
theorem someF_take {m : List Bool} {l : List Rule} {s : Int} {k : Nat} (h : k < l.length) : someF m (l.take (k + 1)) s = (someF m (l.take k) s || (decide ((l[k]'h).left = s) && allF m (l[k]'h).right)) := by
  rw [someF, List.take_succ_eq_append_getElem h, List.any_append]
  simp [someF]
theorem null_some {g : Gram} (h : goodF g = true) (s : Int) : getB (nullF g) s = someF (nullF g) g.rules s := by
  have hd := nullF_is h
  rw [Bool.eq_iff_iff, someF, List.any_eq_true]
  constructor
  · intro hs
    rcases ((hd.2 s).1 hs).cases_ with h0 | ⟨b, hb, ha⟩
    · exact h0.elim
    · obtain ⟨r, hr, he⟩ := List.mem_map.1 hb
      injection he with h1 h2
      exact ⟨r, hr, by rw [Bool.and_eq_true, decide_eq_true_eq]; exact ⟨h2, by rw [h1]; exact (hd.all b).2 ha⟩⟩
  · rintro ⟨r, hr, hrs⟩
    rw [Bool.and_eq_true, decide_eq_true_eq] at hrs
    exact (hd.2 s).2 (.step (List.mem_map.2 ⟨r, hr, by rw [hrs.1]⟩) ((hd.all _).1 hrs.2))
theorem null_term {g : Gram} (h : goodF g = true) {s : Int} (hs : s < g.terms.length) : getB (nullF g) s = false := by
  cases hb : getB (nullF g) s with
  | false => rfl
  | true => have := der_not_term h (((nullF_is h).2 s).1 hb); omega
theorem null_more {g h : Gram} (hg : goodF g = true) (hh : goodF h = true) (hr : ∀ r ∈ g.rules, r ∈ h.rules) {s : Int} (hs : getB (nullF g) s = true) : getB (nullF h) s = true := by
  refine ((nullF_is hh).2 s).2 ((((nullF_is hg).2 s).1 hs).mono (fun x hx => ?_) (fun _ h => h))
  obtain ⟨r, hr', rfl⟩ := List.mem_map.1 hx
  exact List.mem_map.2 ⟨r, hr r hr', rfl⟩
theorem ruleB_at {g : Gram} (h : goodF g = true) {k : Nat} (hk : k < g.rules.length) : ruleB g (k : Int) = allF (nullF g) (g.rules[k]'hk).right := by
  rw [ruleB, decide_eq_true (by omega : (0 : Int) ≤ k), decide_eq_true (by omega : (k : Int) < g.rules.length), allB, h]
  simp [hk]
end Go.Proofs.Ytdpdbgaoaibafaa

/- What a symbol reaches, what is productive, what is useful: closures, in plain Lean. -/
set_option linter.unusedVariables false
set_option linter.unusedSimpArgs false
namespace Go.Proofs.Ytdpdbgaoaibafaa

/-! ### productive -/
def termI (g : Gram) : Int → Prop := fun s => 0 ≤ s ∧ s < (g.terms.length : Int)
def firstT (k n : Nat) : List Bool := List.replicate k true ++ List.replicate (n - k) false
theorem firstT_len {k n : Nat} (h : k ≤ n) : (firstT k n).length = n := by simp [firstT]; omega
theorem getB_first {k n : Nat} (h : k ≤ n) (s : Int) : getB (firstT k n) s = decide (0 ≤ s ∧ s < (k : Int)) := by
  by_cases h0 : 0 ≤ s
  · obtain ⟨a, rfl⟩ := Int.eq_ofNat_of_zero_le h0
    rw [getB_nat, firstT, List.getD_eq_getElem?_getD, List.getElem?_append, List.length_replicate]
    by_cases ha : a < k
    · rw [if_pos ha, List.getElem?_replicate, if_pos ha]; simp; omega
    · rw [if_neg ha, List.getElem?_replicate]
      split <;> simp <;> omega
  · rw [getB_out (Or.inl (by omega))]
    symm; rw [decide_eq_false_iff_not]; omega
theorem firstT_set {k n : Nat} (h : k < n) : (firstT k n).set k true = firstT (k + 1) n := by
  refine List.ext_getElem (by rw [List.length_set, firstT_len (by omega), firstT_len (by omega)]) (fun i h1 h2 => ?_)
  have e1 := getB_first (k := k) (n := n) (by omega) (i : Int)
  have e2 := getB_first (k := k + 1) (n := n) (by omega) (i : Int)
  rw [getB_at (by simpa using h1)] at e1
  rw [getB_at h2] at e2
  rw [List.getElem_set, e2]
  split
  · subst_vars; symm; simp; omega
  · rw [e1, decide_eq_decide]; omega
def prodF (g : Gram) : List Bool := iter (roundF (hornN g)) (nsym g) (firstT g.terms.length (nsym g))
theorem prodF_is {g : Gram} (h : goodF g = true) : IsDer (hornN g) (termI g) (nsym g) (prodF g) :=
  rounds_is (hornN_in h) (firstT_len (by unfold nsym; omega)) (fun s => by rw [getB_first (by unfold nsym; omega)]; simp [termI])
/-! ### reached -/
def oneH (r : Rule) : Horn := r.right.map fun x => ([r.left], x)
def hornR (ok : Rule → Bool) (l : List Rule) : Horn := l.flatMap fun r => if ok r = true then oneH r else []
def fromI (a : Int) : Int → Prop := fun s => s = a
def reachF (g : Gram) (ok : Rule → Bool) (a : Int) : List Bool := iter (roundF (hornR ok g.rules)) (nsym g) (setB (List.replicate (nsym g) false) a)
theorem hornR_mem {ok : Rule → Bool} {l : List Rule} {x : List Int × Int} (h : x ∈ hornR ok l) : ∃ r ∈ l, ok r = true ∧ x.1 = [r.left] ∧ x.2 ∈ r.right := by
  obtain ⟨r, hr, hx⟩ := List.mem_flatMap.1 h
  split at hx
  · rename_i hok
    obtain ⟨s, hs, rfl⟩ := List.mem_map.1 hx
    exact ⟨r, hr, hok, rfl, hs⟩
  · cases hx
theorem mem_hornR {ok : Rule → Bool} {l : List Rule} {r : Rule} {s : Int} (hr : r ∈ l) (hok : ok r = true) (hs : s ∈ r.right) : ([r.left], s) ∈ hornR ok l :=
  List.mem_flatMap.2 ⟨r, hr, by rw [if_pos hok]; exact List.mem_map.2 ⟨s, hs, rfl⟩⟩
theorem hornR_in {g : Gram} (h : goodF g = true) (ok : Rule → Bool) : InR (nsym g) (hornR ok g.rules) := by
  intro x hx
  obtain ⟨r, hr, _, _, hs⟩ := hornR_mem hx
  exact (goodF_mem h r hr).2.2.2 _ hs
theorem reachF_is {g : Gram} (h : goodF g = true) (ok : Rule → Bool) {a : Int} (h0 : 0 ≤ a) (h1 : a < nsym g) : IsDer (hornR ok g.rules) (fromI a) (nsym g) (reachF g ok a) :=
  rounds_is (hornR_in h ok) (by rw [setB_len]; simp) (fun s => by rw [getB_set h0 (by simpa using h1), getB_replicate]; simp [fromI])
/-- A row that has the beginning, and with each symbol what its rules have, and nothing else. -/
theorem reach_of {g : Gram} (h : goodF g = true) {ok : Rule → Bool} {a : Int} (h0 : 0 ≤ a) (h1 : a < nsym g) {m : List Bool} (hl : m.length = nsym g) (hs : Sound (hornR ok g.rules) (fromI a) m) (ha : getB m a = true)
    (hc : ∀ r ∈ g.rules, ok r = true → getB m r.left = true → ∀ x ∈ r.right, getB m x = true) : m = reachF g ok a := by
  refine (IsDer.mk' hl hs ⟨fun s e => by rw [show s = a from e]; exact ha, fun x hx k => ?_⟩).unique (reachF_is h ok h0 h1)
  obtain ⟨r, hr, hok, e1, e2⟩ := hornR_mem hx
  rw [e1, allF_one'] at k
  exact hc r hr hok k _ e2
where allF_one' {m : List Bool} {x : Int} : allF m [x] = getB m x := by simp [allF]
/-- What one symbol's rule sets. -/
def setAll (m : List Bool) (l : List Int) : List Bool := l.foldl setB m
theorem setAll_len (m : List Bool) (l : List Int) : (setAll m l).length = m.length := by
  induction l generalizing m with
  | nil => rfl
  | cons x l ih => rw [setAll, List.foldl_cons]; exact (ih (setB m x)).trans (setB_len m x)
theorem setAll_take {m : List Bool} {l : List Int} {k : Nat} (h : k < l.length) : setAll m (l.take (k + 1)) = setB (setAll m (l.take k)) (l[k]'h) := by
  rw [setAll, List.take_succ_eq_append_getElem h, List.foldl_append]; rfl
theorem setAll_le : ∀ {l : List Int} {m : List Bool}, (∀ x ∈ l, 0 ≤ x ∧ x < m.length) → LeB m (setAll m l)
  | [], m, _ => LeB.refl m
  | x :: l, m, h => by
    have hx := h x List.mem_cons_self
    exact (LeB.set m hx.1 hx.2).trans (setAll_le (l := l) (m := setB m x) (fun y hy => by rw [setB_len]; exact h y (List.mem_cons_of_mem _ hy)))
theorem round_one {l : List Int} {left : Int} : ∀ {m : List Bool}, (∀ x ∈ l, 0 ≤ x ∧ x < m.length) → roundF (l.map fun x => ([left], x)) m = if getB m left = true then setAll m l else m := by
  induction l with
  | nil => intro m _; simp [roundF, setAll]
  | cons x l ih =>
    intro m h
    have hx := h x List.mem_cons_self
    rw [List.map_cons, roundF]
    have ha : allF m [left] = getB m left := by simp [allF]
    simp only [ha]
    by_cases hg : getB m left = true
    · rw [if_pos hg, if_pos hg, ih (fun y hy => by rw [setB_len]; exact h y (List.mem_cons_of_mem _ hy)), if_pos ((LeB.set m hx.1 hx.2).2 _ hg)]
      rfl
    · rw [if_neg hg, if_neg hg, ih (fun y hy => h y (List.mem_cons_of_mem _ hy)), if_neg hg]
def spreadR (ok : Rule → Bool) (m : List Bool) (r : Rule) : List Bool := if ok r = true ∧ getB m r.left = true then setAll m r.right else m
theorem round_rules {ok : Rule → Bool} {n : Nat} : ∀ {l : List Rule} {m : List Bool}, m.length = n → (∀ r ∈ l, ∀ x ∈ r.right, 0 ≤ x ∧ x < n) → roundF (hornR ok l) m = l.foldl (spreadR ok) m
  | [], m, _, _ => rfl
  | r :: l, m, hl, h => by
    rw [hornR, List.flatMap_cons, roundF_append, List.foldl_cons]
    have hr := h r List.mem_cons_self
    have e : roundF (if ok r = true then oneH r else []) m = spreadR ok m r := by
      unfold spreadR
      by_cases hok : ok r = true
      · rw [if_pos hok, oneH, round_one (by rw [hl]; exact hr)]
        by_cases hg : getB m r.left = true
        · rw [if_pos hg, if_pos ⟨hok, hg⟩]
        · rw [if_neg hg, if_neg (fun k => hg k.2)]
      · rw [if_neg hok, if_neg (fun k => hok k.1)]; rfl
    rw [e]
    refine round_rules ?_ (fun r hr => h r (List.mem_cons_of_mem _ hr))
    unfold spreadR
    split
    · rw [setAll_len]; exact hl
    · exact hl
/-! ### useful -/
def allOk : Rule → Bool := fun _ => true
def prodOk (g : Gram) : Rule → Bool := fun r => allF (prodF g) r.right
def usefulF (g : Gram) : List Bool := if getB (prodF g) g.terms.length = true then reachF g (prodOk g) g.terms.length else List.replicate (nsym g) false
end Go.Proofs.Ytdpdbgaoaibafaa

/- A queue's way to what is reached, in plain Lean. -/
set_option linter.unusedVariables false
set_option linter.unusedSimpArgs false
namespace Go.Proofs.Ytdpdbgaoaibafaa

def addM (m : List Bool) (s : Int) : List Bool := setB m s
def addQ (m : List Bool) (q : List Int) (s : Int) : List Int := if getB m s = true then q else q ++ [s]
/-- What a symbol's rules have is there. -/
def Shut (g : Gram) (ok : Rule → Bool) (m : List Bool) (s : Int) : Prop := ∀ r ∈ g.rules, ok r = true → r.left = s → ∀ x ∈ r.right, getB m x = true
theorem Shut.mono {g : Gram} {ok : Rule → Bool} {m m' : List Bool} {s : Int} (h : Shut g ok m s) (k : LeB m m') : Shut g ok m' s := fun r hr ho hl x hx => k.2 x (h r hr ho hl x hx)
/-- x is under way (or none is: x = -1). -/
structure RC (g : Gram) (ok : Rule → Bool) (a : Int) (n : Nat) (m : List Bool) (q : List Int) (x : Int) : Prop where
  sound : Sound (hornR ok g.rules) (fromI a) m
  here : getB m a = true
  done : ∀ s, getB m s = true → s ∈ q ∨ s = x ∨ Shut g ok m s
  len : m.length = n
  mark : ∀ s ∈ q, getB m s = true
  cur : x = -1 ∨ getB m x = true
theorem RC.start {g : Gram} {ok : Rule → Bool} {a : Int} {n : Nat} (h0 : 0 ≤ a) (h1 : a < n) : RC g ok a n (addM (List.replicate n false) a) (addQ (List.replicate n false) [] a) (-1) := by
  refine ⟨fun s hs => ?_, by rw [addM, getB_set h0 (by simpa using h1)]; simp, fun s hs => ?_, by rw [addM, setB_len]; simp, fun s hs => ?_, Or.inl rfl⟩
  · rw [addM, getB_set h0 (by simpa using h1), getB_replicate] at hs
    have e : s = a := by simpa using hs
    exact .init e
  · rw [addM, getB_set h0 (by simpa using h1), getB_replicate] at hs
    left
    rw [addQ, if_neg (by rw [getB_replicate]; decide)]
    simpa using hs
  · rw [addQ, if_neg (by rw [getB_replicate]; decide)] at hs
    have e : s = a := by simpa using hs
    subst e
    rw [addM, getB_set h0 (by simpa using h1)]; simp
theorem RC.take {g : Gram} {ok : Rule → Bool} {a : Int} {n : Nat} {m : List Bool} {q : List Int} {x : Int} (h : RC g ok a n m (x :: q) (-1)) : RC g ok a n m q x := by
  refine ⟨h.sound, h.here, fun s hs => ?_, h.len, fun s hs => h.mark s (List.mem_cons_of_mem _ hs), Or.inr (h.mark x List.mem_cons_self)⟩
  rcases h.done s hs with h1 | h1 | h1
  · rcases List.mem_cons.1 h1 with h1 | h1
    · exact Or.inr (Or.inl h1)
    · exact Or.inl h1
  · have := (getB_in hs).1; omega
  · exact Or.inr (Or.inr h1)
theorem RC.add {g : Gram} {ok : Rule → Bool} {a : Int} {n : Nat} {m : List Bool} {q : List Int} {x : Int} (h : RC g ok a n m q x) {r : Rule} {s : Int} (hr : r ∈ g.rules) (ho : ok r = true) (hl : getB m r.left = true) (hs : s ∈ r.right) (h0 : 0 ≤ s) (h1 : s < n) : RC g ok a n (addM m s) (addQ m q s) x := by
  have hle : LeB m (addM m s) := LeB.set m h0 (by rw [h.len]; exact h1)
  refine ⟨h.sound.set (b := [r.left]) (mem_hornR hr ho hs) (by simpa [allF] using hl) ⟨h0, by rw [h.len]; exact h1⟩, hle.2 _ h.here, fun t ht => ?_, by rw [addM, setB_len]; exact h.len, fun t ht => ?_, h.cur.imp_right (fun k => hle.2 _ k)⟩
  by_cases hm : getB m t = true
  · rcases h.done t hm with h2 | h2 | h2
    · left; unfold addQ; split
      · exact h2
      · exact List.mem_append_left _ h2
    · exact Or.inr (Or.inl h2)
    · exact Or.inr (Or.inr (h2.mono hle))
  · rw [addM, getB_set h0 (by rw [h.len]; exact h1)] at ht
    have e : t = s := by
      rw [Bool.or_eq_true, decide_eq_true_eq] at ht
      rcases ht with ht | ht
      · exact ht
      · exact absurd ht hm
    subst e
    left
    rw [addQ, if_neg hm]
    simp
  · unfold addQ at ht
    split at ht
    · exact hle.2 _ (h.mark t ht)
    · rcases List.mem_append.1 ht with ht | ht
      · exact hle.2 _ (h.mark t ht)
      · have e : t = s := by simpa using ht
        subst e
        rw [addM, getB_set h0 (by rw [h.len]; exact h1)]; simp
/-- All its rules gone through. -/
theorem RC.shut {g : Gram} {ok : Rule → Bool} {a : Int} {n : Nat} {m : List Bool} {q : List Int} {x : Int} (h : RC g ok a n m q x) (hx : Shut g ok m x) : RC g ok a n m q (-1) := by
  refine ⟨h.sound, h.here, fun s hs => ?_, h.len, h.mark, Or.inl rfl⟩
  rcases h.done s hs with h1 | h1 | h1
  · exact Or.inl h1
  · subst h1; exact Or.inr (Or.inr hx)
  · exact Or.inr (Or.inr h1)
theorem RC.final {g : Gram} (hg : goodF g = true) {ok : Rule → Bool} {a : Int} {n : Nat} (hn : nsym g = n) {m : List Bool} (h : RC g ok a n m [] (-1)) (h0 : 0 ≤ a) (h1 : a < n) : m = reachF g ok a := by
  refine reach_of hg h0 (by rw [hn]; exact h1) (by rw [h.len, hn]) h.sound h.here (fun r hr ho hl x hx => ?_)
  rcases h.done r.left hl with h2 | h2 | h2
  · cases h2
  · have := (getB_in hl).1; omega
  · exact h2 r hr ho rfl x hx
/-- The first k of a row added. -/
def addsM (m : List Bool) (l : List Int) : List Bool := l.foldl addM m
def addsQ : List Bool → List Int → List Int → List Int
  | m, q, [] => q
  | m, q, s :: l => addsQ (addM m s) (addQ m q s) l
theorem addsQ_append (m : List Bool) (q l r : List Int) : addsQ m q (l ++ r) = addsQ (addsM m l) (addsQ m q l) r := by
  induction l generalizing m q with
  | nil => rfl
  | cons s l ih => exact ih _ _
end Go.Proofs.Ytdpdbgaoaibafaa

/- With which terminals something begins: plain Lean. -/
set_option linter.unusedVariables false
set_option linter.unusedSimpArgs false
namespace Go.Proofs.Ytdpdbgaoaibafaa

/-! ### tables of truth values -/
abbrev Tab := List (List Bool)
def rowT (M : Tab) (s : Int) : List Bool := if 0 ≤ s then M.getD s.toNat [] else []
def getT (M : Tab) (s t : Int) : Bool := getB (rowT M s) t
theorem rowT_nat (M : Tab) (s : Nat) : rowT M (s : Int) = M.getD s [] := by simp [rowT]
theorem rowT_at {M : Tab} {s : Nat} (h : s < M.length) : rowT M (s : Int) = M[s] := by rw [rowT_nat, List.getD_eq_getElem?_getD, List.getElem?_eq_getElem h]; rfl
theorem rowT_out {M : Tab} {s : Int} (h : s < 0 ∨ (M.length : Int) ≤ s) : rowT M s = [] := by
  unfold rowT
  split
  · rw [List.getD_eq_getElem?_getD, List.getElem?_eq_none (by omega)]; rfl
  · rfl
theorem getT_in {M : Tab} {s t : Int} (h : getT M s t = true) : 0 ≤ s ∧ s < M.length := by
  by_cases h0 : s < 0 ∨ (M.length : Int) ≤ s
  · rw [getT, rowT_out h0, getB_out (by simp; omega)] at h; cases h
  · omega
/-- The shape of a table: so many rows, each so long. -/
def ShT (n m : Nat) (M : Tab) : Prop := M.length = n ∧ ∀ r ∈ M, r.length = m
theorem ShT.row {n m : Nat} {M : Tab} (h : ShT n m M) {s : Nat} (hs : s < n) : (rowT M (s : Int)).length = m := by
  rw [rowT_at (by rw [h.1]; exact hs)]
  exact h.2 _ (List.getElem_mem _)
theorem ShT.dom {n m : Nat} {M : Tab} (h : ShT n m M) {s t : Int} (k : getT M s t = true) : (0 ≤ s ∧ s < n) ∧ (0 ≤ t ∧ t < m) := by
  have h1 := getT_in k
  rw [h.1] at h1
  obtain ⟨a, rfl⟩ := Int.eq_ofNat_of_zero_le h1.1
  have h2 := getB_in k
  rw [h.row (by omega)] at h2
  exact ⟨h1, h2⟩
theorem tab_ext {n m : Nat} {M M' : Tab} (h : ShT n m M) (h' : ShT n m M') (he : ∀ s t : Nat, s < n → t < m → (getT M s t = true ↔ getT M' s t = true)) : M = M' := by
  refine List.ext_getElem (h.1.trans h'.1.symm) (fun s h1 h2 => ?_)
  have hs : s < n := by rw [← h.1]; exact h1
  have e1 := h.row hs
  have e2 := h'.row hs
  refine getB_ext (by rw [h.2 _ (List.getElem_mem _), h'.2 _ (List.getElem_mem _)]) (fun t ht => ?_)
  rw [h.2 _ (List.getElem_mem _)] at ht
  have := he s t hs ht
  rw [getT, getT, rowT_at h1, rowT_at h2] at this
  exact this
open Classical in
/-- The table of a relation. -/
noncomputable def tabOf (n m : Nat) (R : Int → Int → Prop) : Tab := (List.range n).map fun (s : Nat) => (List.range m).map fun (t : Nat) => decide (R (s : Int) (t : Int))
theorem tabOf_sh (n m : Nat) (R : Int → Int → Prop) : ShT n m (tabOf n m R) := by
  refine ⟨by simp [tabOf], fun r hr => ?_⟩
  obtain ⟨s, _, rfl⟩ := List.mem_map.1 hr
  simp
theorem getT_tabOf {n m : Nat} {R : Int → Int → Prop} {s t : Nat} (hs : s < n) (ht : t < m) : getT (tabOf n m R) s t = true ↔ R s t := by
  rw [getT, rowT_at (by rw [(tabOf_sh n m R).1]; exact hs), getB_at (by rw [(tabOf_sh n m R).2 _ (List.getElem_mem _)]; exact ht)]
  simp [tabOf]
theorem tabOf_eq {n m : Nat} {R : Int → Int → Prop} {M : Tab} (h : ShT n m M) (he : ∀ s t : Nat, s < n → t < m → (getT M s t = true ↔ R s t)) : M = tabOf n m R :=
  tab_ext h (tabOf_sh n m R) (fun s t hs ht => (he s t hs ht).trans (getT_tabOf hs ht).symm)
theorem tabOf_iff {n m : Nat} {R : Int → Int → Prop} (hR : ∀ s t, R s t → (0 ≤ s ∧ s < n) ∧ (0 ≤ t ∧ t < m)) (s t : Int) : getT (tabOf n m R) s t = true ↔ R s t := by
  constructor
  · intro h
    obtain ⟨⟨h0, h1⟩, h2, h3⟩ := (tabOf_sh n m R).dom h
    obtain ⟨a, rfl⟩ := Int.eq_ofNat_of_zero_le h0
    obtain ⟨b, rfl⟩ := Int.eq_ofNat_of_zero_le h2
    exact (getT_tabOf (by omega) (by omega)).1 h
  · intro h
    obtain ⟨⟨h0, h1⟩, h2, h3⟩ := hR s t h
    obtain ⟨a, rfl⟩ := Int.eq_ofNat_of_zero_le h0
    obtain ⟨b, rfl⟩ := Int.eq_ofNat_of_zero_le h2
    exact (getT_tabOf (by omega) (by omega)).2 h
/-- A row more: a or b. -/
def orF (a b : List Bool) : List Bool := List.zipWith (· || ·) a b
theorem orF_len {a b : List Bool} (h : a.length = b.length) : (orF a b).length = a.length := by simp [orF, h]
theorem getB_orF {a b : List Bool} (h : a.length = b.length) (t : Int) : getB (orF a b) t = (getB a t || getB b t) := by
  by_cases h0 : t < 0 ∨ (a.length : Int) ≤ t
  · rw [getB_out (by rw [orF_len h]; exact h0), getB_out h0, getB_out (by rw [← h]; exact h0)]; rfl
  · obtain ⟨k, rfl⟩ := Int.eq_ofNat_of_zero_le (by omega : 0 ≤ t)
    have hk : k < a.length := by omega
    rw [getB_at (by rw [orF_len h]; exact hk), getB_at hk, getB_at (by omega)]
    simp [orF]
def setRow (M : Tab) (s : Int) (r : List Bool) : Tab := M.set s.toNat r
theorem setRow_sh {n m : Nat} {M : Tab} (h : ShT n m M) (s : Int) {r : List Bool} (hr : r.length = m) : ShT n m (setRow M s r) := by
  refine ⟨by rw [setRow, List.length_set]; exact h.1, fun x hx => ?_⟩
  rcases List.mem_or_eq_of_mem_set hx with hx | rfl
  · exact h.2 x hx
  · exact hr
theorem rowT_set {M : Tab} {s s' : Int} {r : List Bool} (h0 : 0 ≤ s) (h1 : s < M.length) : rowT (setRow M s r) s' = if s' = s then r else rowT M s' := by
  obtain ⟨a, rfl⟩ := Int.eq_ofNat_of_zero_le h0
  by_cases hb : 0 ≤ s'
  · obtain ⟨b, rfl⟩ := Int.eq_ofNat_of_zero_le hb
    rw [rowT_nat, rowT_nat, setRow, Int.toNat_natCast, List.getD_eq_getElem?_getD, List.getD_eq_getElem?_getD, List.getElem?_set]
    by_cases hab : a = b
    · subst hab; simp [show a < M.length by omega]
    · simp [hab, show ¬ (b : Int) = (a : Int) by omega]
  · rw [rowT_out (Or.inl (by omega)), rowT_out (Or.inl (by omega)), if_neg (by omega)]
/-! ### what is set, in all -/
def cntT (M : Tab) : Nat := (M.map cnt).sum
theorem cntT_set {M : Tab} {s : Nat} (h : s < M.length) (r : List Bool) : cntT (M.set s r) + cnt M[s] = cntT M + cnt r := by
  unfold cntT
  induction M generalizing s with
  | nil => simp at h
  | cons a M ih =>
    cases s with
    | zero => simp; omega
    | succ s =>
      have := ih (s := s) (by simpa using h)
      simp only [List.set_cons_succ, List.map_cons, List.sum_cons, List.getElem_cons_succ]
      omega
theorem cntT_le {n m : Nat} {M : Tab} (h : ShT n m M) : cntT M ≤ n * m := by
  obtain ⟨h1, h2⟩ := h
  subst h1
  unfold cntT
  induction M with
  | nil => simp
  | cons a M ih =>
    have ha := h2 a List.mem_cons_self
    have h3 := cnt_le a
    have := ih (fun r hr => h2 r (List.mem_cons_of_mem _ hr))
    simp only [List.map_cons, List.sum_cons, List.length_cons, Nat.succ_mul]
    omega
/-! ### begins -/
/-- Of symbols in a row those that may stand in front. -/
def heads (nu : List Bool) : List Int → List Int
  | [] => []
  | x :: l => x :: (if getB nu x = true then heads nu l else [])
theorem heads_sub {nu : List Bool} : ∀ {l : List Int} {x : Int}, x ∈ heads nu l → x ∈ l
  | [], x, h => by cases h
  | y :: l, x, h => by
    rw [heads] at h
    rcases List.mem_cons.1 h with rfl | h
    · exact List.mem_cons_self
    · split at h
      · exact List.mem_cons_of_mem _ (heads_sub h)
      · cases h
theorem heads_append {nu : List Bool} : ∀ (l m : List Int), heads nu (l ++ m) = heads nu l ++ (if allF nu l = true then heads nu m else [])
  | [], m => by simp [heads, allF]
  | y :: l, m => by
    rw [List.cons_append, heads, heads, heads_append l m]
    have e : allF nu (y :: l) = (getB nu y && allF nu l) := by simp [allF]
    rw [e]
    by_cases h : getB nu y = true
    · rw [if_pos h, if_pos h, h, Bool.true_and, List.cons_append]
    · rw [if_neg h, if_neg h, Bool.not_eq_true] at *
      simp [h]
theorem heads_mono {nu nu' : List Bool} (h : ∀ s, getB nu s = true → getB nu' s = true) : ∀ {l : List Int} {x : Int}, x ∈ heads nu l → x ∈ heads nu' l
  | [], x, k => k
  | y :: l, x, k => by
    rw [heads] at *
    rcases List.mem_cons.1 k with rfl | k
    · exact List.mem_cons_self
    · split at k
      · rename_i hy
        rw [if_pos (h _ hy)]
        exact List.mem_cons_of_mem _ (heads_mono h k)
      · cases k
def termJ (g : Gram) (s : Int) : Prop := 0 ≤ s ∧ s < (g.terms.length : Int)
inductive Fst (g : Gram) (nu : List Bool) : Int → Int → Prop
  | term {t : Int} : termJ g t → Fst g nu t t
  | step {r : Rule} {x t : Int} : r ∈ g.rules → x ∈ heads nu r.right → Fst g nu x t → Fst g nu r.left t
theorem Fst.dom {g : Gram} {nu : List Bool} (h : goodF g = true) {s t : Int} (d : Fst g nu s t) : (0 ≤ s ∧ s < (nsym g : Int)) ∧ (0 ≤ t ∧ t < (g.terms.length : Int)) := by
  induction d with
  | term h0 => exact ⟨⟨h0.1, by have := h0.2; unfold nsym; omega⟩, h0⟩
  | step hr _ _ ih => exact ⟨by have := goodF_mem h _ hr; omega, ih.2⟩
theorem Fst.term_iff {g : Gram} {nu : List Bool} (h : goodF g = true) {s t : Int} (hs : s < (g.terms.length : Int)) : Fst g nu s t ↔ s = t ∧ 0 ≤ s := by
  constructor
  · intro d
    cases d with
    | term h0 => exact ⟨rfl, h0.1⟩
    | step hr _ _ => have := (goodF_mem h _ hr).1; omega
  · rintro ⟨rfl, h0⟩
    exact .term ⟨h0, hs⟩
theorem Fst.rule_iff {g : Gram} {nu : List Bool} {s t : Int} (hs : (g.terms.length : Int) ≤ s) : Fst g nu s t ↔ ∃ r ∈ g.rules, r.left = s ∧ ∃ x ∈ heads nu r.right, Fst g nu x t := by
  constructor
  · intro d
    cases d with
    | term h0 => have := h0.2; omega
    | step hr hx d => exact ⟨_, hr, rfl, _, hx, d⟩
  · rintro ⟨r, hr, rfl, x, hx, d⟩
    exact .step hr hx d
theorem Fst.mono {g h : Gram} {nu nu' : List Bool} (ht : h.terms = g.terms) (hr : ∀ r ∈ g.rules, r ∈ h.rules) (hn : ∀ s, getB nu s = true → getB nu' s = true) {s t : Int} (d : Fst g nu s t) : Fst h nu' s t := by
  induction d with
  | term h0 => exact .term (by unfold termJ at *; rw [ht]; exact h0)
  | step hm hx _ ih => exact .step (hr _ hm) (heads_mono hn hx) ih
/-- The table of all symbols' terminals. -/
noncomputable def firstF (g : Gram) : Tab := tabOf (nsym g) g.terms.length (Fst g (nullF g))
theorem firstF_sh (g : Gram) : ShT (nsym g) g.terms.length (firstF g) := tabOf_sh _ _ _
theorem firstF_iff {g : Gram} (h : goodF g = true) (s t : Int) : getT (firstF g) s t = true ↔ Fst g (nullF g) s t := tabOf_iff (fun s t d => Fst.dom h d) s t
/-- A table that has the terminals, is closed, and holds nothing else. -/
structure IsFst (g : Gram) (M : Tab) : Prop where
  sh : ShT (nsym g) g.terms.length M
  sound : ∀ s t, getT M s t = true → Fst g (nullF g) s t
  init : ∀ t, termJ g t → getT M t t = true
  closed : ∀ r ∈ g.rules, ∀ x ∈ heads (nullF g) r.right, ∀ t, getT M x t = true → getT M r.left t = true
theorem IsFst.eq {g : Gram} {M : Tab} (h : IsFst g M) : M = firstF g := by
  refine tabOf_eq h.sh (fun s t _ _ => ⟨h.sound _ _, fun d => ?_⟩)
  generalize (s : Int) = s' at d
  generalize (t : Int) = t' at d
  induction d with
  | term h0 => exact h.init _ h0
  | step hr hx _ ih => exact h.closed _ hr _ hx _ ih
/-- With what symbols in a row begin, laid onto a row. -/
def seqF (M : Tab) (nu : List Bool) : List Int → List Bool → List Bool
  | [], o => o
  | x :: l, o => if getB nu x = true then seqF M nu l (orF o (rowT M x)) else orF o (rowT M x)
theorem seqF_len {n m : Nat} {M : Tab} {nu : List Bool} (h : ShT n m M) : ∀ {l : List Int} {o : List Bool}, (∀ x ∈ l, 0 ≤ x ∧ x < (n : Int)) → o.length = m → (seqF M nu l o).length = m
  | [], o, _, ho => ho
  | x :: l, o, hl, ho => by
    have hx := hl x List.mem_cons_self
    obtain ⟨a, rfl⟩ := Int.eq_ofNat_of_zero_le hx.1
    have hr := h.row (s := a) (by omega)
    have e := orF_len (ho.trans hr.symm)
    rw [seqF]
    split
    · exact seqF_len h (fun y hy => hl y (List.mem_cons_of_mem _ hy)) (e.trans ho)
    · exact e.trans ho
theorem getB_seqF {n m : Nat} {M : Tab} {nu : List Bool} (h : ShT n m M) : ∀ {l : List Int} {o : List Bool}, (∀ x ∈ l, 0 ≤ x ∧ x < (n : Int)) → o.length = m → ∀ t : Int, (getB (seqF M nu l o) t = true ↔ getB o t = true ∨ ∃ x ∈ heads nu l, getT M x t = true)
  | [], o, _, ho, t => by simp [seqF, heads]
  | x :: l, o, hl, ho, t => by
    have hx := hl x List.mem_cons_self
    obtain ⟨a, rfl⟩ := Int.eq_ofNat_of_zero_le hx.1
    have hr := h.row (s := a) (by omega)
    have e := orF_len (ho.trans hr.symm)
    have eg := getB_orF (ho.trans hr.symm) t
    rw [seqF, heads]
    split
    · rw [getB_seqF h (fun y hy => hl y (List.mem_cons_of_mem _ hy)) (e.trans ho) t, eg, Bool.or_eq_true]
      constructor
      · rintro ((k | k) | ⟨y, hy, k⟩)
        · exact Or.inl k
        · exact Or.inr ⟨_, List.mem_cons_self, k⟩
        · exact Or.inr ⟨y, List.mem_cons_of_mem _ hy, k⟩
      · rintro (k | ⟨y, hy, k⟩)
        · exact Or.inl (Or.inl k)
        · rcases List.mem_cons.1 hy with rfl | hy
          · exact Or.inl (Or.inr k)
          · exact Or.inr ⟨y, hy, k⟩
    · rw [eg, Bool.or_eq_true]
      constructor
      · rintro (k | k)
        · exact Or.inl k
        · exact Or.inr ⟨_, List.mem_cons_self, k⟩
      · rintro (k | ⟨y, hy, k⟩)
        · exact Or.inl k
        · rcases List.mem_cons.1 hy with rfl | hy
          · exact Or.inr k
          · cases hy
/-- A row's members, rising. -/
def membF (m : List Bool) : List Int := ((List.range m.length).filter fun (i : Nat) => getB m (i : Int)).map fun (i : Nat) => (i : Int)
def membN (m : List Bool) (k : Nat) : List Int := ((List.range k).filter fun (i : Nat) => getB m (i : Int)).map fun (i : Nat) => (i : Int)
theorem membN_next (m : List Bool) (k : Nat) : membN m (k + 1) = if getB m (k : Int) = true then membN m k ++ [(k : Int)] else membN m k := by
  unfold membN
  rw [List.range_succ, List.filter_append, List.map_append]
  by_cases h : getB m (k : Int) = true
  · simp [h]
  · simp [h]
theorem membN_len (m : List Bool) (k : Nat) : (membN m k).length ≤ k := by
  unfold membN
  rw [List.length_map]
  have := List.length_filter_le (fun (i : Nat) => getB m (i : Int)) (List.range k)
  rwa [List.length_range] at this
theorem mem_membF {m : List Bool} {x : Int} : x ∈ membF m ↔ getB m x = true := by
  unfold membF
  rw [List.mem_map]
  constructor
  · rintro ⟨i, hi, rfl⟩
    exact (List.mem_filter.1 hi).2
  · intro h
    have hx := getB_in h
    obtain ⟨k, rfl⟩ := Int.eq_ofNat_of_zero_le hx.1
    exact ⟨k, List.mem_filter.2 ⟨List.mem_range.2 (by omega), h⟩, rfl⟩
noncomputable def setsF (g : Gram) : List (List Int) := (firstF g).map membF
noncomputable def beginsF (g : Gram) (l : List Int) : List Bool := seqF (firstF g) (nullF g) l (List.replicate g.terms.length false)
end Go.Proofs.Ytdpdbgaoaibafaa

/- With which terminals something begins: the plain laws of FirstRules, FirstBegins, FirstMore. -/
set_option linter.unusedVariables false
set_option linter.unusedSimpArgs false
namespace Go.Proofs.Ytdpdbgaoaibafaa

theorem replicate_sh {g : Gram} : (List.replicate g.terms.length false).length = g.terms.length := by simp
theorem right_in {g : Gram} (h : goodF g = true) {r : Rule} (hr : r ∈ g.rules) : ∀ x ∈ r.right, 0 ≤ x ∧ x < (nsym g : Int) := (goodF_mem h r hr).2.2.2
theorem beginsF_len {g : Gram} {l : List Int} (hl : ∀ x ∈ l, 0 ≤ x ∧ x < (nsym g : Int)) : (beginsF g l).length = g.terms.length := seqF_len (firstF_sh g) hl replicate_sh
theorem getB_begins {g : Gram} {l : List Int} (hl : ∀ x ∈ l, 0 ≤ x ∧ x < (nsym g : Int)) (t : Int) : getB (beginsF g l) t = true ↔ ∃ x ∈ heads (nullF g) l, getT (firstF g) x t = true := by
  rw [beginsF, getB_seqF (firstF_sh g) hl replicate_sh, getB_replicate]
  simp
theorem begins_append {g : Gram} {l m : List Int} (hl : ∀ x ∈ l, 0 ≤ x ∧ x < (nsym g : Int)) (hm : ∀ x ∈ m, 0 ≤ x ∧ x < (nsym g : Int)) (t : Int) :
    getB (beginsF g (l ++ m)) t = true ↔ getB (beginsF g l) t = true ∨ (allF (nullF g) l = true ∧ getB (beginsF g m) t = true) := by
  have hlm : ∀ x ∈ l ++ m, 0 ≤ x ∧ x < (nsym g : Int) := fun x hx => by
    rcases List.mem_append.1 hx with hx | hx
    · exact hl x hx
    · exact hm x hx
  rw [getB_begins hlm, getB_begins hl, getB_begins hm, heads_append]
  constructor
  · rintro ⟨x, hx, h⟩
    rcases List.mem_append.1 hx with hx | hx
    · exact Or.inl ⟨x, hx, h⟩
    · split at hx
      · rename_i ha
        exact Or.inr ⟨ha, x, hx, h⟩
      · cases hx
  · rintro (⟨x, hx, h⟩ | ⟨ha, x, hx, h⟩)
    · exact ⟨x, List.mem_append_left _ hx, h⟩
    · exact ⟨x, List.mem_append_right _ (by rw [if_pos ha]; exact hx), h⟩
/-! ### one symbol's row, gathered from its rules -/
theorem getB_setAll {l : List Int} : ∀ {m : List Bool}, (∀ x ∈ l, 0 ≤ x ∧ x < m.length) → ∀ t, (getB (setAll m l) t = true ↔ getB m t = true ∨ t ∈ l) := by
  induction l with
  | nil => intro m _ t; simp [setAll]
  | cons x l ih =>
    intro m h t
    have hx := h x List.mem_cons_self
    rw [setAll, List.foldl_cons]
    have := ih (m := setB m x) (fun y hy => by rw [setB_len]; exact h y (List.mem_cons_of_mem _ hy)) t
    rw [setAll] at this
    rw [this, getB_set hx.1 hx.2, List.mem_cons]
    simp
    constructor
    · rintro ((k | k) | k)
      · exact Or.inr (Or.inl k)
      · exact Or.inl k
      · exact Or.inr (Or.inr k)
    · rintro (k | k | k)
      · exact Or.inl (Or.inr k)
      · exact Or.inl (Or.inl k)
      · exact Or.inr k
def oneT (n : Nat) (b : Int) : List Bool := if b < (n : Int) then setB (List.replicate n false) b else List.replicate n false
theorem oneT_len (n : Nat) (b : Int) : (oneT n b).length = n := by
  unfold oneT
  split
  · rw [setB_len]; simp
  · simp
theorem getB_oneT {n : Nat} {b : Int} (h0 : 0 ≤ b) (t : Int) : getB (oneT n b) t = true ↔ t = b ∧ b < (n : Int) := by
  unfold oneT
  split
  · rename_i hb
    rw [getB_set h0 (by simpa using hb), getB_replicate]
    simp [hb]
  · rename_i hb
    rw [getB_replicate]
    simp [hb]
/-- What the rules of b, of those in l, begin with, marked. -/
noncomputable def gatherB (g : Gram) (b : Int) (m : List Bool) (l : List Rule) : List Bool := l.foldl (fun m r => if r.left = b then setAll m (membF (beginsF g r.right)) else m) m
theorem gatherB_take {g : Gram} {b : Int} {m : List Bool} {l : List Rule} {k : Nat} (h : k < l.length) : gatherB g b m (l.take (k + 1)) = if (l[k]'h).left = b then setAll (gatherB g b m (l.take k)) (membF (beginsF g (l[k]'h).right)) else gatherB g b m (l.take k) := by
  rw [gatherB, List.take_succ_eq_append_getElem h, List.foldl_append]
  rfl
theorem gatherB_len {g : Gram} {b : Int} {m : List Bool} {l : List Rule} : (gatherB g b m l).length = m.length := by
  unfold gatherB
  induction l generalizing m with
  | nil => rfl
  | cons r l ih =>
    rw [List.foldl_cons, ih]
    split
    · exact setAll_len _ _
    · rfl
theorem getB_gather {g : Gram} (h : goodF g = true) {b : Int} : ∀ {l : List Rule} {m : List Bool}, (∀ r ∈ l, r ∈ g.rules) → m.length = g.terms.length → ∀ t, (getB (gatherB g b m l) t = true ↔ getB m t = true ∨ ∃ r ∈ l, r.left = b ∧ getB (beginsF g r.right) t = true)
  | [], m, _, _, t => by simp [gatherB]
  | r :: l, m, hl, hm, t => by
    have hr := hl r List.mem_cons_self
    have hx : ∀ x ∈ membF (beginsF g r.right), 0 ≤ x ∧ x < m.length := fun x hx => by
      have := getB_in (mem_membF.1 hx)
      rw [beginsF_len (right_in h hr)] at this
      rw [hm]; exact this
    have e : gatherB g b m (r :: l) = gatherB g b (if r.left = b then setAll m (membF (beginsF g r.right)) else m) l := rfl
    rw [e, getB_gather h (fun y hy => hl y (List.mem_cons_of_mem _ hy)) (by split; rw [setAll_len]; exact hm; exact hm) t]
    by_cases hb : r.left = b
    · rw [if_pos hb, getB_setAll hx, mem_membF]
      constructor
      · rintro ((k | k) | ⟨y, hy, k⟩)
        · exact Or.inl k
        · exact Or.inr ⟨r, List.mem_cons_self, hb, k⟩
        · exact Or.inr ⟨y, List.mem_cons_of_mem _ hy, k⟩
      · rintro (k | ⟨y, hy, k⟩)
        · exact Or.inl (Or.inl k)
        · rcases List.mem_cons.1 hy with rfl | hy
          · exact Or.inl (Or.inr k.2)
          · exact Or.inr ⟨y, hy, k⟩
    · rw [if_neg hb]
      constructor
      · rintro (k | ⟨y, hy, k⟩)
        · exact Or.inl k
        · exact Or.inr ⟨y, List.mem_cons_of_mem _ hy, k⟩
      · rintro (k | ⟨y, hy, k⟩)
        · exact Or.inl k
        · rcases List.mem_cons.1 hy with rfl | hy
          · exact absurd k.1 hb
          · exact Or.inr ⟨y, hy, k⟩
/-- A symbol begins with what its rules' right sides begin with, a terminal with itself, and with nothing else. -/
theorem first_rules {g : Gram} (h : goodF g = true) {b : Nat} (hb : b < nsym g) : gatherB g b (oneT g.terms.length b) g.rules = rowT (firstF g) b := by
  have hsh := firstF_sh g
  refine getB_ext (by rw [gatherB_len, oneT_len, hsh.row hb]) (fun t ht => ?_)
  rw [getB_gather h (fun _ k => k) (oneT_len _ _), getB_oneT (by omega)]
  rw [show (getB (rowT (firstF g) (b : Int)) (t : Int) = true) ↔ Fst g (nullF g) b t from firstF_iff h b t]
  by_cases hbt : (b : Int) < (g.terms.length : Int)
  · rw [Fst.term_iff h hbt]
    constructor
    · rintro (k | ⟨r, hr, hrb, _⟩)
      · exact ⟨k.1.symm, by omega⟩
      · have := (goodF_mem h r hr).1; omega
    · rintro ⟨k, _⟩
      exact Or.inl ⟨k.symm, hbt⟩
  · rw [Fst.rule_iff (by omega)]
    constructor
    · rintro (k | ⟨r, hr, hrb, k⟩)
      · exact absurd k.2 hbt
      · obtain ⟨x, hx, k⟩ := (getB_begins (right_in h hr) t).1 k
        exact ⟨r, hr, hrb, x, hx, (firstF_iff h x t).1 k⟩
    · rintro ⟨r, hr, hrb, x, hx, k⟩
      exact Or.inr ⟨r, hr, hrb, (getB_begins (right_in h hr) t).2 ⟨x, hx, (firstF_iff h x t).2 k⟩⟩
/-! ### one rule more -/
theorem first_more {g h : Gram} (hg : goodF g = true) (hh : goodF h = true) (ht : h.terms = g.terms) (hr : ∀ r ∈ g.rules, r ∈ h.rules) {s t : Int} (hs : getT (firstF g) s t = true) : getT (firstF h) s t = true :=
  (firstF_iff hh s t).2 (((firstF_iff hg s t).1 hs).mono ht hr (fun _ k => null_more hg hh hr k))
/-! ### steps to what may stand in front -/
/-- The grammar whose right sides are cut behind what may stand in front. -/
def headG (g : Gram) : Gram := ⟨g.terms, g.names, g.rules.map fun r => ⟨r.left, heads (nullF g) r.right⟩⟩
theorem headG_mem {g : Gram} {r : Rule} (hr : r ∈ g.rules) : (⟨r.left, heads (nullF g) r.right⟩ : Rule) ∈ (headG g).rules := List.mem_map.2 ⟨r, hr, rfl⟩
theorem Der.from2 {R : Horn} {I : Int → Prop} {b s : Int} (hb : Der R I b) (h : Der R (fromI b) s) : Der R I s := by
  induction h with
  | init h => rw [show _ = b from h]; exact hb
  | step hm _ ih => exact .step hm ih
theorem Fst.der {g : Gram} {s t : Int} (d : Fst g (nullF g) s t) : Der (hornR (fun _ => true) (headG g).rules) (fromI s) t := by
  induction d with
  | term h0 => exact .init rfl
  | @step r x t hr hx _ ih =>
    have h1 : Der (hornR (fun _ => true) (headG g).rules) (fromI r.left) x := .step (mem_hornR (headG_mem hr) rfl hx) (fun y hy => by rw [List.mem_singleton.1 hy]; exact .init rfl)
    exact Der.from2 h1 ih
theorem Der.fst {g : Gram} {s t : Int} (d : Der (hornR (fun _ => true) (headG g).rules) (fromI s) t) : ∀ u, Fst g (nullF g) t u → Fst g (nullF g) s u := by
  induction d with
  | init h0 => rw [show _ = s from h0]; exact fun u k => k
  | @step b y hm _ ih =>
    obtain ⟨r', hr', _, e1, e2⟩ := hornR_mem hm
    obtain ⟨r, hr, rfl⟩ := List.mem_map.1 hr'
    simp only at e1 e2
    subst e1
    exact fun u k => ih r.left List.mem_cons_self u (.step hr e2 k)
theorem begins_steps {g : Gram} (h : goodF g = true) {s t : Int} (h0 : 0 ≤ t) (h1 : t < (g.terms.length : Int)) : getT (firstF g) s t = true ↔ Der (hornR (fun _ => true) (headG g).rules) (fromI s) t :=
  (firstF_iff h s t).trans ⟨Fst.der, fun d => d.fst t (.term ⟨h0, h1⟩)⟩
theorem begins_two {g : Gram} {l m : List Int} (hl : ∀ x ∈ l, 0 ≤ x ∧ x < (nsym g : Int)) (hm : ∀ x ∈ m, 0 ≤ x ∧ x < (nsym g : Int)) :
    setAll (setAll (List.replicate g.terms.length false) (membF (beginsF g l))) (if allF (nullF g) l = true then membF (beginsF g m) else []) = beginsF g (l ++ m) := by
  have hlm : ∀ x ∈ l ++ m, 0 ≤ x ∧ x < (nsym g : Int) := fun x hx => by
    rcases List.mem_append.1 hx with hx | hx
    · exact hl x hx
    · exact hm x hx
  have h1 : ∀ x ∈ membF (beginsF g l), 0 ≤ x ∧ x < ((List.replicate g.terms.length false).length : Int) := fun x hx => by
    have := getB_in (mem_membF.1 hx)
    rw [beginsF_len hl] at this
    simpa using this
  have h2 : ∀ x ∈ (if allF (nullF g) l = true then membF (beginsF g m) else []), 0 ≤ x ∧ x < ((setAll (List.replicate g.terms.length false) (membF (beginsF g l))).length : Int) := fun x hx => by
    split at hx
    · have := getB_in (mem_membF.1 hx)
      rw [beginsF_len hm] at this
      rw [setAll_len]
      simpa using this
    · cases hx
  refine getB_ext (by rw [setAll_len, setAll_len, beginsF_len hlm]; simp) (fun t _ => ?_)
  rw [getB_setAll h2, getB_setAll h1, getB_replicate, mem_membF, begins_append hl hm]
  constructor
  · rintro ((k | k) | k)
    · cases k
    · exact Or.inl k
    · split at k
      · rename_i ha
        exact Or.inr ⟨ha, mem_membF.1 k⟩
      · cases k
  · rintro (k | ⟨ha, k⟩)
    · exact Or.inl (Or.inr k)
    · rw [if_pos ha]
      exact Or.inr (mem_membF.2 k)
end Go.Proofs.Ytdpdbgaoaibafaa

/- Rows of truth values of one's own: copied, written. -/
set_option linter.unusedVariables false
set_option linter.unusedSimpArgs false
namespace Go.Proofs.Ytdpdbgaoaibafaa
open Go.RowKit Go.Proofs.YtdpdbgaoaibafaaW.PrintWords Go.Proofs.YtdpdbgaoaibafaaW.PrintLast
theorem add0_ (q i : Nat) : (⟨q, 0, none⟩ : Addr).add i = ⟨q, i, none⟩ := by
  unfold Addr.add
  simp
  intro h0
  exact h0.symm
theorem bools_new (W : World) (base : Nat) (hb : base ≤ W.heap.size) (ok : Nat → Prop) (hok : ok W.heap.size) : kBool.R 4 (W.alloc (.cells #[] 4)) base ok (.slice (some ⟨W.heap.size, 0, none⟩) 0 0) [] := by
  have h := own_lit_of (enc := Value.bool) W base 4 [] hb (by simp)
  exact Kd.R_of_own h (fun k hk => by
    have : W.heap.size = k := by simpa [Value.ownBlock] using hk
    subst this
    exact hok)
/-- A row of one's own, written out: its block, what lies there. -/
def NB (W : World) (base g cap n : Nat) (xs : List Bool) : Prop := kBool.R 4 W base (fun _ => True) (.slice (some ⟨g, 0, none⟩) n cap) xs
section
variable {W W1 : World} {base g cap n : Nat} {xs : List Bool}
theorem NB.len (h : NB W base g cap n xs) : n = xs.length := (Kd.R_reads' h).1
theorem NB.C (h : NB W base g cap n xs) : Kd.bool.C W (some ⟨g, 0, none⟩) n xs := by
  obtain ⟨e, _, h2⟩ := Kd.R_reads' h
  rw [e]; exact h2
theorem NB.below (h : NB W base g cap n xs) (hb : Below W.heap.size W W1) : NB W1 base g cap n xs := Kd.R_below h hb
theorem NB.cell (h : NB W base g cap n xs) {i : Nat} (hi : i < xs.length) : W.cell? ⟨g, i, none⟩ = some (.bool xs[i]) := by
  have hC := h.C
  obtain ⟨ad, e, hc⟩ := at_bool hC i hi
  injection e with e
  subst e
  rw [show (⟨g, 0, none⟩ : Addr).add i = ⟨g, i, none⟩ by unfold Addr.add; simp; intro h0; exact h0.symm] at hc
  exact hc
theorem NB.fz (h : NB W base g cap n xs) {i : Nat} (hi : i < n) : W.frozen? ⟨g, i, none⟩ = false := by
  have := (Kd.R_celln (α := Bool) (enc := Value.bool) false h (i : Int) (by omega) (by omega)).2
  simpa using this
theorem NB.set (h : NB W base g cap n xs) (i : Nat) (v : Bool) : NB (W.setCell ⟨g, i, none⟩ (.bool v)) base g cap n (xs.set i v) := by
  have := Kd.R_putn (α := Bool) (enc := Value.bool) h (i : Int) v
  rw [Int.toNat_natCast] at this
  exact this
theorem NB.base_ (h : NB W base g cap n xs) (hn : 0 < n) : base ≤ g ∧ g < W.heap.size := by
  obtain ⟨g', cap', e, h1, h2, _⟩ := Kd.R_form h (by rw [← h.len]; exact hn)
  injection e with e
  injection e with e
  injection e with e _
  subst e
  exact ⟨h1, h2⟩
end
section
variable {ops : Array Oper} {rest : List Oper} {oi : Oper} {a : Act} {Q : Exit → Act → World → Prop} {w0 W : World} {N : Option Tmp} {s x : Operand} {A : Option Addr} {c : Nat}
/-- A copy of truth values: onto a new row of none. -/
theorem pl_copy_bools {ys : List Bool} (hw : Region.wanted oi (yielded ops a.tmps) = true) (hN : oi.dst = N) (ho : oi.op = .call { callee := .builtin .append, args := #[s, x], argTypes := #[60, 60] })
    (hb : Below w0.heap.size w0 W) (hl : ys.length ≤ 1000000000000) (hl0 : 0 < ys.length) (hs : a.eval s = .slice (some ⟨w0.heap.size, 0, none⟩) 0 0) (hx : a.eval x = .slice A ys.length c) (HC : Kd.bool.C w0 A ys.length ys) (hW : W = w0.alloc (.cells #[] 4))
    (h : ∀ g' c' w1, NB w1 w0.heap.size g' c' ys.length ys → Below w0.heap.size w0 w1 → WpL Try.prog ops Q rest (a.put N (.slice (some ⟨g', 0, none⟩) ys.length c')) w1) : WpL Try.prog ops Q (oi :: rest) a W := by
  subst hN hW
  refine ⟨wpList_step fun K hK =>  Kd.R_append_rows_step kBool w0.heap.size hw s x 60 4 _ 1 ho Try.underlying60 infoBool rfl (by decide) (by decide) _ [] ys A ys.length c (fun _ => True) (fun _ => False) hs hx (bools_new w0 w0.heap.size (Nat.le_refl _) _ trivial) (Kd.C_below HC hb) (fun x cs h => h) (fun _ h => h.elim) (fun _ _ => trivial) hb (by simp) (by simp; omega) (fun v1 w1 hr hb1 hg hat => ?_)⟩
  rw [List.nil_append] at hr
  obtain ⟨g', c', e, _⟩ := Kd.R_form hr hl0
  subst e
  exact hK _ _ (h g' c' w1 hr hb1).out
end
end Go.Proofs.Ytdpdbgaoaibafaa

/- Tables of truth values in memory; the contracts of first's small functions: join, list, drained, of. -/
set_option linter.unusedVariables false
set_option linter.unusedSimpArgs false
namespace Go.Proofs.Ytdpdbgaoaibafaa
open Go.RowKit Go.Proofs.YtdpdbgaoaibafaaW.PrintWords Go.Proofs.YtdpdbgaoaibafaaW.PrintLast

/-! ### a block is written, the others stay -/
structure Upd (W W' : World) (p : Nat) : Prop where
  below : Below p W W'
  far : ∀ k, k ≠ p → W'.heap[k]? = W.heap[k]?
theorem Upd.refl (W : World) (p : Nat) : Upd W W p := ⟨Below.refl _ _, fun _ _ => rfl⟩
theorem Upd.set {W W' : World} {p : Nat} (h : Upd W W' p) (i : Nat) (v : Value) : Upd W (W'.setCell ⟨p, i, none⟩ v) p :=
  ⟨below_set h.below (Nat.le_refl _) i v, fun k hk => (Below.heap_setCell W' ⟨p, i, none⟩ v k hk).trans (h.far k hk)⟩
theorem Upd.bb {W W' : World} {p q : Nat} {m : List Bool} (h : Upd W W' p) (hq : BB W q m) (hpq : q ≠ p) : BB W' q m := (h.far q hpq).trans hq
theorem Upd.blk {W W' : World} {p q : Nat} {o : Obj} (h : Upd W W' p) (hq : W.heap[q]? = some o) (hpq : q ≠ p) : W'.heap[q]? = some o := (h.far q hpq).trans hq
theorem Upd.low {B : Nat} {W0 W W' : World} {p : Nat} (h : Upd W W' p) (hb : Below B W0 W) (hp : B ≤ p) : Below B W0 W' := hb.trans (h.below.mono hp)
theorem Upd.cell {W W' : World} {p : Nat} {a : Addr} {v : Value} (h : Upd W W' p) (hc : W.cell? a = some v) (ha : a.block ≠ p) : W'.cell? a = some v :=
  (World.cell?_of_block (w := W) (h.far a.block ha)).trans hc
/-! ### a table -/
structure TT (W : World) (lo g : Nat) (bs : List Nat) (m : Nat) (M : Tab) : Prop where
  cell : ∀ i (h : i < bs.length), W.cell? ⟨g, i, none⟩ = some (.slice (some ⟨bs[i], 0, none⟩) m m)
  row : ∀ i (h : i < bs.length), BB W bs[i] (rowT M (i : Int))
  nodup : bs.Nodup
  out : g ∉ bs
  sh : ShT bs.length m M
  lo1 : lo ≤ g
  lo2 : ∀ b ∈ bs, lo ≤ b
section
variable {W W' : World} {lo g : Nat} {bs : List Nat} {m : Nat} {M : Tab}
theorem TT.below (h : TT W lo g bs m M) (hb : Below W.heap.size W W') : TT W' lo g bs m M :=
  ⟨fun i hi => pw_cell_below hb (h.cell i hi), fun i hi => (h.row i hi).below hb, h.nodup, h.out, h.sh, h.lo1, h.lo2⟩
theorem TT.lower (h : TT W lo g bs m M) {lo' : Nat} (hl : lo' ≤ lo) : TT W lo' g bs m M := ⟨h.cell, h.row, h.nodup, h.out, h.sh, Nat.le_trans hl h.lo1, fun b hb => Nat.le_trans hl (h.lo2 b hb)⟩
/-- Another block, of none of the table, is written. -/
theorem TT.other (h : TT W lo g bs m M) {p : Nat} (hu : Upd W W' p) (hg : g ≠ p) (hp : p ∉ bs) : TT W' lo g bs m M :=
  ⟨fun i hi => hu.cell (h.cell i hi) hg, fun i hi => hu.bb (h.row i hi) (fun e => hp (e ▸ List.getElem_mem _)), h.nodup, h.out, h.sh, h.lo1, h.lo2⟩
/-- One of its rows is written. -/
theorem TT.upd (h : TT W lo g bs m M) {i : Nat} (hi : i < bs.length) {r : List Bool} (hr : r.length = m) (hu : Upd W W' bs[i]) (hb : BB W' bs[i] r) : TT W' lo g bs m (setRow M (i : Int) r) := by
  refine ⟨fun j hj => hu.cell (h.cell j hj) (fun e => h.out ?_), fun j hj => ?_, h.nodup, h.out, setRow_sh h.sh _ hr, h.lo1, h.lo2⟩
  · have e' : g = bs[i] := e
    rw [e']
    exact List.getElem_mem _
  · rw [rowT_set (by omega) (by have := h.sh.1; omega)]
    by_cases hij : j = i
    · subst hij
      rw [if_pos rfl]
      exact hb
    · rw [if_neg (by omega)]
      refine hu.bb (h.row j hj) (fun e => hij ?_)
      exact (List.getElem_inj h.nodup).1 e
theorem TT.set (h : TT W lo g bs m M) {i : Nat} (hi : i < bs.length) (j : Nat) (v : Bool) : TT (W.setCell ⟨bs[i], j, none⟩ (.bool v)) lo g bs m (setRow M (i : Int) ((rowT M (i : Int)).set j v)) :=
  h.upd hi (by rw [List.length_set]; exact h.sh.row hi) ((Upd.refl W bs[i]).set j (.bool v)) ((h.row i hi).set j v)
theorem TT.rlen (h : TT W lo g bs m M) {i : Nat} (hi : i < bs.length) : (rowT M (i : Int)).length = m := h.sh.row hi
end
/-! ### how much is set -/
def isTV : Value → Bool
  | .bool true => true
  | _ => false
def cntV (W : World) (b : Nat) : Nat := match W.heap[b]? with | some (.cells cs _ _) => cs.toList.countP isTV | _ => 0
theorem BB.cntV {W : World} {b : Nat} {m : List Bool} (h : BB W b m) : cntV W b = cnt m := by
  unfold Go.Proofs.Ytdpdbgaoaibafaa.cntV
  rw [h]
  simp only [List.countP_map, cnt]
  congr 1
  funext x
  cases x <;> rfl
def cntVs (W : World) (bs : List Nat) : Nat := (bs.map (cntV W)).sum
theorem TT.cntVs {W : World} {lo g : Nat} {bs : List Nat} {m : Nat} {M : Tab} (h : TT W lo g bs m M) : cntVs W bs = cntT M := by
  unfold Go.Proofs.Ytdpdbgaoaibafaa.cntVs cntT
  congr 1
  refine List.ext_getElem (by simp [h.sh.1]) (fun i h1 h2 => ?_)
  simp only [List.length_map] at h1 h2
  rw [List.getElem_map, List.getElem_map, (h.row i h1).cntV, rowT_at h2]
/-! ### join -/
def moreN (x y : List Bool) (k : Nat) : Bool := (List.range k).any fun (t : Nat) => getB y (t : Int) && !getB x (t : Int)
def moreF (x y : List Bool) : Bool := moreN x y y.length
theorem moreN_next (x y : List Bool) (k : Nat) : moreN x y (k + 1) = (moreN x y k || (getB y (k : Int) && !getB x (k : Int))) := by simp [moreN, List.range_succ, List.any_append]
def orK (x y : List Bool) (k : Nat) : List Bool := orF x ((y.take k) ++ List.replicate (y.length - k) false)
theorem orK_len {x y : List Bool} (h : x.length = y.length) {k : Nat} (hk : k ≤ y.length) : (orK x y k).length = x.length := orF_len (by simp; omega)
theorem getB_orK {x y : List Bool} (h : x.length = y.length) {k : Nat} (hk : k ≤ y.length) (t : Nat) : getB (orK x y k) (t : Int) = (getB x (t : Int) || (decide (t < k) && getB y (t : Int))) := by
  rw [orK, getB_orF (by simp; omega), getB_nat (y.take k ++ _), List.getD_eq_getElem?_getD, List.getElem?_append, List.length_take, Nat.min_eq_left hk]
  congr 1
  by_cases htk : t < k
  · rw [if_pos htk, List.getElem?_take, if_pos htk, getB_nat, List.getD_eq_getElem?_getD]
    simp [htk]
  · rw [if_neg htk, List.getElem?_replicate]
    simp only [htk, decide_false, Bool.false_and]
    split <;> rfl
theorem orK_zero {x y : List Bool} (h : x.length = y.length) : orK x y 0 = x := by
  refine getB_ext (orK_len h (Nat.zero_le _)) (fun i _ => ?_)
  rw [getB_orK h (Nat.zero_le _)]
  simp
theorem orK_all {x y : List Bool} (h : x.length = y.length) : orK x y y.length = orF x y := by
  unfold orK
  simp
theorem orK_set {x y : List Bool} (h : x.length = y.length) {k : Nat} (hk : k < y.length) : (orK x y k).set k (getB x (k : Int) || getB y (k : Int)) = orK x y (k + 1) := by
  refine List.ext_getElem (by rw [List.length_set, orK_len h (by omega), orK_len h (by omega)]) (fun i h1 h2 => ?_)
  have e2 := getB_orK h (k := k + 1) (by omega) i
  rw [getB_at h2] at e2
  rw [List.getElem_set, e2]
  split
  · subst_vars; simp
  · have e1 := getB_orK h (k := k) (by omega) i
    rw [List.length_set] at h1
    rw [getB_at h1] at e1
    rw [e1, show decide (i < k) = decide (i < k + 1) from by rw [decide_eq_decide]; omega]
theorem orK_self {x y : List Bool} (h : x.length = y.length) {k : Nat} (hk : k < y.length) : getB (orK x y k) (k : Int) = getB x (k : Int) := by
  rw [getB_orK h (by omega)]; simp
set_option maxRecDepth 100000 in
set_option maxHeartbeats 4000000 in
theorem join_c (p q n : Nat) (x y : List Bool) (w : World) (hp : BB w p x) (hq : BB w q y) (hx : x.length = n) (hy : y.length = n) (hpq : q ≠ p) (hn : n ≤ 100) :
    Calls Try.prog 100 #[.slice (some ⟨p, 0, none⟩) n n, .slice (some ⟨q, 0, none⟩) n n] w fun e w' => e = .returned (.bool (moreF x y)) ∧ BB w' p (orF x y) ∧ Upd w w' p := by
  have HQ := Aside0.mk hq
  have HX := Aside0.mk (hx.trans hy.symm)
  have HP0 : Aside0 (BB w p (orK x y 0)) := ⟨by rw [orK_zero (hx.trans hy.symm)]; exact hp⟩
  clear hp hq
  go_enter Try.func100, Try.ntmps100
  go_wp2
  go_loopw [10, 5] (fun i mv wr => ∃ k : Nat, k ≤ n ∧ i = .int .i64 k ∧ mv = .bool (moreN x y k) ∧ Aside0 (BB wr p (orK x y k)) ∧ Aside0 (Upd w wr p)) (fun i _ _ => n - (intOf i).toNat)
  case atStart => exact ⟨0, Nat.zero_le _, rfl, rfl, HP0, ⟨Upd.refl _ _⟩⟩
  case round =>
    clear HP0
    obtain ⟨k, hk, rfl, rfl, HP, HU⟩ := hrel
    by_cases hlt : k < n
    · have i1 : (0 : Int) ≤ (k : Int) := by omega
      have i2 : (k : Int) < (n : Int) := by omega
      have HS := Aside0.mk (HP.out.set k (getB x (k : Int) || getB y (k : Int)))
      rw [orK_set HX.out (by omega)] at HS
      have HUS := Aside0.mk (HU.out.set k (.bool (getB x (k : Int) || getB y (k : Int))))
      have HM := Lib.hid (moreN_next x y k)
      have fz := HP.out.fz k
      obtain ⟨mb, hmb⟩ : ∃ b, moreN x y k = b := ⟨_, rfl⟩
      obtain ⟨xb, hxb⟩ : ∃ b, getB x (k : Int) = b := ⟨_, rfl⟩
      obtain ⟨yb, hyb⟩ : ∃ b, getB y (k : Int) = b := ⟨_, rfl⟩
      have z1 := HP.out.cell' (i := k) (by rw [orK_len HX.out (by omega)]; omega) ((orK_self HX.out (by omega)).trans hxb)
      have z2 := (HU.out.bb HQ.out hpq).cell' (i := k) (by omega) hyb
      rw [hmb, hxb, hyb] at HM
      rw [hxb, hyb] at HS HUS
      rw [hmb]
      clear hmb hxb hyb
      cases mb <;> cases xb <;> cases yb
      all_goals
        go_wp2
        go_roundw
        case rel => exact ⟨k + 1, by omega, by go_num, by rw [HM.out]; rfl, HS, HUS⟩
        case measure => simp [intOf]; omega
    · have hke : k = n := by omega
      have HE : Aside0 (BB wr p (orF x y)) := ⟨by have := HP.out; rwa [hke, ← hy, orK_all HX.out] at this⟩
      have HF : Aside0 (moreN x y k = moreF x y) := ⟨by rw [moreF, hke, hy]⟩
      rw [HF.out]
      go_wp2
      go_ret
      exact ⟨rfl, HE.out, HU.out⟩
theorem join_v (p q n : Nat) (x y : List Bool) (w : World) (hp : BB w p x) (hq : BB w q y) (hx : x.length = n) (hy : y.length = n) (hpq : q ≠ p) (hn : n ≤ 100) {v : Bool} (hv : moreF x y = v) :
    Calls Try.prog 100 #[.slice (some ⟨p, 0, none⟩) n n, .slice (some ⟨q, 0, none⟩) n n] w fun e w' => e = .returned (.bool v) ∧ BB w' p (orF x y) ∧ Upd w w' p := by
  subst hv; exact join_c p q n x y w hp hq hx hy hpq hn
/-! ### list -/
theorem membN_all {m : List Bool} {k : Nat} (h : k = m.length) : membN m k = membF m := by subst h; rfl
set_option maxRecDepth 100000 in
set_option maxHeartbeats 4000000 in
theorem list_c (b n : Nat) (x : List Bool) (w : World) (hb : BB w b x) (hx : x.length = n) (hn : n ≤ 100) :
    Calls Try.prog 67 #[.slice (some ⟨b, 0, none⟩) n n] w fun e w' => (∃ v, e = .returned v ∧ kInt.R 3 w' w.heap.size (fun _ => True) v (membF x)) ∧ Below w.heap.size w w' := by
  have HX := Aside0.mk hb
  clear hb
  go_enter Try.func67, Try.ntmps67
  go_wp2
  go_loopw [8, 3] (fun i l wr => ∃ k : Nat, k ≤ n ∧ i = .int .i64 k ∧ Aside0 (kInt.R 3 wr w.heap.size (fun _ => True) l (membN x k)) ∧ Aside0 (Below w.heap.size w wr)) (fun i _ _ => n - (intOf i).toNat)
  case atStart => exact ⟨0, Nat.zero_le _, rfl, ⟨Kd.R_nil _ _ _ _ _⟩, ⟨Below.refl _ _⟩⟩
  case round =>
    obtain ⟨k, hk, rfl, HR, HB⟩ := hrel
    rename World => wi
    obtain ⟨Ar, cr, rfl⟩ := Kd.R_slice HR.out
    by_cases hlt : k < n
    · have i1 : (0 : Int) ≤ (k : Int) := by omega
      have i2 : (k : Int) < (n : Int) := by omega
      have HT := Lib.hid (membN_next x k)
      have HPL := Lib.hid (membN_len x k)
      obtain ⟨P, hP⟩ : ∃ P, P = membN x k := ⟨_, rfl⟩
      rw [← hP] at HR HT HPL ⊢
      clear hP
      obtain ⟨yb, hyb⟩ : ∃ c, getB x (k : Int) = c := ⟨_, rfl⟩
      have z2 := (HX.out.below HB.out).cell' (i := k) (by omega) hyb
      rw [hyb] at HT
      clear hyb
      cases yb
      · go_wp2
        go_roundw
        case rel => exact ⟨k + 1, by omega, by go_num, by rw [HT.out]; exact HR, HB⟩
        case measure => simp [intOf]; omega
      · go_wp2_with (at_builtin; refine app_int (w0 := w) (base := w.heap.size) (p := (k : Int)) rfl rfl HR.out HB.out HB.out.size (by have := HPL.out; omega) (fun _ _ => trivial) rfl (by simp [Act.eval]) ?_; intro v2 w2 A2; obtain ⟨A', c', rfl⟩ := A2.shape; have HR2 := Aside0.mk A2.row; have HB2 := Aside0.mk A2.below; clear A2)
        go_roundw
        case rel => exact ⟨k + 1, by omega, by go_num, by rw [HT.out]; exact HR2, HB2⟩
        case measure => simp [intOf]; omega
    · have hke : k = n := by omega
      have HE : Aside0 (kInt.R 3 wi w.heap.size (fun _ => True) (.slice Ar (membF x).length cr) (membF x)) := ⟨by have := HR.out; rwa [membN_all (by rw [hx]; exact hke)] at this⟩
      rw [membN_all (by rw [hx]; exact hke)]
      go_wp2
      go_ret
      exact ⟨⟨_, rfl, HE.out⟩, HB.out⟩
end Go.Proofs.Ytdpdbgaoaibafaa

/- How a table of beginnings grows: plain Lean. -/
set_option linter.unusedVariables false
set_option linter.unusedSimpArgs false
namespace Go.Proofs.Ytdpdbgaoaibafaa

theorem moreF_iff {x y : List Bool} : moreF x y = true ↔ ∃ t : Nat, getB y (t : Int) = true ∧ getB x (t : Int) = false := by
  unfold moreF moreN
  rw [List.any_eq_true]
  constructor
  · rintro ⟨t, _, h⟩
    rw [Bool.and_eq_true, Bool.not_eq_true'] at h
    exact ⟨t, h.1, h.2⟩
  · rintro ⟨t, h1, h2⟩
    exact ⟨t, List.mem_range.2 (by have := (getB_in h1).2; omega), by rw [h1, h2]; rfl⟩
theorem moreF_no {x y : List Bool} (h : moreF x y = false) {t : Int} (k : getB y t = true) : getB x t = true := by
  obtain ⟨a, rfl⟩ := Int.eq_ofNat_of_zero_le (getB_in k).1
  cases hx : getB x (a : Int) with
  | true => rfl
  | false => rw [moreF_iff.2 ⟨a, k, hx⟩] at h; cases h
theorem orF_le {x y : List Bool} (h : x.length = y.length) : LeB x (orF x y) := ⟨(orF_len h).symm, fun t k => by rw [getB_orF h, k]; rfl⟩
theorem orF_no {x y : List Bool} (h : x.length = y.length) (k : moreF x y = false) : orF x y = x := by
  refine getB_ext (orF_len h) (fun t _ => ?_)
  rw [getB_orF h, Bool.or_eq_true]
  exact ⟨fun k' => k'.elim id (moreF_no k), Or.inl⟩
theorem orF_more {x y : List Bool} (h : x.length = y.length) (k : moreF x y = true) : cnt x + 1 ≤ cnt (orF x y) := by
  obtain ⟨t, h1, h2⟩ := moreF_iff.1 k
  refine Nat.lt_of_not_le (fun hle => ?_)
  have e := (orF_le h).cnt_eq hle
  have e2 := getB_orF h (t : Int)
  rw [← e, h1, h2] at e2
  cases e2
/-- The terminals are there, and what is there is right. -/
structure PF (g : Gram) (M : Tab) : Prop where
  sh : ShT (nsym g) g.terms.length M
  sound : ∀ s t, getT M s t = true → Fst g (nullF g) s t
  init : ∀ t, termJ g t → getT M t t = true
def zeroT (g : Gram) : List Bool := List.replicate g.terms.length false
theorem zeroT_len (g : Gram) : (zeroT g).length = g.terms.length := by simp [zeroT]
def seqT (g : Gram) (M : Tab) (r : Rule) : List Bool := seqF M (nullF g) r.right (zeroT g)
def joinM (g : Gram) (M : Tab) (r : Rule) : Tab := setRow M r.left (orF (rowT M r.left) (seqT g M r))
section
variable {g : Gram} {M : Tab} {r : Rule}
theorem getB_seqT (hg : goodF g = true) (h : ShT (nsym g) g.terms.length M) (hr : r ∈ g.rules) (t : Int) : getB (seqT g M r) t = true ↔ ∃ x ∈ heads (nullF g) r.right, getT M x t = true := by
  rw [seqT, getB_seqF h (right_in hg hr) (zeroT_len g), zeroT, getB_replicate]
  simp
theorem seqT_len (hg : goodF g = true) (h : ShT (nsym g) g.terms.length M) (hr : r ∈ g.rules) : (seqT g M r).length = g.terms.length := seqF_len h (right_in hg hr) (zeroT_len g)
theorem left_row (hg : goodF g = true) (h : ShT (nsym g) g.terms.length M) (hr : r ∈ g.rules) : (rowT M r.left).length = g.terms.length ∧ 0 ≤ r.left ∧ r.left < (M.length : Int) := by
  have hm := goodF_mem hg r hr
  obtain ⟨k, hk⟩ := Int.eq_ofNat_of_zero_le (show (0 : Int) ≤ r.left by omega)
  rw [hk]
  exact ⟨h.row (by omega), by omega, by rw [h.1]; omega⟩
theorem PF.setT (hg : goodF g = true) (h : PF g M) (hr : r ∈ g.rules) {x t : Int} (hx : x ∈ heads (nullF g) r.right) (ht : getT M x t = true) : PF g (setRow M r.left (setB (rowT M r.left) t)) := by
  obtain ⟨l1, l2, l3⟩ := left_row hg h.sh hr
  have ht2 := (h.sh.dom ht).2
  have hs : ∀ s u, getT (setRow M r.left (setB (rowT M r.left) t)) s u = (decide (s = r.left ∧ u = t) || getT M s u) := by
    intro s u
    rw [getT, rowT_set l2 l3]
    by_cases hsl : s = r.left
    · rw [if_pos hsl, getB_set ht2.1 (by rw [l1]; exact ht2.2), hsl]
      simp [getT]
    · rw [if_neg hsl]
      simp [hsl, getT]
  refine ⟨setRow_sh h.sh _ (by rw [setB_len]; exact l1), fun s u k => ?_, fun u hu => by rw [hs, h.init u hu]; simp⟩
  rw [hs, Bool.or_eq_true, decide_eq_true_eq] at k
  rcases k with ⟨rfl, rfl⟩ | k
  · exact .step hr hx (h.sound _ _ ht)
  · exact h.sound _ _ k
theorem PF.join (hg : goodF g = true) (h : PF g M) (hr : r ∈ g.rules) : PF g (joinM g M r) := by
  obtain ⟨l1, l2, l3⟩ := left_row hg h.sh hr
  have e := l1.trans (seqT_len hg h.sh hr).symm
  have hs : ∀ s u, getT (joinM g M r) s u = if s = r.left then (getT M s u || getB (seqT g M r) u) else getT M s u := by
    intro s u
    rw [joinM, getT, rowT_set l2 l3]
    by_cases hsl : s = r.left
    · rw [if_pos hsl, if_pos hsl, getB_orF e, hsl, getT]
    · rw [if_neg hsl, if_neg hsl, getT]
  refine ⟨setRow_sh h.sh _ (by rw [orF_len e]; exact l1), fun s u k => ?_, fun u hu => ?_⟩
  · rw [hs] at k
    split at k
    · rename_i hsl
      rw [Bool.or_eq_true] at k
      rcases k with k | k
      · exact h.sound _ _ k
      · obtain ⟨x, hx, k⟩ := (getB_seqT hg h.sh hr u).1 k
        rw [hsl]
        exact .step hr hx (h.sound _ _ k)
    · exact h.sound _ _ k
  · rw [hs]
    split
    · rw [h.init u hu]; rfl
    · exact h.init u hu
/-- Nothing has come: it stays, and is closed by the rule. -/
theorem joinM_no (hg : goodF g = true) (h : PF g M) (hr : r ∈ g.rules) (k : moreF (rowT M r.left) (seqT g M r) = false) : joinM g M r = M ∧ ∀ x ∈ heads (nullF g) r.right, ∀ t, getT M x t = true → getT M r.left t = true := by
  obtain ⟨l1, l2, l3⟩ := left_row hg h.sh hr
  refine ⟨?_, fun x hx t ht => moreF_no k ((getB_seqT hg h.sh hr t).2 ⟨x, hx, ht⟩)⟩
  rw [joinM, orF_no (l1.trans (seqT_len hg h.sh hr).symm) k, setRow]
  obtain ⟨a, ha⟩ := Int.eq_ofNat_of_zero_le l2
  rw [ha, rowT_at (by omega), Int.toNat_natCast]
  exact List.set_getElem_self (by omega)
theorem joinM_more (hg : goodF g = true) (h : PF g M) (hr : r ∈ g.rules) (k : moreF (rowT M r.left) (seqT g M r) = true) : cntT M + 1 ≤ cntT (joinM g M r) := by
  obtain ⟨l1, l2, l3⟩ := left_row hg h.sh hr
  have h1 := orF_more (l1.trans (seqT_len hg h.sh hr).symm) k
  obtain ⟨a, ha⟩ := Int.eq_ofNat_of_zero_le l2
  have hal : a < M.length := by omega
  have h2 := cntT_set hal (orF (rowT M r.left) (seqT g M r))
  rw [joinM, setRow, ha, Int.toNat_natCast]
  rw [ha, rowT_at hal] at h1 h2
  rw [rowT_at hal]
  omega
theorem PF.fin (h : PF g M) (hc : ∀ r ∈ g.rules, ∀ x ∈ heads (nullF g) r.right, ∀ t, getT M x t = true → getT M r.left t = true) : M = firstF g := IsFst.eq ⟨h.sh, h.sound, h.init, hc⟩
/-- The table at the beginning. -/
def initT (n m : Nat) : Tab := (List.range n).map fun (s : Nat) => oneT m (s : Int)
theorem initT_len (n m : Nat) : (initT n m).length = n := by simp [initT]
theorem initT_next (k m : Nat) : initT (k + 1) m = initT k m ++ [oneT m (k : Int)] := by simp [initT, List.range_succ]
theorem initT_at {n m s : Nat} (h : s < n) : rowT (initT n m) (s : Int) = oneT m (s : Int) := by
  rw [rowT_at (by rw [initT_len]; exact h)]
  simp [initT]
theorem initT_no {k m : Nat} (h : m ≤ k) : initT k m ++ [List.replicate m false] = initT (k + 1) m := by
  rw [initT_next, oneT, if_neg (by omega)]
theorem initT_put {k m : Nat} (h : k < m) : setRow (initT k m ++ [List.replicate m false]) (k : Int) ((rowT (initT k m ++ [List.replicate m false]) (k : Int)).set k true) = initT (k + 1) m := by
  rw [initT_next, oneT, if_pos (by omega), setRow, Int.toNat_natCast, rowT_at (by simp [initT_len])]
  simp [initT_len, List.set_append, setB]
theorem PF.start : PF g (initT (nsym g) g.terms.length) := by
  have hs : ∀ s u, getT (initT (nsym g) g.terms.length) s u = true → s = u ∧ termJ g u := by
    intro s u k
    have h1 := getT_in k
    rw [initT_len] at h1
    obtain ⟨a, rfl⟩ := Int.eq_ofNat_of_zero_le h1.1
    rw [getT, initT_at (by omega), getB_oneT (by omega)] at k
    exact ⟨k.1.symm, by rw [k.1]; exact ⟨by omega, k.2⟩⟩
  refine ⟨⟨initT_len _ _, fun r hr => ?_⟩, fun s u k => ?_, fun u hu => ?_⟩
  · obtain ⟨s, _, rfl⟩ := List.mem_map.1 hr
    exact oneT_len _ _
  · obtain ⟨rfl, k⟩ := hs s u k
    exact .term k
  · obtain ⟨a, rfl⟩ := Int.eq_ofNat_of_zero_le hu.1
    have := hu.2
    rw [getT, initT_at (by unfold nsym; omega), getB_oneT (by omega)]
    exact ⟨rfl, hu.2⟩
end
end Go.Proofs.Ytdpdbgaoaibafaa

/- The contracts of first's drained and of. -/
set_option linter.unusedVariables false
set_option linter.unusedSimpArgs false
namespace Go.Proofs.Ytdpdbgaoaibafaa
open Go.RowKit Go.Proofs.YtdpdbgaoaibafaaW.PrintWords Go.Proofs.YtdpdbgaoaibafaaW.PrintLast Go.Conc

theorem Upd.chan {W W' : World} {p : Nat} (h : Upd W W' p) (hp : p < W'.heap.size) (cap : Nat) (buf : Array Value) (cl : Bool) (s r : Nat) (tm : Bool) : Upd W (W'.setChan p cap buf cl s r tm) p :=
  ⟨below_setChan h.below (Nat.le_refl _) _ _ _ _ _ _, fun k hk => by
    rw [← h.far k hk]
    simp [World.setChan, Array.getElem?_setIfInBounds_ne (Ne.symm hk)]⟩
def DIn (w : World) (c cap k0 r0 : Nat) (a : Act) (W : World) : Prop :=
  ∃ (u1 u2 u4 u5 u6 u7 u8 : Value) (k r : Nat), a = { tmps := (List.toArray (.chan (some c) :: u1 :: u2 :: .bool (decide (r0 < r)) :: u4 :: u5 :: u6 :: u7 :: u8 :: [])), defers := [] } ∧ CH W c cap k r ∧ k + r = k0 + r0 ∧ r0 ≤ r ∧ Upd w W c
set_option maxRecDepth 100000 in
set_option maxHeartbeats 4000000 in
theorem drained_c (c cap k0 r0 : Nat) (w : World) (h : CH w c cap k0 r0) :
    Calls Try.prog 101 #[.chan (some c)] w fun e w' => e = .returned (.bool (decide (0 < k0))) ∧ CH w' c cap 0 (r0 + k0) ∧ Upd w w' c := by
  have HC := Aside0.mk h
  clear h
  refine calls_of_wpN Try.func101 rfl ?_
  simp only [Try.ntmps101, List.size_toArray, List.length_cons, List.length_nil, Nat.reduceAdd, Nat.reduceSub, Array.replicate_succ, Array.replicate_zero, List.push_toArray, List.append_toArray, List.nil_append, List.cons_append]
  refine wpN_seq_k (fun K hK => ?_)
  go_wp2
  refine wpN_seq_k (fun K hK => ?_)
  go_wp2
  refine wpN_block ?_
  refine wpN_loop (DIn w c cap k0 r0) (fun a W => (k0 + r0) - rcvd W c) ?_ ?_
  · exact ⟨_, _, _, _, _, _, _, k0, r0, by rw [decide_eq_false (Nat.lt_irrefl r0)], HC.out, rfl, Nat.le_refl _, Upd.refl _ _⟩
  clear HC
  rintro _ W ⟨u1, u2, u4, u5, u6, u7, u8, k, r, rfl, hc, hkr, hr, hu⟩ K hK
  have HC := Aside0.mk hc
  have HU := Aside0.mk hu
  clear hc hu
  refine wpN_seq_n (fun K1 hK1 => ?_)
  refine wpN_block ?_
  refine wpN_seq_k (fun K2 hK2 => ?_)
  go_wp2
  refine wpN_seq_n (fun K3 hK3 => ?_)
  refine wpN_region ?_
  show inN _ _ [0, 1, 2] _ _ _
  obtain ⟨buf, s, hch, hbk⟩ := HC.out
  have hcW : c < W.heap.size := (Array.getElem?_eq_some_iff.1 hch).1
  have HBK := Lib.hid hbk
  clear hbk
  by_cases h0 : 0 < k
  · refine inN_take (c := c) (cap := cap) (buf := buf) (s := s) (r := r) (tm := false) (closed := false) (o := ?o1) (z := ?z1) (w₁ := ?w1) (by simp only [List.getElem?_toArray, List.getElem?_cons_zero, List.getElem?_cons_succ]; rfl) (by rfl) ?h1 ?c1 (by have := HBK.out; omega) ?_
    case h1 => (go_simp; first | rfl | (constructor; rfl; rfl))
    case c1 => exact hch
    simp only [Act.put, List.setIfInBounds_toArray, List.set_cons_zero, List.set_cons_succ]
    refine inN_value (o := ?o2) (v := ?v2) (w' := ?w2) (by simp only [List.getElem?_toArray, List.getElem?_cons_zero, List.getElem?_cons_succ]; rfl) (by rfl) ?h2 ?_
    case h2 => (go_simp; first | rfl | (constructor; rfl; rfl))
    simp only [Act.put, List.setIfInBounds_toArray, List.set_cons_zero, List.set_cons_succ]
    refine inN_value (o := ?o3) (v := ?v3) (w' := ?w3) (by simp only [List.getElem?_toArray, List.getElem?_cons_zero, List.getElem?_cons_succ]; rfl) (by rfl) ?h3 ?_
    case h3 => (go_simp; first | rfl | (constructor; rfl; rfl))
    simp only [Act.put, List.setIfInBounds_toArray, List.set_cons_zero, List.set_cons_succ]
    refine inN_nil ?_
    simp only [Exit.inBlock, Exit.then]
    refine hK3 _ _ ?_
    refine wpN_of_wp ?_
    have HC2 : Aside0 (CH (W.setChan c cap (buf.extract 1 buf.size) false s (r + 1) false) c cap (k - 1) (r + 1)) := ⟨⟨_, s, heap_setChan _ _ _ _ _ _ _ _ hcW, by have := HBK.out; simp; omega⟩⟩
    have HU2 := Aside0.mk (HU.out.chan hcW cap (buf.extract 1 buf.size) false s (r + 1) false)
    have HLT : Aside0 ((k0 + r0) - rcvd (W.setChan c cap (buf.extract 1 buf.size) false s (r + 1) false) c < (k0 + r0) - rcvd W c) := ⟨by rw [HC2.out.rcvd, HC.out.rcvd]; omega⟩
    clear hch
    go_wp2
    refine wpN_of_wp ?_
    go_wp2
    exact ⟨⟨_, _, _, _, _, _, _, k - 1, r + 1, by rw [decide_eq_true (by omega : r0 < r + 1)], HC2.out, by omega, by omega, HU2.out⟩, HLT.out⟩
  · obtain rfl : k = 0 := by omega
    have hb0 : buf = #[] := Array.eq_empty_of_size_eq_zero HBK.out
    rw [hb0] at hch
    refine inN_default (c := c) (cap := cap) (s := s) (r := r) (tm := false) (o := ?o4) (z := ?z4) (w₁ := ?w4) (by simp only [List.getElem?_toArray, List.getElem?_cons_zero, List.getElem?_cons_succ]; rfl) (by rfl) ?h4 ?c4 ?_
    case h4 => (go_simp; first | rfl | (constructor; rfl; rfl))
    case c4 => exact hch
    simp only [Act.put, List.setIfInBounds_toArray, List.set_cons_zero, List.set_cons_succ]
    refine inN_value (o := ?o5) (v := ?v5) (w' := ?w5) (by simp only [List.getElem?_toArray, List.getElem?_cons_zero, List.getElem?_cons_succ]; rfl) (by rfl) ?h5 ?_
    case h5 => (go_simp; first | rfl | (constructor; rfl; rfl))
    simp only [Act.put, List.setIfInBounds_toArray, List.set_cons_zero, List.set_cons_succ]
    refine inN_value (o := ?o6) (v := ?v6) (w' := ?w6) (by simp only [List.getElem?_toArray, List.getElem?_cons_zero, List.getElem?_cons_succ]; rfl) (by rfl) ?h6 ?_
    case h6 => (go_simp; first | rfl | (constructor; rfl; rfl))
    simp only [Act.put, List.setIfInBounds_toArray, List.set_cons_zero, List.set_cons_succ]
    refine inN_nil ?_
    simp only [Exit.inBlock, Exit.then]
    refine hK3 _ _ ?_
    refine wpN_of_wp ?_
    have HE : Aside0 (decide (r0 < r) = decide (0 < k0)) := ⟨by rw [decide_eq_decide]; omega⟩
    have HR : Aside0 (CH W c cap 0 (r0 + k0)) := ⟨by rw [show r0 + k0 = r by omega]; exact HC.out⟩
    clear hch hb0
    rw [HE.out]
    go_wp2
    go_ret
    exact ⟨rfl, HR.out, HU.out⟩
/-! ### of -/
set_option maxRecDepth 100000 in
set_option maxHeartbeats 8000000 in
theorem of1_c (tl nl rl n g cg bn d : Nat) (A1 A2 A3 L : Option Addr) (c1 c2 c3 : Nat) (bs : List Nat) (M : Tab) (nu : List Bool) (l : List Int) (w : World) (lo : Nat) (ht : TT w lo g bs tl M) (hbs : bs.length = n) (hnu : BB w bn nu) (hnl : nu.length = n) (hn : n ≤ 100) (htl : tl ≤ 100)
    (hl : kInt.C w L l.length l) (hin : ∀ x ∈ l, 0 ≤ x ∧ x < (n : Int)) :
    Calls Try.prog 69 #[.agg #[.slice A1 tl c1, .slice A2 nl c2, .slice A3 rl c3, .slice (some ⟨g, 0, none⟩) n cg, .slice (some ⟨bn, 0, none⟩) n n], .slice L l.length d] w fun e w' =>
      (∃ b, e = .returned (.slice (some ⟨b, 0, none⟩) tl tl) ∧ BB w' b (seqF M nu l (List.replicate tl false)) ∧ w.heap.size ≤ b) ∧ Below w.heap.size w w' := by
  have hlm := C_max hl
  have HIN := Aside0.mk hin
  have HTT := Aside0.mk ht
  have HNU := Aside0.mk hnu
  have HL := Aside0.mk hl
  have HBS := Lib.hid hbs
  have HNL := Lib.hid hnl
  have hmk := print_make_of (P := Try.prog) 60 4 (.bool false) 1 Try.underlying60 (by kernel_rfl) rfl (by decide) tl (by omega)
  obtain ⟨w1, hw1⟩ : ∃ w1 : World, w1 = w.alloc (.cells #[.slice A1 tl c1, .slice A2 nl c2, .slice A3 rl c3, .slice (some ⟨g, 0, none⟩) n cg, .slice (some ⟨bn, 0, none⟩) n n] 103 (0, 0)) := ⟨_, rfl⟩
  have HP1 : Aside0 (w1.heap[w.heap.size]? = some (.cells #[.slice A1 tl c1, .slice A2 nl c2, .slice A3 rl c3, .slice (some ⟨g, 0, none⟩) n cg, .slice (some ⟨bn, 0, none⟩) n n] 103 (0, 0))) := ⟨by rw [hw1]; exact blk_new w _⟩
  have HB1 : Aside0 (Below w.heap.size w w1) := ⟨by rw [hw1]; exact below_alloc (Below.refl _ _) _⟩
  have hs1 : w1.heap.size = w.heap.size + 1 := by rw [hw1]; simp
  have HS1 := Lib.hid hs1
  clear ht hnu hl hin hbs hnl hs1
  go_enter Try.func69, Try.ntmps69
  go_upto_region 1 with (fail)
  simp only [← hw1]
  clear hw1
  have a0 := (blk_cell HP1.out 0).trans rfl
  go_wp2
  obtain ⟨b, hb⟩ : ∃ b, b = w1.heap.size := ⟨_, rfl⟩
  obtain ⟨w2, hw2⟩ : ∃ w2, w2 = w1.alloc (.cells (madeCells #[.bool false] tl) 4) := ⟨_, rfl⟩
  have HO : Aside0 (BB w2 b (List.replicate tl false)) := ⟨by rw [hw2, hb]; exact BB.new w1 tl⟩
  have HB2 : Aside0 (Below w.heap.size w w2) := ⟨by rw [hw2]; exact HB1.out.alloc HB1.out.size _⟩
  have HP2 : Aside0 (w2.heap[w.heap.size]? = some (.cells #[.slice A1 tl c1, .slice A2 nl c2, .slice A3 rl c3, .slice (some ⟨g, 0, none⟩) n cg, .slice (some ⟨bn, 0, none⟩) n n] 103 (0, 0))) := ⟨by rw [hw2]; exact blk_alloc HP1.out _⟩
  have HBQ : Aside0 (w.heap.size < b) := ⟨by rw [hb, HS1.out]; omega⟩
  rw [← hb, ← hw2]
  clear hb hw2 a0 HP1 HB1 HS1 hmk
  go_loopw [17] (fun i wr => ∃ (k : Nat) (o : List Bool), k ≤ l.length ∧ i = .int .i64 k ∧ Aside0 (o.length = tl) ∧ Aside0 (seqF M nu (l.drop k) o = seqF M nu l (List.replicate tl false)) ∧ Aside0 (BB wr b o) ∧ Aside0 (Upd w2 wr b)) (fun i _ => l.length - (intOf i).toNat)
  case atStart => exact ⟨0, _, Nat.zero_le _, rfl, ⟨by simp⟩, ⟨rfl⟩, HO, ⟨Upd.refl _ _⟩⟩
  case round =>
    clear HO
    obtain ⟨k, o, hk, rfl, HOL, HSQ, HO, HU⟩ := hrel
    rename World => wi
    have HBI := Aside0.mk (HU.out.low HB2.out (Nat.le_of_lt HBQ.out))
    by_cases hlt : k < l.length
    · obtain ⟨ad, ead, hy0⟩ := at_int HL.out k hlt
      cases ead
      have hy := pw_cell_below HBI.out hy0
      have i2 : (k : Int) < (l.length : Int) := by omega
      have hin := HIN.out _ (List.getElem_mem hlt)
      have HDR := Lib.hid (List.drop_eq_getElem_cons hlt)
      obtain ⟨x, hx⟩ : ∃ x, x = l[k]'hlt := ⟨_, rfl⟩
      rw [← hx] at hy hin HDR
      obtain ⟨xs, rfl⟩ := Int.eq_ofNat_of_zero_le hin.1
      have hxn : xs < n := by omega
      have hxb : xs < bs.length := by rw [HBS.out]; exact hxn
      have i3 : (xs : Int) < (n : Int) := by omega
      clear hy0 hx hin
      have HT2 : Aside0 (TT w2 lo g bs tl M) := ⟨HTT.out.below HB2.out⟩
      have HT1 : Aside0 (TT wi lo g bs tl M) := ⟨HTT.out.below HBI.out⟩
      have d1 := HT1.out.cell xs hxb
      have HRX := Aside0.mk (HT2.out.row xs hxb)
      have hrl := HT1.out.rlen hxb
      have HRL := Aside0.mk hrl
      obtain ⟨r, hr⟩ : ∃ r, r = rowT M (xs : Int) := ⟨_, rfl⟩
      obtain ⟨br, hbr⟩ : ∃ br, br = bs[xs]'hxb := ⟨_, rfl⟩
      have hbb : br ≠ b := by have h1 := (Array.getElem?_eq_some_iff.1 (HTT.out.row xs hxb)).1; rw [hbr]; have := HBQ.out; omega
      rw [← hbr] at d1 HRX
      rw [← hr] at HRX HRL
      have HR := Lib.hid hr
      clear hr hbr hrl
      have HP3 := Aside0.mk (HU.out.blk HP2.out (by have := HBQ.out; omega))
      have e3 := (blk_cell HP3.out 3).trans rfl
      go_wp2
      have HOO := Aside0.mk (HOL.out.trans HRL.out.symm)
      have HOS : Aside0 (BB wi b (orK o r 0)) := ⟨by rw [orK_zero HOO.out]; exact HO.out⟩
      clear d1 hy e3
      go_loopw [27] (fun j wr => ∃ q : Nat, q ≤ tl ∧ j = .int .i64 q ∧ Aside0 (BB wr b (orK o r q)) ∧ Aside0 (Upd w2 wr b)) (fun j _ => tl - (intOf j).toNat)
      case atStart => exact ⟨0, Nat.zero_le _, rfl, HOS, HU⟩
      case round =>
        clear HOS HO HP3
        obtain ⟨q, hq, rfl, HO, HU2⟩ := hrel
        rename World => wj
        by_cases hql : q < tl
        · have j2 : (q : Int) < (tl : Int) := by omega
          have fz := HO.out.fz q
          obtain ⟨ob, hob⟩ : ∃ c, getB o (q : Int) = c := ⟨_, rfl⟩
          obtain ⟨rb, hrb⟩ : ∃ c, getB r (q : Int) = c := ⟨_, rfl⟩
          have z1 := HO.out.cell' (i := q) (by rw [orK_len HOO.out (by rw [HRL.out]; omega), HOL.out]; exact hql) ((orK_self HOO.out (by rw [HRL.out]; exact hql)).trans hob)
          have z2 := (HU2.out.bb HRX.out hbb).cell' (i := q) (by rw [HRL.out]; exact hql) hrb
          have HS := Aside0.mk (HO.out.set q (getB o (q : Int) || getB r (q : Int)))
          rw [orK_set HOO.out (by rw [HRL.out]; exact hql), hob, hrb] at HS
          have HUS := Aside0.mk (HU2.out.set q (.bool (ob || rb)))
          clear hob hrb
          cases ob <;> cases rb
          all_goals
            go_wp2
            go_roundw
            case rel => exact ⟨q + 1, by omega, by go_num, HS, HUS⟩
            case measure => simp [intOf]; omega
        · have hqe : q = r.length := by rw [HRL.out]; omega
          have HO2 : Aside0 (BB wj b (orF o r)) := ⟨by have := HO.out; rwa [hqe, orK_all HOO.out] at this⟩
          have HO2L : Aside0 ((orF o r).length = tl) := ⟨by rw [orF_len HOO.out]; exact HOL.out⟩
          have HP3 := Aside0.mk (HU2.out.blk HP2.out (by have := HBQ.out; omega))
          have e4 := (blk_cell HP3.out 4).trans rfl
          have hnb : bn ≠ b := by have h1 := (Array.getElem?_eq_some_iff.1 HNU.out).1; have := HBQ.out; omega
          obtain ⟨vb, hvb⟩ : ∃ c, getB nu (xs : Int) = c := ⟨_, rfl⟩
          have z4 := (HU2.out.bb (HNU.out.below HB2.out) hnb).cell' (i := xs) (by rw [HNL.out]; exact hxn) hvb
          have HSQ2 := Lib.hid HSQ.out
          rw [HDR.out, seqF, hvb, ← HR.out] at HSQ2
          clear hvb hqe
          cases vb
          · simp only [Bool.false_eq_true, if_false] at HSQ2
            go_wp2
            go_ret
            exact ⟨⟨b, rfl, by rw [← HSQ2.out]; exact HO2.out, Nat.le_of_lt HBQ.out⟩, HU2.out.low HB2.out (Nat.le_of_lt HBQ.out)⟩
          · simp only [if_true] at HSQ2
            go_wp2
            go_roundw
            case rel => exact ⟨k + 1, orF o r, by omega, by go_num, HO2L, ⟨HSQ2.out⟩, HO2, HU2⟩
            case measure => simp [intOf]; omega
    · have HE : Aside0 (BB wi b (seqF M nu l (List.replicate tl false))) := ⟨by rw [← HSQ.out, List.drop_eq_nil_of_le (by omega)]; exact HO.out⟩
      go_wp2
      go_ret
      exact ⟨⟨b, rfl, HE.out, Nat.le_of_lt HBQ.out⟩, HBI.out⟩
end Go.Proofs.Ytdpdbgaoaibafaa

/- The contract of first's made: the table of all symbols' terminals. -/
set_option linter.unusedVariables false
set_option linter.unusedSimpArgs false
namespace Go.Proofs.Ytdpdbgaoaibafaa
open Go.RowKit Go.Proofs.YtdpdbgaoaibafaaW.PrintWords Go.Proofs.YtdpdbgaoaibafaaW.PrintLast Go.Conc

/-- The kind of a row of rows that are written: of each row its block. -/
def kBR (m : Nat) : Kd Nat := Kd.scalar (fun b => .slice (some ⟨b, 0, none⟩) m m) (fun _ => rfl)
theorem infoBR : (Try.prog.info? 60).map (fun i => (i.zero, i.size, i.bytes)) = some (some (.slice none 0 0), 1, 24) := by kernel_rfl
theorem app_br_step {ops : Array Oper} {o : Oper} {a : Act} {Q : Exit → Act → World → Prop} {Kc : Act → World → Prop} {base : Nat} {w0 W : World} {v : Value} {ok : Nat → Prop} {s x : Operand} {m : Nat} {xs : List Nat} {p : Nat} (hw : Region.wanted o (yielded ops a.tmps) = true) (ho : o.op = .call { callee := .builtin .append, args := #[s, x], argTypes := #[101, 101] })
    (HO : (kBR m).R 60 W base ok v xs) (HB : Below base w0 W) (hbase : base ≤ W.heap.size) (hl : xs.length + 1 ≤ 1000000000) (hfresh : ∀ k, W.heap.size ≤ k → ok k) (hs : a.eval s = v) (hx : a.eval x = .slice (some ⟨W.heap.size, 0, none⟩) 1 1)
    (h : ∀ v1 w1, Appd (kBR m) 60 w0 W base ok v (xs ++ [p]) v1 w1 → Kc (a.put o.dst v1) w1) :
    if Region.wanted o (yielded ops a.tmps) = true then Oper.wp Try.prog o a (W.alloc (.cells #[.slice (some ⟨p, 0, none⟩) m m] 60)) Kc Q else Kc (a.put o.dst undef) (W.alloc (.cells #[.slice (some ⟨p, 0, none⟩) m m] 60)) :=
  Kd.R_append_step (kBR m) base hw s x 101 60 _ 24 ho Try.underlying101 infoBR rfl (by show 0 < 1; decide) (by decide) v xs p [.slice (some ⟨p, 0, none⟩) m m] ok (fun _ => False) hs hx rfl (fun _ h => h.elim) hfresh HO HB hbase (by omega) (fun v1 w1 h1 h2 h3 h4 => h v1 w1 ⟨h1, h2, h3, h4⟩)
theorem at_br {m : Nat} {w : World} {A : Option Addr} {n : Nat} {xs : List Nat} (h : (kBR m).C w A n xs) (i : Nat) (hi : i < xs.length) : ∃ ad, A = some ad ∧ w.cell? (ad.add i) = some (.slice (some ⟨xs[i], 0, none⟩) m m) := by
  obtain ⟨ad, c, e, _, rfl, hc⟩ := C_at h i hi
  exact ⟨ad, e, by simpa [kBR, Kd.scalar] using hc 0 _ rfl⟩
/-- A table under way: its rows one behind the other. -/
structure MB (v0 W : World) (lo m pt bn : Nat) (X1 X2 X3 X5 vS : Value) (nu : List Bool) (bs : List Nat) (M : Tab) : Prop where
  tab : W.heap[pt]? = some (.cells #[X1, X2, X3, vS, X5] 103 (0, 0))
  nul : BB W bn nu
  below : Below lo v0 W
  row : (kBR m).R 60 W lo (fun _ => True) vS bs
  rows : ∀ i (h : i < bs.length), BB W bs[i] (rowT M (i : Int))
  nodup : bs.Nodup
  low : ∀ b ∈ bs, lo ≤ b
  sh : ShT bs.length m M
  pl : lo ≤ pt
  bl : lo ≤ bn
  bo : bn ∉ bs
section
variable {v0 W W' : World} {lo m pt bn : Nat} {X1 X2 X3 X5 vS : Value} {nu : List Bool} {bs : List Nat} {M : Tab}
theorem MB.below_ (h : MB v0 W lo m pt bn X1 X2 X3 X5 vS nu bs M) (hb : Below W.heap.size W W') (hl : lo ≤ W.heap.size) : MB v0 W' lo m pt bn X1 X2 X3 X5 vS nu bs M :=
  ⟨blk_below h.tab hb, h.nul.below hb, below_then h.below hl hb, Kd.R_below h.row hb, fun i hi => (h.rows i hi).below hb, h.nodup, h.low, h.sh, h.pl, h.bl, h.bo⟩
theorem MB.lt (h : MB v0 W lo m pt bn X1 X2 X3 X5 vS nu bs M) {b : Nat} (hb : b ∈ bs) : b < W.heap.size := by
  obtain ⟨i, hi, rfl⟩ := List.getElem_of_mem hb
  exact blk_lt (h.rows i hi)
/-- A row more, of nothing. -/
theorem MB.grow (h : MB v0 W lo m pt bn X1 X2 X3 X5 vS nu bs M) {v1 : Value} {w1 : World} (A : Appd (kBR m) 60 v0 (W.alloc (.cells (madeCells #[.bool false] m) 4)) lo (fun _ => True) vS (bs ++ [W.heap.size]) v1 w1) (hl : lo ≤ W.heap.size) :
    MB v0 (w1.setCell ⟨pt, 3, none⟩ v1) lo m pt bn X1 X2 X3 X5 v1 nu (bs ++ [W.heap.size]) (M ++ [List.replicate m false]) := by
  have hb1 := below_alloc (Below.refl W.heap.size W) (.cells (madeCells #[.bool false] m) 4)
  have hR := Kd.R_below h.row hb1
  have ht := blk_grown (blk_below h.tab hb1) A.grown (Kd.R_ne hR (blk_below h.tab hb1) (by decide))
  have bbs : ∀ {q : Nat} {x : List Bool}, BB (W.alloc (.cells (madeCells #[.bool false] m) 4)) q x → BB (w1.setCell ⟨pt, 3, none⟩ v1) q x := fun hq => BB.far (blk_grown hq A.grown (Kd.R_ne hR hq (by decide))) (by
    have := blk_ne (blk_grown hq A.grown (Kd.R_ne hR hq (by decide))) ht (by decide)
    exact this) _
  refine ⟨blk_set ht 3 v1, bbs (h.nul.below hb1), below_set A.below h.pl 3 v1, Kd.R_set A.row ht (show ∀ q, q ∈ [60] → q ≠ 103 by decide) 3 v1, fun i hi => ?_, ?_, fun b hb => ?_, ⟨by simp [h.sh.1], fun r hr => ?_⟩, h.pl, h.bl, ?_⟩
  · by_cases hib : i < bs.length
    · rw [List.getElem_append_left hib]
      have e : rowT (M ++ [List.replicate m false]) (i : Int) = rowT M (i : Int) := by
        have hM : i < M.length := by rw [h.sh.1]; exact hib
        rw [rowT_at (by simp; omega), rowT_at hM, List.getElem_append_left hM]
      rw [e]
      exact bbs ((h.rows i hib).below hb1)
    · have hie : i = bs.length := by simp at hi; omega
      subst hie
      have e : rowT (M ++ [List.replicate m false]) (bs.length : Int) = List.replicate m false := by
        rw [rowT_at (by simp [h.sh.1]), List.getElem_append_right (by rw [h.sh.1]; exact Nat.le_refl _)]
        simp
      rw [e, List.getElem_append_right (Nat.le_refl _)]
      simp only [Nat.sub_self, List.getElem_cons_zero]
      exact bbs (BB.new W m)
  · refine List.nodup_append.2 ⟨h.nodup, by simp, fun a ha b hb => ?_⟩
    have := h.lt ha
    have e := List.mem_singleton.1 hb
    omega
  · rcases List.mem_append.1 hb with hb | hb
    · exact h.low b hb
    · rw [List.mem_singleton.1 hb]; exact hl
  · rcases List.mem_append.1 hr with hr | hr
    · exact h.sh.2 r hr
    · rw [List.mem_singleton.1 hr]; simp
  · intro hb
    rcases List.mem_append.1 hb with hb | hb
    · exact h.bo hb
    · have := blk_lt h.nul
      have e := List.mem_singleton.1 hb
      omega
theorem MB.mid (h : MB v0 W lo m pt bn X1 X2 X3 X5 vS nu bs M) {v1 : Value} {w1 : World} {p : Nat} (A : Appd (kBR m) 60 v0 (W.alloc (.cells (madeCells #[.bool false] m) 4)) lo (fun _ => True) vS (bs ++ [p]) v1 w1) :
    w1.heap[pt]? = some (.cells #[X1, X2, X3, vS, X5] 103 (0, 0)) := by
  have hb1 := below_alloc (Below.refl W.heap.size W) (.cells (madeCells #[.bool false] m) 4)
  exact blk_grown (blk_below h.tab hb1) A.grown (Kd.R_ne (Kd.R_below h.row hb1) (blk_below h.tab hb1) (by decide))
/-- A cell is set. -/
theorem MB.put (h : MB v0 W lo m pt bn X1 X2 X3 X5 vS nu bs M) {i : Nat} (hi : i < bs.length) (j : Nat) (v : Bool) : MB v0 (W.setCell ⟨bs[i], j, none⟩ (.bool v)) lo m pt bn X1 X2 X3 X5 vS nu bs (setRow M (i : Int) ((rowT M (i : Int)).set j v)) := by
  have hr := h.rows i hi
  have hrl : (rowT M (i : Int)).length = m := h.sh.row hi
  have hne : pt ≠ bs[i] := blk_ne h.tab hr (by decide)
  have hr' : W.heap[bs[i]]? = some (.cells ((rowT M (i : Int)).map Value.bool).toArray 4 (0, 0)) := hr
  refine ⟨blk_far h.tab hne _, BB.far h.nul (fun e => h.bo (by have e' : bn = bs[i] := e; rw [e']; exact List.getElem_mem hi)) _, below_set h.below (h.low _ (List.getElem_mem hi)) _ _, Kd.R_set h.row hr' (show ∀ q, q ∈ [60] → q ≠ 4 by decide) j _, fun k hk => ?_, h.nodup, h.low, setRow_sh h.sh _ (by rw [List.length_set]; exact hrl), h.pl, h.bl, h.bo⟩
  rw [rowT_set (by omega) (by rw [h.sh.1]; omega)]
  by_cases hki : k = i
  · subst hki
    rw [if_pos rfl]
    exact hr.set j v
  · rw [if_neg (by omega)]
    refine BB.far (h.rows k hk) (fun e => hki ?_) _
    exact (List.getElem_inj h.nodup).1 e
/-- All rows are there: a table. -/
theorem MB.tt (h : MB v0 W lo m pt bn X1 X2 X3 X5 vS nu bs M) (hn : 0 < bs.length) : ∃ g c, vS = .slice (some ⟨g, 0, none⟩) bs.length c ∧ TT W lo g bs m M ∧ g ≠ pt ∧ g ≠ bn := by
  obtain ⟨g, c, rfl, hg, hgl, cells, hc⟩ := Kd.R_form h.row hn
  obtain ⟨A, c', e, _, hC⟩ := Kd.R_reads h.row
  injection e with e1 _ _
  subst e1
  refine ⟨g, c, rfl, ⟨fun i hi => ?_, h.rows, h.nodup, fun hgb => ?_, h.sh, hg, h.low⟩, blk_ne hc h.tab (by decide), blk_ne hc h.nul (by decide)⟩
  · obtain ⟨ad, e, hx⟩ := at_br hC i hi
    cases e
    rw [add0_] at hx
    exact hx
  · obtain ⟨i, hi, e⟩ := List.getElem_of_mem hgb
    exact blk_ne hc (h.rows i hi) (by decide) e.symm
end
/-- The table under way, its channel beside it. -/
structure MS (v0 W : World) (lo pt g cg bn c nR n : Nat) (gr : Gram) (X1 X2 X3 : Value) (bs : List Nat) (M : Tab) (k r : Nat) : Prop where
  tt : TT W lo g bs gr.terms.length M
  tab : W.heap[pt]? = some (.cells #[X1, X2, X3, .slice (some ⟨g, 0, none⟩) n cg, .slice (some ⟨bn, 0, none⟩) n n] 103 (0, 0))
  nul : BB W bn (nullF gr)
  below : Below lo v0 W
  ch : CH W c nR k r
  pf : PF gr M
  len : bs.length = n
  gp : g ≠ pt
  gc : g ≠ c
  nb : bn ∉ bs
  lp : lo ≤ pt
  lc : lo ≤ c
  ln : lo ≤ bn
section
variable {v0 W W' : World} {lo pt g cg bn c nR n k r : Nat} {gr : Gram} {X1 X2 X3 : Value} {bs : List Nat} {M : Tab}
theorem MS.below_ (h : MS v0 W lo pt g cg bn c nR n gr X1 X2 X3 bs M k r) (hb : Below W.heap.size W W') (hl : lo ≤ W.heap.size) : MS v0 W' lo pt g cg bn c nR n gr X1 X2 X3 bs M k r :=
  ⟨h.tt.below hb, blk_below h.tab hb, h.nul.below hb, below_then h.below hl hb, h.ch.below hb, h.pf, h.len, h.gp, h.gc, h.nb, h.lp, h.lc, h.ln⟩
theorem chan_ne {W : World} {c nR k r b : Nat} {cs : Array Value} {t : TypeId} (h : CH W c nR k r) (hb : W.heap[b]? = some (.cells cs t (0, 0))) : b ≠ c := by
  obtain ⟨buf, s, hc, _⟩ := h
  rintro rfl
  rw [hc] at hb
  cases hb
theorem MS.chan (h : MS v0 W lo pt g cg bn c nR n gr X1 X2 X3 bs M k r) (hu : Upd W W' c) {k' r' : Nat} (hc : CH W' c nR k' r') : MS v0 W' lo pt g cg bn c nR n gr X1 X2 X3 bs M k' r' := by
  refine ⟨h.tt.other hu h.gc (fun hcb => ?_), hu.blk h.tab (chan_ne h.ch h.tab), hu.bb h.nul (chan_ne h.ch h.nul), hu.low h.below h.lc, hc, h.pf, h.len, h.gp, h.gc, h.nb, h.lp, h.lc, h.ln⟩
  obtain ⟨i, hi, e⟩ := List.getElem_of_mem hcb
  exact chan_ne h.ch (h.tt.row i hi) e
theorem MS.join (h : MS v0 W lo pt g cg bn c nR n gr X1 X2 X3 bs M k r) (hg : goodF gr = true) {x : Rule} (hx : x ∈ gr.rules) {lf : Nat} (hlf : x.left = (lf : Int)) (hl : lf < bs.length) (hu : Upd W W' bs[lf]) (hb : BB W' bs[lf] (orF (rowT M (lf : Int)) (seqT gr M x))) :
    MS v0 W' lo pt g cg bn c nR n gr X1 X2 X3 bs (joinM gr M x) k r := by
  have h1 := h.tt.row lf hl
  have hlen : (orF (rowT M (lf : Int)) (seqT gr M x)).length = gr.terms.length := by
    have e := h.tt.rlen hl
    rw [orF_len (e.trans (seqT_len hg h.pf.sh hx).symm), e]
  have ht := h.tt.upd hl hlen hu hb
  rw [← hlf] at ht
  obtain ⟨buf, s, hc, hk⟩ := h.ch
  exact ⟨ht, hu.blk h.tab (blk_ne h.tab h1 (by decide)), hu.bb h.nul (fun e => h.nb (e ▸ List.getElem_mem hl)), hu.low h.below (h.tt.lo2 _ (List.getElem_mem hl)), ⟨buf, s, hu.blk hc (Ne.symm (chan_ne h.ch h1)), hk⟩, h.pf.join hg hx, h.len, h.gp, h.gc, h.nb, h.lp, h.lc, h.ln⟩
end
theorem results_tab {tmps : Array Value} {W : World} {q : Nat} {x1 x2 x3 x4 x5 : Value} (t2 : tmps.getD 2 undef = .pointer (some ⟨q, 0, none⟩)) (h : W.heap[q]? = some (.cells #[x1, x2, x3, x4, x5] 103 (0, 0))) :
    (results Try.f68 tmps).run Try.prog W = .ok (.agg #[x1, x2, x3, x4, x5]) W := by
  have d0 := blk_cell h 0
  have d1 := blk_cell h 1
  have d2 := blk_cell h 2
  have d3 := blk_cell h 3
  have d4 := blk_cell h 4
  simp only [List.getElem?_toArray, List.getElem?_cons_zero, List.getElem?_cons_succ] at d0 d1 d2 d3 d4
  simp only [Array.getD_eq_getD_getElem?] at t2
  simp [results, Try.results68, go_sem, d0, d1, d2, d3, d4, t2]
def MOut (w v0 : World) (pt g cg bn c n : Nat) (gr : Gram) (X1 X2 X3 : Value) (bs : List Nat) (a : Act) (W : World) : Prop :=
  ∃ (u0 u4 u6 u7 u8 u9 u10 u11 u12 u13 u14 u15 u16 u17 u18 u19 u20 u21 u22 u23 u24 u25 u26 u27 u28 u29 u30 u31 u32 u33 u34 u35 u36 u37 u38 u39 u40 u41 u42 u43 u44 u45 u46 u47 u48 u49 u50 u51 u52 u53 u54 u55 u56 u57 u58 u59 u60 u61 u62 u63 u64 u65 u66 u67 u68 u69 u70 u71 : Value) (M : Tab) (r : Nat), a = { tmps := (List.toArray (u0 :: .pointer (some ⟨w.heap.size, 0, none⟩) :: .pointer (some ⟨w.heap.size + 1, 0, none⟩) :: .pointer (some ⟨pt, 0, none⟩) :: u4 :: .chan (some c) :: u6 :: u7 :: u8 :: u9 :: u10 :: u11 :: u12 :: u13 :: u14 :: u15 :: u16 :: u17 :: u18 :: u19 :: u20 :: u21 :: u22 :: u23 :: u24 :: u25 :: u26 :: u27 :: u28 :: u29 :: u30 :: u31 :: u32 :: u33 :: u34 :: u35 :: u36 :: u37 :: u38 :: u39 :: u40 :: u41 :: u42 :: u43 :: u44 :: u45 :: u46 :: u47 :: u48 :: u49 :: u50 :: u51 :: u52 :: u53 :: u54 :: u55 :: u56 :: u57 :: u58 :: u59 :: u60 :: u61 :: u62 :: u63 :: u64 :: u65 :: u66 :: u67 :: u68 :: u69 :: u70 :: u71 :: [])), defers := [] } ∧ MS v0 W v0.heap.size pt g cg bn c gr.rules.length n gr X1 X2 X3 bs M 0 r
def MIn (w v0 : World) (pt g cg bn c n : Nat) (gr : Gram) (X1 X2 X3 : Value) (A3 : Option Addr) (c3 : Nat) (bs : List Nat) (M : Tab) (r : Nat) (a : Act) (W : World) : Prop :=
  ∃ (u0 u4 u6 u7 u8 u9 u10 u11 u12 u13 u14 u15 u16 u17 u18 u19 u20 u21 u22 u23 u24 u25 u26 u27 u28 u29 u30 u31 u32 u33 u34 u35 u36 u37 u38 u39 u40 u41 u42 u43 u44 u45 u46 u50 u51 u52 u53 u54 u55 u56 u57 u58 u59 u60 u61 u62 u63 u64 u65 u66 u67 u68 u69 u70 u71 : Value) (j : Nat) (M' : Tab) (k : Nat), a = { tmps := (List.toArray (u0 :: .pointer (some ⟨w.heap.size, 0, none⟩) :: .pointer (some ⟨w.heap.size + 1, 0, none⟩) :: .pointer (some ⟨pt, 0, none⟩) :: u4 :: .chan (some c) :: u6 :: u7 :: u8 :: u9 :: u10 :: u11 :: u12 :: u13 :: u14 :: u15 :: u16 :: u17 :: u18 :: u19 :: u20 :: u21 :: u22 :: u23 :: u24 :: u25 :: u26 :: u27 :: u28 :: u29 :: u30 :: u31 :: u32 :: u33 :: u34 :: u35 :: u36 :: u37 :: u38 :: u39 :: u40 :: u41 :: u42 :: u43 :: u44 :: u45 :: u46 :: .slice A3 gr.rules.length c3 :: .int .i64 gr.rules.length :: .int .i64 j :: u50 :: u51 :: u52 :: u53 :: u54 :: u55 :: u56 :: u57 :: u58 :: u59 :: u60 :: u61 :: u62 :: u63 :: u64 :: u65 :: u66 :: u67 :: u68 :: u69 :: u70 :: u71 :: [])), defers := [] } ∧
    j ≤ gr.rules.length ∧ k ≤ j ∧ MS v0 W v0.heap.size pt g cg bn c gr.rules.length n gr X1 X2 X3 bs M' k r ∧ cntT M + k ≤ cntT M' ∧ (k = 0 → M' = M ∧ ∀ x ∈ gr.rules.take j, ∀ s ∈ heads (nullF gr) x.right, ∀ t, getT M s t = true → getT M x.left t = true)
/-- The table, made. -/
def MadeEnd (w w' : World) (g : Gram) (A1 A2 A3 : Option Addr) (c1 c2 c3 : Nat) (n : Nat) (e : Ending) : Prop :=
  ∃ go co bs bn, e = .returned (.agg #[.slice A1 g.terms.length c1, .slice A2 g.names.length c2, .slice A3 g.rules.length c3, .slice (some ⟨go, 0, none⟩) n co, .slice (some ⟨bn, 0, none⟩) n n]) ∧ TT w' w.heap.size go bs g.terms.length (firstF g) ∧ bs.length = n ∧ BB w' bn (nullF g) ∧ w.heap.size ≤ bn
theorem ofN_n (g : Gram) (A1 A2 A3 : Option Addr) (c1 c2 c3 : Nat) (w : World) (hg : RepG w g A1 A2 A3 c1 c2 c3) (hgd : goodF g = true) {n : Nat} (hn : nsym g = n) :
    Calls Try.prog 73 #[.agg #[.slice A1 g.terms.length c1, .slice A2 g.names.length c2, .slice A3 g.rules.length c3]] w fun e w' => (∃ b, e = .returned (.slice (some ⟨b, 0, none⟩) n n) ∧ BB w' b (nullF g) ∧ w.heap.size ≤ b) ∧ Below w.heap.size w w' := by
  have := ofN_yes g A1 A2 A3 c1 c2 c3 w hg hgd
  unfold OfNEnd at this
  rw [nullF_len hgd, hn] at this
  exact this
set_option maxRecDepth 100000 in
set_option maxHeartbeats 8000000 in
theorem made_c (g : Gram) (A1 A2 A3 : Option Addr) (c1 c2 c3 : Nat) (w : World) (hg : RepG w g A1 A2 A3 c1 c2 c3) (hgd : goodF g = true) {n : Nat} (hn : nsym g = n) :
    Calls Try.prog 68 #[.agg #[.slice A1 g.terms.length c1, .slice A2 g.names.length c2, .slice A3 g.rules.length c3]] w fun e w' => MadeEnd w w' g A1 A2 A3 c1 c2 c3 n e ∧ Below w.heap.size w w' := by
  obtain ⟨q1, q2, q3, q4⟩ := goodF_small hgd
  have hn80 : n ≤ 80 := by rw [← hn]; unfold nsym; omega
  have hn1 : 1 ≤ n := by rw [← hn]; unfold nsym; omega
  have HGD := Aside0.mk hgd
  have HN := Lib.hid hn
  obtain ⟨v0, hv0⟩ : ∃ v0 : World, v0 = (w.alloc (.cells #[.slice A1 g.terms.length c1, .slice A2 g.names.length c2, .slice A3 g.rules.length c3] 25 (0, 0))).alloc (.cells #[.slice none 0 0, .slice none 0 0, .slice none 0 0, .slice none 0 0, .slice none 0 0] 103 (0, 0)) := ⟨_, rfl⟩
  have HB0 : Aside0 (Below w.heap.size w v0) := ⟨by rw [hv0]; exact below_alloc (below_alloc (Below.refl _ _) _) _⟩
  have HP0 : Aside0 (v0.heap[w.heap.size]? = some (.cells #[.slice A1 g.terms.length c1, .slice A2 g.names.length c2, .slice A3 g.rules.length c3] 25 (0, 0))) := ⟨by rw [hv0]; exact blk_alloc (blk_new w _) _⟩
  have HQ0 : Aside0 (v0.heap[w.heap.size + 1]? = some (.cells #[.slice none 0 0, .slice none 0 0, .slice none 0 0, .slice none 0 0, .slice none 0 0] 103 (0, 0))) := ⟨by rw [hv0]; exact blk_snd _ _ _⟩
  have HG0 := Aside0.mk (hg.below_ HB0.out)
  have hv0s : v0.heap.size = w.heap.size + 2 := by rw [hv0]; simp
  have HV0S := Lib.hid hv0s
  have hmf := print_make_of (P := Try.prog) 60 4 (.bool false) 1 Try.underlying60 (by kernel_rfl) rfl (by decide) g.terms.length (by omega)
  clear hg hgd hv0s
  refine calls_of_wpN Try.func68 rfl ?_
  simp only [Try.ntmps68, List.size_toArray, List.length_cons, List.length_nil, Nat.reduceAdd, Nat.reduceSub, Array.replicate_succ, Array.replicate_zero, List.push_toArray, List.append_toArray, List.nil_append, List.cons_append]
  refine wpN_seq_k (fun K hK => ?_)
  go_wp2
  simp only [← hv0]
  clear hv0
  refine wpN_seq_k (fun K hK => ?_)
  refine start_ (n := 6) (S := fun w' => Below v0.heap.size v0 w') (ds := [5]) (lb 6 0x0) (by kernel_rfl) rfl (by kernel_rfl) (below_drew1 (Below.refl _ _)) (fun hHeld => ?_)
  refine ta_ ?_ ?_ 0 (some 8) (lb 6 0x1) hHeld ?_ (y := by rintro w' hS; have d0 := (blk_cell (blk_below HP0.out hS) 0).trans rfl; have d1 := (blk_cell (blk_below HP0.out hS) 1).trans rfl; have d2 := (blk_cell (blk_below HP0.out hS) 2).trans rfl; go_simp; with_reducible rfl)
  refine ta_ ?_ ?_ 1 (some 9) (lb 6 0x3) hHeld ?_ (y := by rintro w' hS; have d0 := (blk_cell (blk_below HP0.out hS) 0).trans rfl; have d1 := (blk_cell (blk_below HP0.out hS) 1).trans rfl; have d2 := (blk_cell (blk_below HP0.out hS) 2).trans rfl; go_simp; with_reducible rfl)
  refine join_ (σ := Nat × Nat) 1 (lb 6 0x1f) (fun s => [(10, .slice (some ⟨s.1, 0, none⟩) n n), (11, .agg #[.slice A1 g.terms.length c1, .slice A2 g.names.length c2, .slice A3 g.rules.length c3, .slice none 0 0, .slice (some ⟨s.1, 0, none⟩) n n]), (3, .pointer (some ⟨s.2, 0, none⟩))]) (fun s w' => Below v0.heap.size v0 w' ∧ BB w' s.1 (nullF g) ∧ w'.heap[s.2]? = some (.cells #[.slice none 0 0, .slice none 0 0, .slice none 0 0, .slice none 0 0, .slice none 0 0] 103 (0, 0)) ∧ v0.heap.size ≤ s.1 ∧ v0.heap.size ≤ s.2) ?_ ?_
  rotate_left
  · intro hrest
    simp only [putAll, Act.put, List.setIfInBounds_toArray, List.set_cons_zero, List.set_cons_succ] at hrest
    refine two_ (i := 2) (j := 4) (Ni := (some 10)) (Nj := (some 3)) (lb 6 0x7) (lb 6 0x13) rfl rfl rfl rfl (by kernel_rfl) (by decide) (by decide) (fun K hK => ?_) (fun K hK => ?_)
    · (refine goesC_ Try.func73 (by kernel_rfl) rfl (by rfl) rfl rfl (ofN_n g A1 A2 A3 c1 c2 c3 _ (HG0.out.below_ hHeld) HGD.out HN.out) (by simp [Act.eval]) ?_; rintro e w9 ⟨⟨b, rfl, hbb, hbs⟩, hb9⟩; refine ⟨_, rfl, ?_⟩; have HQ9 := Aside0.mk (below_then hHeld hHeld.size hb9); have HBB := Aside0.mk (hbb); have HB9 := Aside0.mk hb9; have HBS := Aside0.mk (Nat.le_trans hHeld.size hbs); clear hbb hbs; clear hb9; refine hK.out _ _ HQ9.out (fun hHeld => ?_))
      clear hK K
      refine norm_ (a' := ?_) ?_ ?_
      rotate_left
      · (show Act.put _ (some 10) _ = _; simp only [Act.put, List.setIfInBounds_toArray, List.set_cons_zero, List.set_cons_succ]; rfl)
      refine pure_ (i := 3) (N := (some 11)) (v := ?_) (a' := ?_) (lb 6 0xf) rfl rfl (by kernel_rfl) (fun _ _ _ h => h) (Or.inl ⟨by rfl, ?_⟩) ?_ ?_
      rotate_left
      · (intro w'; go_simp; with_reducible rfl)
      rotate_left
      · (simp only [Act.put, List.setIfInBounds_toArray, List.set_cons_zero, List.set_cons_succ]; rfl)
      refine one_ (i := 4) (N := (some 3)) (lb 6 0x1f) rfl rfl (by kernel_rfl) (by decide) (fun K hK => ?_)
      refine value_ (w1 := ?_) (v := ?_) (by rfl) rfl ?_ ?_
      rotate_left 2
      · (go_simp; constructor; rfl; rfl)
      refine hK.out _ _ (hHeld.alloc hHeld.size _) (fun hHeld => ?_)
      clear hK K
      refine norm_ (a' := ?_) ?_ ?_
      rotate_left
      · (show Act.put _ (some 3) _ = _; simp only [Act.put, List.setIfInBounds_toArray, List.set_cons_zero, List.set_cons_succ]; rfl)
      first | exact hrest (b, w9.heap.size) _ ⟨hHeld, HBB.out.alloc _, blk_new _ _, HBS.out, HQ9.out.size⟩ | exact hrest (b, v0.heap.size) _ ⟨hHeld, HBB.out, blk_below (blk_drew (blk_new _ _)) HB9.out, HBS.out, Nat.le_refl _⟩
    · refine value_ (w1 := ?_) (v := ?_) (by rfl) rfl ?_ ?_
      rotate_left 2
      · (go_simp; constructor; rfl; rfl)
      refine hK.out _ _ (hHeld.alloc hHeld.size _) (fun hHeld => ?_)
      clear hK K
      refine norm_ (a' := ?_) ?_ ?_
      rotate_left
      · (show Act.put _ (some 3) _ = _; simp only [Act.put, List.setIfInBounds_toArray, List.set_cons_zero, List.set_cons_succ]; rfl)
      refine one_ (i := 2) (N := (some 10)) (lb 6 0x17) rfl rfl (by kernel_rfl) (by decide) (fun K hK => ?_)
      (refine goesC_ Try.func73 (by kernel_rfl) rfl (by rfl) rfl rfl (ofN_n g A1 A2 A3 c1 c2 c3 _ (HG0.out.below_ hHeld) HGD.out HN.out) (by simp [Act.eval]) ?_; rintro e w9 ⟨⟨b, rfl, hbb, hbs⟩, hb9⟩; refine ⟨_, rfl, ?_⟩; have HQ9 := Aside0.mk (below_then hHeld hHeld.size hb9); have HBB := Aside0.mk (hbb); have HB9 := Aside0.mk hb9; have HBS := Aside0.mk (Nat.le_trans hHeld.size hbs); clear hbb hbs; clear hb9; refine hK.out _ _ HQ9.out (fun hHeld => ?_))
      clear hK K
      refine norm_ (a' := ?_) ?_ ?_
      rotate_left
      · (show Act.put _ (some 10) _ = _; simp only [Act.put, List.setIfInBounds_toArray, List.set_cons_zero, List.set_cons_succ]; rfl)
      refine pure_ (i := 3) (N := (some 11)) (v := ?_) (a' := ?_) (lb 6 0x1f) rfl rfl (by kernel_rfl) (fun _ _ _ h => h) (Or.inl ⟨by rfl, ?_⟩) ?_ ?_
      rotate_left
      · (intro w'; go_simp; with_reducible rfl)
      rotate_left
      · (simp only [Act.put, List.setIfInBounds_toArray, List.set_cons_zero, List.set_cons_succ]; rfl)
      first | exact hrest (b, w9.heap.size) _ ⟨hHeld, HBB.out.alloc _, blk_new _ _, HBS.out, HQ9.out.size⟩ | exact hrest (b, v0.heap.size) _ ⟨hHeld, HBB.out, blk_below (blk_drew (blk_new _ _)) HB9.out, HBS.out, Nat.le_refl _⟩
  rintro s w' hF
  obtain ⟨hHeld, HBB, HT, hb1, hb2⟩ := hF
  refine norm_ (a' := ?_) ?_ ?_
  rotate_left
  · (simp only [putAll, Act.put, List.setIfInBounds_toArray, List.set_cons_zero, List.set_cons_succ]; rfl)
  refine ls_ 5 none (lb 6 0x3f) (fun K hK => ?_)
  (have d0 := (blk_cell HT 0).trans rfl; have d1 := (blk_cell HT 1).trans rfl; have d2 := (blk_cell HT 2).trans rfl; have d3 := (blk_cell HT 3).trans rfl; have d4 := (blk_cell HT 4).trans rfl; have f0 := blk_frozen HT 0; have f1 := blk_frozen HT 1; have f2 := blk_frozen HT 2; have f3 := blk_frozen HT 3; have f4 := blk_frozen HT 4)
  refine skip_ (w1 := ?_) (by rfl) rfl ?_ ?_
  rotate_left
  · (go_simp; first | rfl | (constructor; rfl; rfl))
  refine hK.out _ _ ?_
  clear hK K
  refine done_ (by kernel_rfl) ?_
  obtain ⟨bn, pt⟩ := s
  simp only at HBB HT hb1 hb2 hHeld ⊢
  have HB1 : Aside0 (Below v0.heap.size v0 (((((w'.setCell ⟨pt, 0, none⟩ (.slice A1 g.terms.length c1)).setCell ⟨pt, 1, none⟩ (.slice A2 g.names.length c2)).setCell ⟨pt, 2, none⟩ (.slice A3 g.rules.length c3)).setCell ⟨pt, 3, none⟩ (.slice none 0 0)).setCell ⟨pt, 4, none⟩ (.slice (some ⟨bn, 0, none⟩) n n))) := ⟨below_set (below_set (below_set (below_set (below_set hHeld hb2 _ _) hb2 _ _) hb2 _ _) hb2 _ _) hb2 _ _⟩
  have hne : bn ≠ pt := blk_ne HBB HT (by decide)
  have HMB : Aside0 (MB v0 (((((w'.setCell ⟨pt, 0, none⟩ (.slice A1 g.terms.length c1)).setCell ⟨pt, 1, none⟩ (.slice A2 g.names.length c2)).setCell ⟨pt, 2, none⟩ (.slice A3 g.rules.length c3)).setCell ⟨pt, 3, none⟩ (.slice none 0 0)).setCell ⟨pt, 4, none⟩ (.slice (some ⟨bn, 0, none⟩) n n)) v0.heap.size g.terms.length pt bn (.slice A1 g.terms.length c1) (.slice A2 g.names.length c2) (.slice A3 g.rules.length c3) (.slice (some ⟨bn, 0, none⟩) n n) (.slice none 0 0) (nullF g) [] (initT 0 g.terms.length)) :=
    ⟨by refine ⟨blk_set (blk_set (blk_set (blk_set (blk_set HT 0 _) 1 _) 2 _) 3 _) 4 _, BB.far (BB.far (BB.far (BB.far (BB.far HBB hne _) hne _) hne _) hne _) hne _, HB1.out, Kd.R_nil _ _ _ _ _, fun i hi => (by simp at hi), List.nodup_nil, fun b hb => (by cases hb), ⟨rfl, fun r hr => (by cases hr)⟩, hb2, hb1, (by simp)⟩⟩
  clear HBB HT hb1 hb2 hHeld d0 d1 d2 d3 d4 f0 f1 f2 f3 f4 hne HB1
  generalize (((((w'.setCell ⟨pt, 0, none⟩ (.slice A1 g.terms.length c1)).setCell ⟨pt, 1, none⟩ (.slice A2 g.names.length c2)).setCell ⟨pt, 2, none⟩ (.slice A3 g.rules.length c3)).setCell ⟨pt, 3, none⟩ (.slice none 0 0)).setCell ⟨pt, 4, none⟩ (.slice (some ⟨bn, 0, none⟩) n n)) = W1 at HMB ⊢
  have HV0 := Aside0.mk (show v0.heap.size ≤ W1.heap.size from HMB.out.below.size)
  have KG1 := Aside0.mk (blk_below HP0.out HMB.out.below)
  have a1 := (blk_cell KG1.out 0).trans rfl
  have a2 := (blk_cell KG1.out 1).trans rfl
  have e1 : IntKind.i64.wrap ((g.terms.length : Int) + (g.names.length : Int)) = (n : Int) := by rw [IntWalk.i64_in _ (by omega), ← hn]; unfold nsym; omega
  refine hK _ _ ?_
  refine wpN_seq_k (fun K hK => ?_)
  go_wp2
  clear a1 a2 e1 KG1
  go_loopw [19] (fun i wr => ∃ (k : Nat) (vS : Value) (bs : List Nat), k ≤ n ∧ i = .int .i64 k ∧ Aside0 (MB v0 wr v0.heap.size g.terms.length pt bn (.slice A1 g.terms.length c1) (.slice A2 g.names.length c2) (.slice A3 g.rules.length c3) (.slice (some ⟨bn, 0, none⟩) n n) vS (nullF g) bs (initT k g.terms.length))) (fun i _ => n - (intOf i).toNat)
  case atStart => exact ⟨0, _, _, Nat.zero_le _, rfl, HMB⟩
  case round =>
    clear HMB HV0
    obtain ⟨k, vS, bs, hk, rfl, HM⟩ := hrel
    rename World => wi
    have hbk : bs.length = k := by rw [← HM.out.sh.1, initT_len]
    have hvi : v0.heap.size ≤ wi.heap.size := HM.out.below.size
    have HBK := Lib.hid hbk
    have HVI := Aside0.mk hvi
    clear hbk hvi
    by_cases hlt : k < n
    · have KT := Aside0.mk HM.out.tab
      have KG := Aside0.mk (blk_below HP0.out HM.out.below)
      have HMd := Aside0.mk (HM.out.below_ (below_drew1 (Below.refl wi.heap.size wi)) HVI.out)
      obtain ⟨As, cs, hvs⟩ := Kd.R_slice HM.out.row
      subst hvs
      have i2 : (k : Int) < (n : Int) := by omega
      go_upto_region 5 with (fail)
      refine start_ (n := 10) (S := fun w' => Below wi.heap.size wi w') (ds := [7, 9]) (lb 10 0x0) (by kernel_rfl) rfl (by kernel_rfl) (below_drew1 (Below.refl _ _)) (fun hHeld => ?_)
      refine pu_ ?_ ?_ 0 (some 22) (lb 10 0x1) ?_
      refine pu_ ?_ ?_ 2 (some 24) (lb 10 0x5) ?_
      refine ta_ ?_ ?_ 1 (some 23) (lb 10 0x7) hHeld ?_ (y := by rintro w' hS; have d0 := (blk_cell (blk_below KT.out hS) 0).trans rfl; have d1 := (blk_cell (blk_below KT.out hS) 1).trans rfl; have d2 := (blk_cell (blk_below KT.out hS) 2).trans rfl; have d3 := (blk_cell (blk_below KT.out hS) 3).trans rfl; have d4 := (blk_cell (blk_below KT.out hS) 4).trans rfl; have d5 := (blk_cell (blk_below KG.out hS) 0).trans rfl; have d6 := (blk_cell (blk_below KG.out hS) 1).trans rfl; have d7 := (blk_cell (blk_below KG.out hS) 2).trans rfl; go_simp; with_reducible rfl)
      refine ta_ ?_ ?_ 3 (some 25) (lb 10 0xf) hHeld ?_ (y := by rintro w' hS; have d0 := (blk_cell (blk_below KT.out hS) 0).trans rfl; have d1 := (blk_cell (blk_below KT.out hS) 1).trans rfl; have d2 := (blk_cell (blk_below KT.out hS) 2).trans rfl; have d3 := (blk_cell (blk_below KT.out hS) 3).trans rfl; have d4 := (blk_cell (blk_below KT.out hS) 4).trans rfl; have d5 := (blk_cell (blk_below KG.out hS) 0).trans rfl; have d6 := (blk_cell (blk_below KG.out hS) 1).trans rfl; have d7 := (blk_cell (blk_below KG.out hS) 2).trans rfl; go_simp; with_reducible rfl)
      refine pu_ ?_ ?_ 4 (some 26) (lb 10 0x1f) ?_
      refine on_ 5 (some 27) (lb 10 0x3f) (fun K hK => ?_)
      refine va_ ?_ ?_ ?_
      refine hK.out _ _ (hHeld.alloc hHeld.size _) (fun hHeld => ?_)
      clear hK K
      refine nm_ ?_ (some 27) ?_
      refine on_ 6 (some 28) (lb 10 0x7f) (fun K hK => ?_)
      refine va_ ?_ ?_ ?_
      refine hK.out _ _ (hHeld.alloc hHeld.size _) (fun hHeld => ?_)
      clear hK K
      refine nm_ ?_ (some 28) ?_
      refine ls_ 7 (some 29) (lb 10 0xff) (fun K hK => ?_)
      (refine app_br_step (w0 := v0) (base := v0.heap.size) (ok := fun _ => True) (m := g.terms.length) (xs := bs) (p := wi.heap.size) (by rfl) rfl (Kd.R_below HMd.out.row (below_alloc (Below.refl _ _) _)) (HMd.out.below.alloc HVI.out _) (by have := HVI.out; simp; omega) (by have := HBK.out; omega) (fun _ _ => trivial) (by simp [Act.eval]) (by simp [Act.eval]) ?_; intro v3 w3 A3; obtain ⟨Av3, cv3, rfl⟩ := A3.shape; have HM3 := Aside0.mk (HMd.out.grow A3 HVI.out); have E1 := Aside0.mk (HMd.out.mid A3); have e4 := (blk_cell E1.out 3).trans rfl; have e5 := blk_frozen E1.out 3; clear A3)
      refine hK.out _ _ ?_
      clear hK K
      refine nm_ ?_ (some 29) ?_
      refine pu_ ?_ ?_ 8 (some 30) (lb 10 0x1ff) ?_
      refine ls_ 9 none (lb 10 0x3ff) (fun K hK => ?_)
      skip
      refine skip_ (w1 := ?_) (by rfl) rfl ?_ ?_
      rotate_left
      · (go_simp; first | rfl | (constructor; rfl; rfl))
      refine hK.out _ _ ?_
      clear hK K
      refine done_ (by kernel_rfl) ?_
      generalize w3.setCell ⟨pt, 3, none⟩ (.slice Av3 (bs.length + 1) cv3) = W5 at HM3 ⊢
      rw [show wi.drew.heap.size = wi.heap.size from rfl] at HM3
      have KG5 := Aside0.mk (blk_below HP0.out HM3.out.below)
      have a1 := (blk_cell KG5.out 0).trans rfl
      have a2 := (blk_cell KG5.out 1).trans rfl
      have a3 := (blk_cell KG5.out 2).trans rfl
      have hv5 : v0.heap.size ≤ W5.heap.size := HM3.out.below.size
      have HV5 := Aside0.mk hv5
      clear e4 e5 hv5 E1 HMd HM KT KG HVI
      have hgt : ((bs ++ [wi.heap.size])[k]?) = some wi.heap.size := by rw [← HBK.out, List.getElem?_append_right (Nat.le_refl _)]; simp
      have HGT := Lib.hid hgt
      clear hgt
      by_cases hkt : k < g.terms.length
      · have ht : termF g (k : Int) = true := by simp [termF]; omega
        go_upto_region 7 with (go_at_call 26; go_loud (refine (term_c g A1 A2 A3 c1 c2 c3 (k : Int) _).mono ?_; rw [ht]; rintro e w6 ⟨rfl, hb6⟩; have HM6 := Aside0.mk (HM3.out.below_ hb6 HV5.out); clear hb6))
        have hkl : k < (bs ++ [wi.heap.size]).length := by have := HBK.out; simp; omega
        have d0 := (blk_cell HM6.out.tab 3).trans rfl
        obtain ⟨ad, ead, hy⟩ := at_br (Kd.R_reads' HM6.out.row).2.2 k hkl
        cases ead
        have hgk : (bs ++ [wi.heap.size])[k]'hkl = wi.heap.size := by have := HGT.out; rw [List.getElem?_eq_getElem hkl] at this; injection this
        have hrow := HM6.out.rows k hkl
        have HPT := Aside0.mk (HM6.out.put hkl k true)
        rw [initT_put hkt, hgk] at HPT
        rw [hgk] at hy hrow
        obtain ⟨z, hz⟩ : ∃ z, w6.cell? ⟨wi.heap.size, k, none⟩ = some (.bool z) := ⟨_, hrow.cell (by rw [HM6.out.sh.row hkl]; exact hkt)⟩
        have fz := hrow.fz k
        have i3 : (k : Int) < (bs.length : Int) + 1 := by have := HBK.out; omega
        have i4 : (k : Int) < (g.terms.length : Int) := by omega
        clear hrow hgk hkl a1 a2 a3
        go_wp2
        go_roundw
        case rel => exact ⟨k + 1, _, _, by omega, by go_num, HPT⟩
        case measure => simp [intOf]; omega
      · have ht : termF g (k : Int) = false := by simp [termF]; omega
        have HMN : Aside0 (initT k g.terms.length ++ [List.replicate g.terms.length false] = initT (k + 1) g.terms.length) := ⟨initT_no (by omega)⟩
        go_wp2_with (go_at_call 26; go_loud (refine (term_c g A1 A2 A3 c1 c2 c3 (k : Int) _).mono ?_; rw [ht]; rintro e w6 ⟨rfl, hb6⟩; have HM6 := Aside0.mk (HM3.out.below_ hb6 HV5.out); clear hb6))
        rw [HMN.out] at HM6
        go_roundw
        case rel => exact ⟨k + 1, _, _, by omega, by go_num, HM6⟩
        case measure => simp [intOf]; omega
    · have hke : k = n := by omega
      subst hke
      obtain ⟨go, co, hvs, htt, hgp, hgn⟩ := HM.out.tt (by have := HBK.out; omega)
      subst hvs
      have KG := Aside0.mk (blk_below HP0.out HM.out.below)
      have a3 := (blk_cell KG.out 2).trans rfl
      have hmc := mk_chan g.rules.length (by omega)
      have HC0 := Aside0.mk (CH.new wi g.rules.length)
      have hb9 := below_alloc (Below.refl wi.heap.size wi) (.chan g.rules.length #[] false 0 0 false)
      have hgl : go < wi.heap.size := World.block_lt_of_cell? wi _ (htt.cell 0 (by have := HBK.out; omega))
      have HMS : Aside0 (MS v0 (wi.alloc (.chan g.rules.length #[] false 0 0 false)) v0.heap.size pt go co bn wi.heap.size g.rules.length k g (.slice A1 g.terms.length c1) (.slice A2 g.names.length c2) (.slice A3 g.rules.length c3) bs (initT k g.terms.length) 0 0) :=
        ⟨⟨htt.below hb9, by have := blk_below HM.out.tab hb9; rw [HBK.out] at this; exact this, HM.out.nul.below hb9, below_then HM.out.below HVI.out hb9, HC0.out, by have := PF.start (g := g); rw [hn] at this; exact this, HBK.out, hgp, Nat.ne_of_lt hgl, HM.out.bo, HM.out.pl, HVI.out, HM.out.bl⟩⟩
      have HKN := Aside0.mk hgn
      clear htt hgp hgn hb9 hgl HC0 HM
      go_wp2
      refine wpN_seq_k (fun K hK => ?_)
      go_wp2
      clear a3 hmc
      have HQ9 := Aside0.mk (blk_below HQ0.out HMS.out.below)
      refine wpN_block ?_
      refine wpN_loop (MOut w v0 pt go co bn wi.heap.size k g (.slice A1 g.terms.length c1) (.slice A2 g.names.length c2) (.slice A3 g.rules.length c3) bs) (fun a W => k * g.terms.length - cntVs W bs) ?_ ?_
      · exact ⟨_, _, _, _, _, _, _, _, _, _, _, _, _, _, _, _, _, _, _, _, _, _, _, _, _, _, _, _, _, _, _, _, _, _, _, _, _, _, _, _, _, _, _, _, _, _, _, _, _, _, _, _, _, _, _, _, _, _, _, _, _, _, _, _, _, _, _, _, _, _, rfl, HMS.out⟩
      clear HMS HQ9
      obtain ⟨c, hc⟩ : ∃ c, c = wi.heap.size := ⟨_, rfl⟩
      rw [← hc] at *
      rintro _ W ⟨u0, u4, u6, u7, u8, u9, u10, u11, u12, u13, u14, u15, u16, u17, u18, u19, u20, u21, u22, u23, u24, u25, u26, u27, u28, u29, u30, u31, u32, u33, u34, u35, u36, u37, u38, u39, u40, u41, u42, u43, u44, u45, u46, u47, u48, u49, u50, u51, u52, u53, u54, u55, u56, u57, u58, u59, u60, u61, u62, u63, u64, u65, u66, u67, u68, u69, u70, u71, M, r, rfl, hs⟩ K hK
      have HS := Aside0.mk hs
      clear hs
      have a3 := (blk_cell (blk_below HP0.out HS.out.below) 2).trans rfl
      refine wpN_block ?_
      refine wpN_seq_n (fun K1 hK1 => ?_)
      refine wpN_seq_k (fun K2 hK2 => ?_)
      go_wp2
      refine wpN_block ?_
      refine wpN_loop (MIn w v0 pt go co bn c k g (.slice A1 g.terms.length c1) (.slice A2 g.names.length c2) (.slice A3 g.rules.length c3) A3 c3 bs M r) (fun a W => g.rules.length - (intOf (a.tmps.getD 49 undef)).toNat) ?_ ?_
      · exact ⟨_, _, _, _, _, _, _, _, _, _, _, _, _, _, _, _, _, _, _, _, _, _, _, _, _, _, _, _, _, _, _, _, _, _, _, _, _, _, _, _, _, _, _, _, _, _, _, _, _, _, _, _, _, _, _, _, _, _, _, _, _, _, _, _, _, 0, M, 0, rfl, Nat.zero_le _, Nat.le_refl _, HS.out, Nat.le_refl _, fun _ => ⟨rfl, fun x hx => by simp at hx⟩⟩
      clear a3
      rintro _ W1 ⟨u0, u4, u6, u7, u8, u9, u10, u11, u12, u13, u14, u15, u16, u17, u18, u19, u20, u21, u22, u23, u24, u25, u26, u27, u28, u29, u30, u31, u32, u33, u34, u35, u36, u37, u38, u39, u40, u41, u42, u43, u44, u45, u46, u50, u51, u52, u53, u54, u55, u56, u57, u58, u59, u60, u61, u62, u63, u64, u65, u66, u67, u68, u69, u70, u71, j, M', k', rfl, hj, hkj, hs1, hcn, hz⟩ K2 hK2
      have HS1 := Aside0.mk hs1
      have HCN := Aside0.mk hcn
      have HZR := Aside0.mk hz
      clear hs1 hcn hz
      by_cases hlt : j < g.rules.length
      · obtain ⟨ad, B1, d1, ead, hx0, hy0, hd1, hC1⟩ := at_rule HG0.out.rules j hlt
        cases ead
        have hx := pw_cell_below HS1.out.below hx0
        have hy := pw_cell_below HS1.out.below hy0
        clear hx0 hy0
        have hmem := goodF_mem HGD.out (g.rules[j]'hlt) (List.getElem_mem _)
        have HTK := Lib.hid (List.take_succ_eq_append_getElem hlt)
        have HXM := Aside0.mk (List.getElem_mem hlt)
        obtain ⟨x, hx1⟩ : ∃ x, x = g.rules[j]'hlt := ⟨_, rfl⟩
        rw [← hx1] at hx hy hd1 hC1 hmem HTK HXM
        clear hx1
        obtain ⟨lf, hlf⟩ := Int.eq_ofNat_of_zero_le (by omega : 0 ≤ x.left)
        have l3 : lf < k := by have := hmem.2.1; rw [hn] at this; omega
        have i3 : (lf : Int) < (k : Int) := by omega
        have hlb : lf < bs.length := by have := HBK.out; omega
        have HLF := Lib.hid hlf
        have HLB := Aside0.mk hlb
        have HXS : Aside0 (∀ y ∈ x.right, 0 ≤ y ∧ y < (k : Int)) := ⟨fun y hy => by have := hmem.2.2.2 y hy; rw [hn] at this; exact this⟩
        rw [hlf] at hx
        have i1 : (0 : Int) ≤ (j : Int) := by omega
        have i2 : (j : Int) < (g.rules.length : Int) := by omega
        obtain ⟨W5, hW5⟩ : ∃ W5, W5 = W1.alloc (.cells #[.int .i64 lf, .slice B1 x.right.length d1] 48 (0, 0)) := ⟨_, rfl⟩
        have HB5 : Aside0 (Below W1.heap.size W1 W5) := ⟨by rw [hW5]; exact below_alloc (Below.refl _ _) _⟩
        have KR5 : Aside0 (W5.heap[W1.heap.size]? = some (.cells #[.int .i64 lf, .slice B1 x.right.length d1] 48 (0, 0))) := ⟨by rw [hW5]; exact blk_new W1 _⟩
        have HS5 := Aside0.mk (HS1.out.below_ HB5.out HS1.out.below.size)
        have HV5 := Aside0.mk (show v0.heap.size ≤ W5.heap.size from HS5.out.below.size)
        have KT5 := Aside0.mk HS5.out.tab
        have HC5 := Aside0.mk (Kd.C_below (Kd.C_below hC1 HS1.out.below) HB5.out)
        have hcl := HS5.out.tt.cell lf hlb
        have HBL := Aside0.mk (HS5.out.tt.row lf hlb)
        obtain ⟨bL, hbL⟩ : ∃ bL, bL = bs[lf]'hlb := ⟨_, rfl⟩
        have HBE := Lib.hid hbL
        rw [← hbL] at hcl HBL
        have HCL := Aside0.mk hcl
        have HLL := Aside0.mk (blk_lt HBL.out)
        have HRL := Aside0.mk (HS5.out.tt.rlen hlb)
        have HQL := Aside0.mk (seqT_len HGD.out HS5.out.pf.sh HXM.out)
        have HNL : Aside0 ((nullF g).length = k) := ⟨by rw [nullF_len HGD.out, hn]⟩
        have HPF := Aside0.mk HS5.out.pf
        have hd2 := hd1
        obtain ⟨mo, hmo⟩ : ∃ mo, moreF (rowT M' (lf : Int)) (seqT g M' x) = mo := ⟨_, rfl⟩
        have HMO := Lib.hid hmo
        clear hmo hcl hbL hmem hC1 hd1 hlf
        cases mo
        · have HJN := Aside0.mk (joinM_no HGD.out HPF.out HXM.out (by rw [HLF.out]; exact HMO.out))
          refine wpN_of_wp ?_
          go_upto_region 13 with (fail)
          simp only [← hW5]
          clear hW5
          refine start_ (n := 11) (S := fun w' => Below W5.heap.size W5 w') (ds := [10]) (lb 11 0x0) (by kernel_rfl) rfl (by kernel_rfl) (below_drew1 (Below.refl _ _)) (fun hHeld => ?_)
          refine pu_ ?_ ?_ 0 (some 54) (lb 11 0x1) ?_
          refine pu_ ?_ ?_ 2 (some 56) (lb 11 0x5) ?_
          refine pu_ ?_ ?_ 7 (some 61) (lb 11 0x85) ?_
          refine ta_ ?_ ?_ 1 (some 55) (lb 11 0x87) hHeld ?_ (y := by rintro w' hS; have d0 := (blk_cell (blk_below KT5.out hS) 0).trans rfl; have d1 := (blk_cell (blk_below KT5.out hS) 1).trans rfl; have d2 := (blk_cell (blk_below KT5.out hS) 2).trans rfl; have d3 := (blk_cell (blk_below KT5.out hS) 3).trans rfl; have d4 := (blk_cell (blk_below KT5.out hS) 4).trans rfl; have d5 := (blk_cell (blk_below KR5.out hS) 0).trans rfl; have d6 := (blk_cell (blk_below KR5.out hS) 1).trans rfl; have d7 := cell_at hS HCL.out; go_simp; with_reducible rfl)
          refine ta_ ?_ ?_ 3 (some 57) (lb 11 0x8f) hHeld ?_ (y := by rintro w' hS; have d0 := (blk_cell (blk_below KT5.out hS) 0).trans rfl; have d1 := (blk_cell (blk_below KT5.out hS) 1).trans rfl; have d2 := (blk_cell (blk_below KT5.out hS) 2).trans rfl; have d3 := (blk_cell (blk_below KT5.out hS) 3).trans rfl; have d4 := (blk_cell (blk_below KT5.out hS) 4).trans rfl; have d5 := (blk_cell (blk_below KR5.out hS) 0).trans rfl; have d6 := (blk_cell (blk_below KR5.out hS) 1).trans rfl; have d7 := cell_at hS HCL.out; go_simp; with_reducible rfl)
          refine pu_ ?_ ?_ 4 (some 58) (lb 11 0x9f) ?_
          refine ta_ ?_ ?_ 5 (some 59) (lb 11 0xbf) hHeld ?_ (y := by rintro w' hS; have d0 := (blk_cell (blk_below KT5.out hS) 0).trans rfl; have d1 := (blk_cell (blk_below KT5.out hS) 1).trans rfl; have d2 := (blk_cell (blk_below KT5.out hS) 2).trans rfl; have d3 := (blk_cell (blk_below KT5.out hS) 3).trans rfl; have d4 := (blk_cell (blk_below KT5.out hS) 4).trans rfl; have d5 := (blk_cell (blk_below KR5.out hS) 0).trans rfl; have d6 := (blk_cell (blk_below KR5.out hS) 1).trans rfl; have d7 := cell_at hS HCL.out; go_simp; with_reducible rfl)
          refine ta_ ?_ ?_ 6 (some 60) (lb 11 0xff) hHeld ?_ (y := by rintro w' hS; have d0 := (blk_cell (blk_below KT5.out hS) 0).trans rfl; have d1 := (blk_cell (blk_below KT5.out hS) 1).trans rfl; have d2 := (blk_cell (blk_below KT5.out hS) 2).trans rfl; have d3 := (blk_cell (blk_below KT5.out hS) 3).trans rfl; have d4 := (blk_cell (blk_below KT5.out hS) 4).trans rfl; have d5 := (blk_cell (blk_below KR5.out hS) 0).trans rfl; have d6 := (blk_cell (blk_below KR5.out hS) 1).trans rfl; have d7 := cell_at hS HCL.out; go_simp; with_reducible rfl)
          refine ta_ ?_ ?_ 8 (some 62) (lb 11 0x1ff) hHeld ?_ (y := by rintro w' hS; have d0 := (blk_cell (blk_below KT5.out hS) 0).trans rfl; have d1 := (blk_cell (blk_below KT5.out hS) 1).trans rfl; have d2 := (blk_cell (blk_below KT5.out hS) 2).trans rfl; have d3 := (blk_cell (blk_below KT5.out hS) 3).trans rfl; have d4 := (blk_cell (blk_below KT5.out hS) 4).trans rfl; have d5 := (blk_cell (blk_below KR5.out hS) 0).trans rfl; have d6 := (blk_cell (blk_below KR5.out hS) 1).trans rfl; have d7 := cell_at hS HCL.out; go_simp; with_reducible rfl)
          refine on_ 9 (some 63) (lb 11 0x3ff) (fun K hK => ?_)
          (refine goesC_ Try.func69 (by kernel_rfl) rfl (by rfl) rfl rfl (of1_c g.terms.length g.names.length g.rules.length k go co bn d1 A1 A2 (some ad) B1 c1 c2 c3 bs M' (nullF g) x.right _ v0.heap.size (HS5.out.tt.below hHeld) HBK.out (HS5.out.nul.below hHeld) HNL.out (by omega) (by omega) (Kd.C_below HC5.out hHeld) HXS.out) (by simp [Act.eval]) ?_; rintro e w9 ⟨⟨b, rfl, hbb, hbs⟩, hb9⟩; refine ⟨_, rfl, ?_⟩; have HQ9 := Aside0.mk (below_then hHeld hHeld.size hb9); have HBB := Aside0.mk (show BB w9 b (seqT g M' x) from hbb); have HBS := Aside0.mk (Nat.le_trans hHeld.size hbs); clear hbb hbs; clear hb9; refine hK.out _ _ HQ9.out (fun hHeld => ?_))
          clear hK K
          refine nm_ ?_ (some 63) ?_
          refine ls_ 10 (some 64) (lb 11 0x7ff) (fun K hK => ?_)
          (refine goesC_ Try.func100 (by kernel_rfl) rfl (by rfl) rfl rfl (join_v bL b g.terms.length (rowT M' (lf : Int)) (seqT g M' x) _ (HBL.out.below hHeld) HBB.out HRL.out HQL.out (by have := HBS.out; have := HLL.out; omega) (by omega) HMO.out) (by simp [Act.eval]) ?_; rintro e w8 ⟨rfl, hbo, hup⟩; refine ⟨_, rfl, ?_⟩; have HW9 := Aside0.mk hHeld; have HBO := Aside0.mk hbo; have HUP := Aside0.mk hup; clear hbo hup)
          refine hK.out _ _ ?_
          clear hK K
          refine nm_ ?_ (some 64) ?_
          refine done_ (by kernel_rfl) ?_
          have HS9 := Aside0.mk ((HS5.out.below_ HW9.out HV5.out).join HGD.out HXM.out HLF.out HLB.out (W' := w8) (by rw [← HBE.out]; exact HUP.out) (by rw [← HBE.out]; exact HBO.out))
          rw [HJN.out.1] at HS9
          have HZ2 : Aside0 (k' = 0 → M' = M ∧ ∀ y ∈ g.rules.take (j + 1), ∀ s ∈ heads (nullF g) y.right, ∀ t, getT M s t = true → getT M y.left t = true) := ⟨fun h0 => by
            obtain ⟨e1, e2⟩ := HZR.out h0
            refine ⟨e1, fun y hy => ?_⟩
            rw [HTK.out] at hy
            rcases List.mem_append.1 hy with hy | hy
            · exact e2 y hy
            · rw [List.mem_singleton.1 hy, ← e1]; exact HJN.out.2⟩
          go_wp2
          exact ⟨⟨_, _, _, _, _, _, _, _, _, _, _, _, _, _, _, _, _, _, _, _, _, _, _, _, _, _, _, _, _, _, _, _, _, _, _, _, _, _, _, _, _, _, _, _, _, _, _, _, _, _, _, _, _, _, _, _, _, _, _, _, _, _, _, _, _, j + 1, M', k', rfl, by omega, by omega, HS9.out, HCN.out, HZ2.out⟩, by simp [intOf]; omega⟩
        · have HJM := Aside0.mk (joinM_more HGD.out HPF.out HXM.out (by rw [HLF.out]; exact HMO.out))
          refine wpN_seq_k (fun K3 hK3 => ?_)
          go_wp2
          refine wpN_seq_k (fun K3 hK3 => ?_)
          go_wp2
          refine wpN_seq_n (fun K3 hK3 => ?_)
          refine wpN_block ?_
          refine wpN_seq_k (fun K4 hK4 => ?_)
          go_wp2
          refine wpN_seq_k (fun K4 hK4 => ?_)
          simp only [← hW5]
          clear hW5
          refine start_ (n := 11) (S := fun w' => Below W5.heap.size W5 w') (ds := [10]) (lb 11 0x0) (by kernel_rfl) rfl (by kernel_rfl) (below_drew1 (Below.refl _ _)) (fun hHeld => ?_)
          refine pu_ ?_ ?_ 0 (some 54) (lb 11 0x1) ?_
          refine pu_ ?_ ?_ 2 (some 56) (lb 11 0x5) ?_
          refine pu_ ?_ ?_ 7 (some 61) (lb 11 0x85) ?_
          refine ta_ ?_ ?_ 1 (some 55) (lb 11 0x87) hHeld ?_ (y := by rintro w' hS; have d0 := (blk_cell (blk_below KT5.out hS) 0).trans rfl; have d1 := (blk_cell (blk_below KT5.out hS) 1).trans rfl; have d2 := (blk_cell (blk_below KT5.out hS) 2).trans rfl; have d3 := (blk_cell (blk_below KT5.out hS) 3).trans rfl; have d4 := (blk_cell (blk_below KT5.out hS) 4).trans rfl; have d5 := (blk_cell (blk_below KR5.out hS) 0).trans rfl; have d6 := (blk_cell (blk_below KR5.out hS) 1).trans rfl; have d7 := cell_at hS HCL.out; go_simp; with_reducible rfl)
          refine ta_ ?_ ?_ 3 (some 57) (lb 11 0x8f) hHeld ?_ (y := by rintro w' hS; have d0 := (blk_cell (blk_below KT5.out hS) 0).trans rfl; have d1 := (blk_cell (blk_below KT5.out hS) 1).trans rfl; have d2 := (blk_cell (blk_below KT5.out hS) 2).trans rfl; have d3 := (blk_cell (blk_below KT5.out hS) 3).trans rfl; have d4 := (blk_cell (blk_below KT5.out hS) 4).trans rfl; have d5 := (blk_cell (blk_below KR5.out hS) 0).trans rfl; have d6 := (blk_cell (blk_below KR5.out hS) 1).trans rfl; have d7 := cell_at hS HCL.out; go_simp; with_reducible rfl)
          refine pu_ ?_ ?_ 4 (some 58) (lb 11 0x9f) ?_
          refine ta_ ?_ ?_ 5 (some 59) (lb 11 0xbf) hHeld ?_ (y := by rintro w' hS; have d0 := (blk_cell (blk_below KT5.out hS) 0).trans rfl; have d1 := (blk_cell (blk_below KT5.out hS) 1).trans rfl; have d2 := (blk_cell (blk_below KT5.out hS) 2).trans rfl; have d3 := (blk_cell (blk_below KT5.out hS) 3).trans rfl; have d4 := (blk_cell (blk_below KT5.out hS) 4).trans rfl; have d5 := (blk_cell (blk_below KR5.out hS) 0).trans rfl; have d6 := (blk_cell (blk_below KR5.out hS) 1).trans rfl; have d7 := cell_at hS HCL.out; go_simp; with_reducible rfl)
          refine ta_ ?_ ?_ 6 (some 60) (lb 11 0xff) hHeld ?_ (y := by rintro w' hS; have d0 := (blk_cell (blk_below KT5.out hS) 0).trans rfl; have d1 := (blk_cell (blk_below KT5.out hS) 1).trans rfl; have d2 := (blk_cell (blk_below KT5.out hS) 2).trans rfl; have d3 := (blk_cell (blk_below KT5.out hS) 3).trans rfl; have d4 := (blk_cell (blk_below KT5.out hS) 4).trans rfl; have d5 := (blk_cell (blk_below KR5.out hS) 0).trans rfl; have d6 := (blk_cell (blk_below KR5.out hS) 1).trans rfl; have d7 := cell_at hS HCL.out; go_simp; with_reducible rfl)
          refine ta_ ?_ ?_ 8 (some 62) (lb 11 0x1ff) hHeld ?_ (y := by rintro w' hS; have d0 := (blk_cell (blk_below KT5.out hS) 0).trans rfl; have d1 := (blk_cell (blk_below KT5.out hS) 1).trans rfl; have d2 := (blk_cell (blk_below KT5.out hS) 2).trans rfl; have d3 := (blk_cell (blk_below KT5.out hS) 3).trans rfl; have d4 := (blk_cell (blk_below KT5.out hS) 4).trans rfl; have d5 := (blk_cell (blk_below KR5.out hS) 0).trans rfl; have d6 := (blk_cell (blk_below KR5.out hS) 1).trans rfl; have d7 := cell_at hS HCL.out; go_simp; with_reducible rfl)
          refine on_ 9 (some 63) (lb 11 0x3ff) (fun K hK => ?_)
          (refine goesC_ Try.func69 (by kernel_rfl) rfl (by rfl) rfl rfl (of1_c g.terms.length g.names.length g.rules.length k go co bn d1 A1 A2 (some ad) B1 c1 c2 c3 bs M' (nullF g) x.right _ v0.heap.size (HS5.out.tt.below hHeld) HBK.out (HS5.out.nul.below hHeld) HNL.out (by omega) (by omega) (Kd.C_below HC5.out hHeld) HXS.out) (by simp [Act.eval]) ?_; rintro e w9 ⟨⟨b, rfl, hbb, hbs⟩, hb9⟩; refine ⟨_, rfl, ?_⟩; have HQ9 := Aside0.mk (below_then hHeld hHeld.size hb9); have HBB := Aside0.mk (show BB w9 b (seqT g M' x) from hbb); have HBS := Aside0.mk (Nat.le_trans hHeld.size hbs); clear hbb hbs; clear hb9; refine hK.out _ _ HQ9.out (fun hHeld => ?_))
          clear hK K
          refine nm_ ?_ (some 63) ?_
          refine ls_ 10 (some 64) (lb 11 0x7ff) (fun K hK => ?_)
          (refine goesC_ Try.func100 (by kernel_rfl) rfl (by rfl) rfl rfl (join_v bL b g.terms.length (rowT M' (lf : Int)) (seqT g M' x) _ (HBL.out.below hHeld) HBB.out HRL.out HQL.out (by have := HBS.out; have := HLL.out; omega) (by omega) HMO.out) (by simp [Act.eval]) ?_; rintro e w8 ⟨rfl, hbo, hup⟩; refine ⟨_, rfl, ?_⟩; have HW9 := Aside0.mk hHeld; have HBO := Aside0.mk hbo; have HUP := Aside0.mk hup; clear hbo hup)
          refine hK.out _ _ ?_
          clear hK K
          refine nm_ ?_ (some 64) ?_
          refine done_ (by kernel_rfl) ?_
          have HS9 := Aside0.mk ((HS5.out.below_ HW9.out HV5.out).join HGD.out HXM.out HLF.out HLB.out (W' := w8) (by rw [← HBE.out]; exact HUP.out) (by rw [← HBE.out]; exact HBO.out))
          refine hK4 _ _ ?_
          refine wpN_cond (t := true) rfl ?_
          simp only [if_true]
          refine wpN_region ?_
          show inN _ _ [0, 1, 2] _ _ _
          refine inN_value (o := ?o1) (v := ?v1) (w' := ?w1) (by simp only [List.getElem?_toArray, List.getElem?_cons_zero, List.getElem?_cons_succ]; rfl) (by rfl) ?h1 ?_
          case h1 => (go_simp; first | rfl | (constructor; rfl; rfl))
          simp only [Act.put, List.setIfInBounds_toArray, List.set_cons_zero, List.set_cons_succ]
          refine inN_value (o := ?o2) (v := ?v2) (w' := ?w2) (by simp only [List.getElem?_toArray, List.getElem?_cons_zero, List.getElem?_cons_succ]; rfl) (by rfl) ?h2 ?_
          case h2 => (go_simp; first | rfl | (constructor; rfl; rfl))
          simp only [Act.put, List.setIfInBounds_toArray, List.set_cons_zero, List.set_cons_succ]
          obtain ⟨buf, s, hch, hbk⟩ := HS9.out.ch
          have hroom : buf.size < g.rules.length := by omega
          refine inN_send (c := c) (cap := g.rules.length) (buf := buf) (s := s) (r := r) (tm := false) (o := ?o3) (v := ?v3) (z' := ?z3) (w₁ := ?w3) (by simp only [List.getElem?_toArray, List.getElem?_cons_zero, List.getElem?_cons_succ]; rfl) (by rfl) ?h3 ?c3 hroom ?_
          case h3 => (go_simp; first | rfl | (constructor; rfl; rfl))
          case c3 => exact hch
          simp only [Act.put, List.setIfInBounds_toArray, List.set_cons_zero, List.set_cons_succ]
          refine inN_nil ?_
          simp only [Exit.inBlock, Exit.then]
          refine hK3 _ _ ?_
          refine wpN_of_wp ?_
          have hcw : c < w8.heap.size := (Array.getElem?_eq_some_iff.1 hch).1
          have HSX := Aside0.mk (HS9.out.chan ((Upd.refl w8 c).chan hcw g.rules.length (buf.push (.int .i64 j)) false (s + 1) r false) (k' := k' + 1) (r' := r) ⟨_, _, heap_setChan _ _ _ _ _ _ _ _ hcw, by simp [hbk]⟩)
          clear hch hbk hroom hcw
          go_wp2
          exact ⟨⟨_, _, _, _, _, _, _, _, _, _, _, _, _, _, _, _, _, _, _, _, _, _, _, _, _, _, _, _, _, _, _, _, _, _, _, _, _, _, _, _, _, _, _, _, _, _, _, _, _, _, _, _, _, _, _, _, _, _, _, _, _, _, _, _, _, j + 1, joinM g M' x, k' + 1, rfl, by omega, by omega, HSX.out, by have := HCN.out; have := HJM.out; omega, fun h0 => by omega⟩, by simp [intOf]; omega⟩
      · have HCW := Aside0.mk HS1.out.ch
        refine wpN_of_wp ?_
        go_wp2
        refine wpN_of_wp ?_
        by_cases h0 : 0 < k'
        · have hd : decide (0 < k') = true := decide_eq_true h0
          have HMT := Aside0.mk HS1.out.tt.cntVs
          go_wp2_with (go_at_call 101; go_loud (refine (drained_c c g.rules.length k' r _ HCW.out).mono ?_; rw [hd]; rintro e w6 ⟨rfl, hch6, hup6⟩; have HS6 := Aside0.mk (HS1.out.chan hup6 hch6); clear hch6 hup6))
          have hmeas : k * g.terms.length - cntVs w6 bs < k * g.terms.length - cntVs W bs := by
            have e1 := HS.out.tt.cntVs
            have e2 := HS6.out.tt.cntVs
            have e3 := cntT_le HS6.out.tt.sh
            have := HCN.out
            rw [HBK.out] at e3
            omega
          exact ⟨⟨_, _, _, _, _, _, _, _, _, _, _, _, _, _, _, _, _, _, _, _, _, _, _, _, _, _, _, _, _, _, _, _, _, _, _, _, _, _, _, _, _, _, _, _, _, _, _, _, _, _, _, _, _, _, _, _, _, _, _, _, _, _, _, _, _, _, _, _, M', _, rfl, HS6.out⟩, hmeas⟩
        · have hk0 : k' = 0 := by omega
          obtain ⟨e1, e2⟩ := HZR.out hk0
          have HFM : Aside0 (M' = firstF g) := ⟨by rw [e1]; exact PF.fin HS.out.pf (fun x hx => e2 x (by rw [List.take_of_length_le (by omega)]; exact hx))⟩
          have hd : decide (0 < k') = false := decide_eq_false h0
          clear e1 e2
          go_wp2_with (go_at_call 101; go_loud (refine (drained_c c g.rules.length k' r _ HCW.out).mono ?_; rw [hd]; rintro e w6 ⟨rfl, hch6, hup6⟩; have HS6 := Aside0.mk (HS1.out.chan hup6 hch6); clear hch6 hup6; have HQ6 := Aside0.mk (blk_below HQ0.out HS6.out.below); have d0 := (blk_cell HS6.out.tab 0).trans rfl; have d1 := (blk_cell HS6.out.tab 1).trans rfl; have d2 := (blk_cell HS6.out.tab 2).trans rfl; have d3 := (blk_cell HS6.out.tab 3).trans rfl; have d4 := (blk_cell HS6.out.tab 4).trans rfl; have b0 := (blk_cell HQ6.out 0).trans rfl; have b1 := (blk_cell HQ6.out 1).trans rfl; have b2 := (blk_cell HQ6.out 2).trans rfl; have b3 := (blk_cell HQ6.out 3).trans rfl; have b4 := (blk_cell HQ6.out 4).trans rfl; have f0 := blk_frozen HQ6.out 0; have f1 := blk_frozen HQ6.out 1; have f2 := blk_frozen HQ6.out 2; have f3 := blk_frozen HQ6.out 3; have f4 := blk_frozen HQ6.out 4))
          have hlo : w.heap.size ≤ v0.heap.size := HB0.out.size
          have HU : Aside0 (Upd w6 (((((w6.setCell ⟨w.heap.size + 1, 0, none⟩ (.slice A1 g.terms.length c1)).setCell ⟨w.heap.size + 1, 1, none⟩ (.slice A2 g.names.length c2)).setCell ⟨w.heap.size + 1, 2, none⟩ (.slice A3 g.rules.length c3)).setCell ⟨w.heap.size + 1, 3, none⟩ (.slice (some ⟨go, 0, none⟩) k co)).setCell ⟨w.heap.size + 1, 4, none⟩ (.slice (some ⟨bn, 0, none⟩) k k)) (w.heap.size + 1)) := ⟨((((((Upd.refl _ _).set _ _).set _ _).set _ _).set _ _).set _ _)⟩
          have hv := HV0S.out
          refine bodyPost_ret (results_tab rfl (blk_set (blk_set (blk_set (blk_set (blk_set HQ6.out 0 _) 1 _) 2 _) 3 _) 4 _)) rfl ⟨⟨go, co, bs, bn, rfl, ?_, HBK.out, ?_, ?_⟩, HU.out.low (below_then HB0.out HB0.out.size HS6.out.below) (by omega)⟩
          · have h1 := HS6.out.tt
            rw [HFM.out] at h1
            exact (h1.other HU.out (by have := h1.lo1; omega) (fun hb => by have := h1.lo2 _ hb; omega)).lower hlo
          · exact HU.out.bb HS6.out.nul (by have := HS6.out.ln; omega)
          · have := HS6.out.ln; omega
end Go.Proofs.Ytdpdbgaoaibafaa
