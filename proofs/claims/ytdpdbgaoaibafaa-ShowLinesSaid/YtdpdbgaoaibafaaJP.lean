/- Texts P21, P22, P23, joined: contracts of functions of the program, and plain laws; each says what it proves. -/
import Derived.Test.YtdpdbgaoaibafaaJQ
import Derived.Test.YtdpdbgaoaibafaaJB
/- A grammar's text is read as that grammar (plain). -/
set_option linter.unusedVariables false
set_option linter.unusedSimpArgs false
namespace Go.Proofs.Ytdpdbgaoaibafaa
open Go.RowKit Go.Proofs.YtdpdbgaoaibafaaW.PrintWords

/-! ### the text's tokens -/
theorem bsl_app (a b : ByteArray) : bsl (a ++ b) = bsl a ++ bsl b := by simp [bsl]
theorem ofL_bsl' (s : ByteArray) : ofL (bsl s) = s := rfl
inductive Tk : List UInt8 → Int → ByteArray → Prop
  | name {s : ByteArray} (h : isNameF (bsl s) = true) : Tk (bsl s) 1 s
  | term {s : ByteArray} (h : isTermF (bsl s) = true) : Tk (39 :: (bsl s ++ [39])) 2 s
  | eq : Tk [61] 3 ⟨#[61]⟩
  | semi : Tk [59] 5 ⟨#[59]⟩
structure Piece where
  b : List UInt8
  k : Int
  s : ByteArray
  w : UInt8
def Piece.ok (p : Piece) : Prop := Tk p.b p.k p.s ∧ (p.w = 32 ∨ p.w = 10)
def flatP (l : List Piece) : List UInt8 := l.flatMap fun p => p.b ++ [p.w]
theorem run_app {p : Int → Bool} {a r : List UInt8} (h : a.all (fun c => p c.toNat) = true) (hr : ∀ c t, r = c :: t → p c.toNat = false) : runF (a ++ r) p = a.length := by
  unfold runF
  rw [List.takeWhile_append_of_pos (fun x hx => List.all_eq_true.1 h x hx)]
  cases r with
  | nil => simp
  | cons c t => simp [hr c t rfl]
theorem tokenF_tk {b : List UInt8} {k : Int} {s : ByteArray} (h : Tk b k s) (r : List UInt8) (hr : ∀ c t, r = c :: t → innerB c.toNat = false) (at_ : Int) : tokenF (b ++ r) at_ = some (⟨k, s, at_⟩, b.length) := by
  cases h with
  | name h =>
    have h0 := h
    unfold isNameF at h
    simp only [Bool.and_eq_true] at h
    have hrun := run_app (p := innerB) h.2 hr
    have htk : (bsl s ++ r).take (bsl s).length = bsl s := by simp
    cases hb : bsl s with
    | nil => rw [hb] at h; simp at h
    | cons c t =>
      rw [hb] at h hrun htk
      have hl : letterB c.toNat = true := h.1.2
      rw [← hb] at hrun htk
      rw [List.cons_append, tokenF_cons, if_pos hl, ← List.cons_append, ← hb, hrun, htk, if_pos h0, ofL_bsl]
  | term h =>
    have h0 := h
    unfold isTermF at h
    simp only [Bool.and_eq_true] at h
    have hrun := run_app (p := insideB) (r := 39 :: r) h.2 (fun c t e => by injection e with e1; subst e1; decide)
    rw [List.cons_append, List.append_assoc]
    unfold tokenF
    simp only [List.singleton_append]
    rw [if_neg (by decide), if_pos (by decide), hrun, List.take_left', if_pos ⟨h0, by simp⟩]
    · simp [ofL_bsl']
    · rfl
  | eq => rfl
  | semi => rfl
theorem tk_head {b : List UInt8} {k : Int} {s : ByteArray} (h : Tk b k s) (r : List UInt8) : skipF false (b ++ r) = 0 := by
  cases h with
  | name h =>
    unfold isNameF at h
    simp only [Bool.and_eq_true] at h
    cases hb : bsl s with
    | nil => rw [hb] at h; simp at h
    | cons c t =>
      rw [hb] at h
      have hl : letterB c.toNat = true := h.1.2
      unfold letterB at hl
      rw [decide_eq_true_eq] at hl
      rw [List.cons_append, skipF, if_neg (by omega), if_neg (by omega)]
  | term h => rfl
  | eq => rfl
  | semi => rfl
def er (t : Tok) : Int × ByteArray := (t.kind, t.text)
def Last (l : List UInt8) (e : List (Int × ByteArray)) : Prop := (l = [] ∧ e = []) ∨ (l = [59] ∧ e = [(5, ⟨#[59]⟩)])
theorem skip_flat {l : List Piece} (hp : ∀ p ∈ l, p.ok) {la : List UInt8} {e : List (Int × ByteArray)} (hl : Last la e) : skipF false (flatP l ++ la) = 0 := by
  cases l with
  | nil =>
    rcases hl with ⟨rfl, _⟩ | ⟨rfl, _⟩ <;> rfl
  | cons p l =>
    unfold flatP
    rw [List.flatMap_cons, List.append_assoc, List.append_assoc]
    exact tk_head (hp p List.mem_cons_self).1 _
theorem toks_pieces {la : List UInt8} {e : List (Int × ByteArray)} (hl : Last la e) : ∀ (l : List Piece), (∀ p ∈ l, p.ok) → ∀ (k at_ : Nat) (acc : List Tok), l.length + 1 < k →
    ∃ ts, toksF k at_ (flatP l ++ la) acc = .ok (acc ++ ts) ∧ ts.map er = l.map (fun p => (p.k, p.s)) ++ e
  | [], _, k, at_, acc, hk => by
    obtain ⟨k, rfl⟩ : ∃ j, k = j + 1 + 1 := ⟨k - 2, by simp at hk; omega⟩
    rcases hl with ⟨rfl, rfl⟩ | ⟨rfl, rfl⟩
    · exact ⟨[], by simp [flatP, toksF], rfl⟩
    · refine ⟨[⟨5, ⟨#[59]⟩, at_⟩], ?_, rfl⟩
      have h := tokenF_tk Tk.semi [] (fun c t e => by cases e) at_
      show toksF (k + 1 + 1) at_ ([59] ++ []) acc = _
      rw [toksF_some h]
      rfl
  | p :: l, hp, k, at_, acc, hk => by
    obtain ⟨k, rfl⟩ : ∃ j, k = j + 1 := ⟨k - 1, by omega⟩
    obtain ⟨h1, h2⟩ := hp p List.mem_cons_self
    have hp' : ∀ q ∈ l, q.ok := fun q hq => hp q (List.mem_cons_of_mem _ hq)
    have hs := skip_flat hp' hl
    have hf : flatP (p :: l) ++ la = p.b ++ (p.w :: (flatP l ++ la)) := by unfold flatP; simp
    have hsk : skipF false (p.w :: (flatP l ++ la)) = 1 := by
      rw [skipF, if_pos (by rcases h2 with h | h <;> rw [h] <;> decide), hs]
    have h := tokenF_tk h1 (p.w :: (flatP l ++ la)) (fun c t e => by injection e with e1; subst e1; rcases h2 with h | h <;> rw [h] <;> decide) at_
    rw [hf, toksF_some h, List.drop_left, hsk, List.drop_succ_cons, List.drop_zero]
    obtain ⟨ts, e1, e2⟩ := toks_pieces hl l hp' k (at_ + p.b.length + 1) (acc ++ [⟨p.k, p.s, at_⟩]) (by simp at hk; omega)
    exact ⟨⟨p.k, p.s, at_⟩ :: ts, by rw [e1, List.append_assoc]; rfl, by rw [List.map_cons, e2]; rfl⟩
end Go.Proofs.Ytdpdbgaoaibafaa

/- A grammar's text is read al that grammar: reading and numbering (plain). -/
set_option linter.unusedVariables false
set_option linter.unusedSimpArgs false
namespace Go.Proofs.Ytdpdbgaoaibafaa
open Go.RowKit Go.Proofs.YtdpdbgaoaibafaaW.PrintWords

/-! ### reading -/
def kdS (g : Gram) (x : Int) : Int × ByteArray := (if termF g x = true then 2 else 1, nameD g x)
def eR (g : Gram) (r : Rule) : List (Int × ByteArray) := (1, nameD g r.left) :: (3, ⟨#[61]⟩) :: (r.right.map (kdS g) ++ [(5, ⟨#[59]⟩)])
def eA (g : Gram) (r : Rule) : ByteArray × List (Int × ByteArray) := (nameD g r.left, r.right.map (kdS g))
def erA (a : Alt) : ByteArray × List (Int × ByteArray) := (a.left.text, a.right.map er)
theorem kdS_kind (g : Gram) (x : Int) : (kdS g x).1 = 1 ∨ (kdS g x).1 = 2 := by
  unfold kdS
  split <;> simp
theorem altF_er {en : Int} {s5 : ByteArray} {rest : List (Int × ByteArray)} : ∀ (l : List (Int × ByteArray)), (∀ p ∈ l, p.1 = 1 ∨ p.1 = 2) → ∀ (ts acc : List Tok), ts.map er = l ++ (5, s5) :: rest →
    ∃ rts r, altF en ts acc = .ok (acc ++ rts, false, r) ∧ rts.map er = l ∧ r.map er = rest
  | [], _, ts, acc, h => by
    cases ts with
    | nil => cases h
    | cons t ts =>
      injection h with h1 h2
      have hk : t.kind = 5 := congrArg Prod.fst h1
      refine ⟨[], ts, ?_, rfl, h2⟩
      rw [altF, if_neg (by omega), if_pos (Or.inr hk), List.append_nil, hk]
      rfl
  | p :: l, hp, ts, acc, h => by
    cases ts with
    | nil => cases h
    | cons t ts =>
      injection h with h1 h2
      have hk : t.kind = p.1 := congrArg Prod.fst h1
      obtain ⟨rts, r, e1, e2, e3⟩ := altF_er l (fun q hq => hp q (List.mem_cons_of_mem _ hq)) ts (acc ++ [t]) h2
      refine ⟨t :: rts, r, ?_, by rw [List.map_cons, e2, h1], e3⟩
      rw [altF, if_pos (by rw [hk]; exact hp p List.mem_cons_self), e1, List.append_assoc]
      rfl
theorem defF_er {en : Int} {g : Gram} {r : Rule} {rest : List (Int × ByteArray)} {ts : List Tok} {out : List Alt} (h : ts.map er = eR g r ++ rest) (ho : out.length < 60) (h8 : r.right.length ≤ 8) :
    ∃ a ts', defF en ts out = .ok (ts', out ++ [a]) ∧ erA a = eA g r ∧ ts'.map er = rest := by
  unfold eR at h
  rw [List.cons_append, List.cons_append, List.append_assoc] at h
  cases ts with
  | nil => cases h
  | cons t1 ts =>
    injection h with h1 h
    cases ts with
    | nil => cases h
    | cons t2 ts =>
      injection h with h2 h
      have k1 : t1.kind = 1 := congrArg Prod.fst h1
      have x1 : t1.text = nameD g r.left := congrArg Prod.snd h1
      have k2 : t2.kind = 3 := congrArg Prod.fst h2
      obtain ⟨rts, ts', e1, e2, e3⟩ := altF_er (en := en) _ (fun p hp => by obtain ⟨x, _, rfl⟩ := List.mem_map.1 hp; exact kdS_kind g x) ts [] h
      have hl : rts.length = r.right.length := by have := congrArg List.length e2; simpa using this
      refine ⟨⟨t1, rts⟩, ts', ?_, by unfold erA eA; simp only [x1, e2], e3⟩
      show (if t1.kind = 1 then (if t2.kind = 3 then altsF en t1 (ts.length + 1) ts out else .error (12, t2.pos)) else .error (12, t1.pos)) = _
      rw [if_pos k1, if_pos k2, altsF, e1]
      simp only [List.nil_append]
      rw [if_neg (by omega), if_neg (by decide)]
theorem restF_er {en : Int} {g : Gram} : ∀ (l : List Rule), (∀ r ∈ l, r.right.length ≤ 8) → ∀ (k : Nat) (ts : List Tok) (out : List Alt), ts.map er = l.flatMap (eR g) → ts.length ≤ k → out.length + l.length ≤ 60 →
    ∃ al, restF en k ts out = .ok (out ++ al) ∧ al.map erA = l.map (eA g)
  | [], _, k, ts, out, h, _, _ => by
    cases ts with
    | cons t ts => cases h
    | nil => exact ⟨[], by cases k <;> simp [restF], rfl⟩
  | r :: l, h8, k, ts, out, h, hk, ho => by
    rw [List.flatMap_cons] at h
    obtain ⟨a, ts', e1, e2, e3⟩ := defF_er (en := en) (out := out) h (by simp at ho; omega) (h8 r List.mem_cons_self)
    have hlen : ts'.length < ts.length := by
      have x1 := congrArg List.length h
      have x2 := congrArg List.length e3
      rw [List.length_map] at x1 x2
      rw [List.length_append, ← x2] at x1
      have : 0 < (eR g r).length := by unfold eR; simp
      omega
    cases ts with
    | nil => simp at hlen
    | cons t ts =>
      obtain ⟨k, rfl⟩ : ∃ j, k = j + 1 := ⟨k - 1, by simp at hk; omega⟩
      obtain ⟨al, f1, f2⟩ := restF_er (en := en) l (fun q hq => h8 q (List.mem_cons_of_mem _ hq)) k ts' (out ++ [a]) e3 (by simp at hk hlen; omega) (by simp at ho ⊢; omega)
      refine ⟨a :: al, ?_, by rw [List.map_cons, e2, f2]; rfl⟩
      rw [restF, e1]
      simp only []
      rw [f1, List.append_assoc]
      rfl
theorem readF_er {en : Int} {g : Gram} {l : List Rule} {ts : List Tok} (hne : l ≠ []) (h8 : ∀ r ∈ l, r.right.length ≤ 8) (h : ts.map er = l.flatMap (eR g)) (h60 : l.length ≤ 60) : ∃ al, readF en ts = .ok al ∧ al.map erA = l.map (eA g) := by
  cases l with
  | nil => exact absurd rfl hne
  | cons r l =>
    rw [List.flatMap_cons] at h
    obtain ⟨a, ts', e1, e2, e3⟩ := defF_er (en := en) (out := []) h (by simp) (h8 r List.mem_cons_self)
    obtain ⟨al, f1, f2⟩ := restF_er (en := en) l (fun q hq => h8 q (List.mem_cons_of_mem _ hq)) ts'.length ts' [a] e3 (Nat.le_refl _) (by simp at h60 ⊢; omega)
    refine ⟨a :: al, ?_, by rw [List.map_cons, e2, f2]; rfl⟩
    rw [readF, e1]
    simp only [List.nil_append]
    rw [f1]
    rfl

/-! ### numbering -/
theorem quotes_er {g : Gram} : ∀ (l : List Int) (rts : List Tok) (ts : List ByteArray), rts.map er = l.map (kdS g) → quotesF rts ts = (l.filter (termF g)).foldl (fun a x => addF a (nameD g x)) ts
  | [], rts, ts, h => by
    cases rts with
    | nil => rfl
    | cons t rts => cases h
  | x :: l, rts, ts, h => by
    cases rts with
    | nil => cases h
    | cons t rts =>
      injection h with h1 h2
      have hk : t.kind = (kdS g x).1 := congrArg Prod.fst h1
      have hx : t.text = nameD g x := congrArg Prod.snd h1
      rw [quotesF]
      cases ht : termF g x
      · rw [if_neg (by rw [hk, kdS, ht]; simp), quotes_er l rts ts h2, List.filter_cons_of_neg (by rw [ht]; decide)]
      · rw [if_pos (by rw [hk, kdS, ht]; rfl), quotes_er l rts _ h2, List.filter_cons_of_pos ht, List.foldl_cons, hx]
theorem gather_er {g : Gram} : ∀ (l : List Rule) (al : List Alt) (ts ns : List ByteArray), al.map erA = l.map (eA g) →
    gatherF al ts ns = ((termsF g l).foldl (fun a x => addF a (nameD g x)) ts, (leftsF l).foldl (fun a x => addF a (nameD g x)) ns)
  | [], al, ts, ns, h => by
    cases al with
    | nil => rfl
    | cons a al => cases h
  | r :: l, al, ts, ns, h => by
    cases al with
    | nil => cases h
    | cons a al =>
      injection h with h1 h2
      have hx : a.left.text = nameD g r.left := congrArg Prod.fst h1
      have hr : a.right.map er = r.right.map (kdS g) := congrArg Prod.snd h1
      rw [gatherF, gather_er l al _ _ h2, quotes_er r.right a.right ts hr, hx]
      unfold termsF leftsF
      rw [List.flatMap_cons, List.foldl_append, List.map_cons, List.foldl_cons]
theorem ris_fold {L : List ByteArray} (hn : L.Nodup) {t : Int} {nm : Int → ByteArray} (hnm : ∀ x, (h0 : t ≤ x) → (h : x < t + L.length) → nm x = L[(x - t).toNat]'(by omega)) : ∀ (l : List Int) (j : Nat), j ≤ L.length → (∀ x ∈ l, t ≤ x ∧ x < t + L.length) → risF (t + L.length) l (t + j) = true →
    l.foldl (fun a x => addF a (nm x)) (L.take j) = L
  | [], j, hj, _, h => by
    rw [risF, beq_iff_eq] at h
    have : j = L.length := by omega
    rw [this, List.take_length]
    rfl
  | x :: l, j, hj, hx, h => by
    obtain ⟨h0, h1⟩ := hx x List.mem_cons_self
    have hx' : ∀ y ∈ l, t ≤ y ∧ y < t + L.length := fun y hy => hx y (List.mem_cons_of_mem _ hy)
    rw [risF] at h
    split at h
    · cases h
    · rename_i hle
      rw [List.foldl_cons, hnm x h0 h1]
      have hk : (x - t).toNat < L.length := by omega
      by_cases he : x = t + j
      · have hjl : j < L.length := by omega
        have e1 : (x - t).toNat = j := by omega
        rw [if_pos he] at h
        have hnot : L[j] ∉ L.take j := fun hm => by
          obtain ⟨i, hi, e⟩ := List.mem_iff_getElem.1 hm
          rw [List.getElem_take] at e
          rw [List.length_take] at hi
          have := (List.getElem_inj hn).1 e
          omega
        have e2 : addF (L.take j) (L[(x - t).toNat]'hk) = L.take (j + 1) := by
          simp only [e1]
          unfold addF
          rw [if_neg (by rw [List.any_eq_true]; rintro ⟨y, hy, e⟩; rw [decide_eq_true_eq] at e; subst e; exact hnot hy), List.take_succ_eq_append_getElem hjl]
        rw [e2]
        exact ris_fold hn hnm l (j + 1) hjl hx' (by rw [show t + ((j + 1 : Nat) : Int) = t + j + 1 by omega]; exact h)
      · rw [if_neg he] at h
        have e2 : addF (L.take j) (L[(x - t).toNat]'hk) = L.take j := by
          unfold addF
          rw [if_pos]
          rw [List.any_eq_true]
          refine ⟨L[(x - t).toNat]'hk, List.mem_iff_getElem.2 ⟨(x - t).toNat, by rw [List.length_take]; omega, by rw [List.getElem_take]⟩, by simp⟩
        rw [e2]
        exact ris_fold hn hnm l j hj hx' h
theorem nameD_n {g : Gram} (x : Int) (h0 : (g.terms.length : Int) ≤ x) (h1 : x < (g.terms.length : Int) + g.names.length) : nameD g x = g.names[(x - g.terms.length).toNat]'(by omega) := by
  unfold nameD nameF
  rw [if_neg (by omega), if_neg (by omega), show x.toNat - g.terms.length = (x - g.terms.length).toNat by omega, List.getElem?_eq_getElem (by omega)]
  rfl
theorem nameD_t {g : Gram} (x : Int) (h0 : 0 ≤ x) (h1 : x < 0 + (g.terms.length : Int)) : nameD g x = g.terms[(x - 0).toNat]'(by omega) := by
  unfold nameD nameF
  rw [if_neg (by omega), if_pos (by omega)]
  simp only [Int.sub_zero]
  rw [List.getElem?_eq_getElem (by omega)]
  rfl
theorem right_er {g : Gram} (hn : g.names.Nodup) (ht : g.terms.Nodup) : ∀ (l : List Int) (rts : List Tok) (acc : List Int), (∀ x ∈ l, 0 ≤ x ∧ x < (g.terms.length : Int) + g.names.length) → rts.map er = l.map (kdS g) → rightF g.terms g.names rts acc = .ok (acc ++ l)
  | [], rts, acc, _, h => by
    cases rts with
    | nil => rw [rightF, List.append_nil]
    | cons t rts => cases h
  | x :: l, rts, acc, hx, h => by
    cases rts with
    | nil => cases h
    | cons t rts =>
      injection h with h1 h2
      obtain ⟨x0, x1⟩ := hx x List.mem_cons_self
      have hk : t.kind = (kdS g x).1 := congrArg Prod.fst h1
      have hxt : t.text = nameD g x := congrArg Prod.snd h1
      have hs : symF g.terms g.names t = .ok x := by
        unfold symF
        cases htm : termF g x
        · have hge : (g.terms.length : Int) ≤ x := by
            unfold termF at htm
            rw [decide_eq_false_iff_not] at htm
            omega
          have hid := idxF_self hn (x - g.terms.length).toNat (by omega)
          rw [if_neg (by rw [hk, kdS, htm]; simp), hxt, nameD_n x hge x1, hid, if_neg (by omega)]
          congr 1
          omega
        · have hlt : x < (g.terms.length : Int) := by
            unfold termF at htm
            rw [decide_eq_true_eq] at htm
            exact htm.2
          have hid := idxF_self ht (x - 0).toNat (by omega)
          rw [if_pos (by rw [hk, kdS, htm]; rfl), hxt, nameD_t x x0 (by omega), hid]
          congr 1
          omega
      rw [rightF, hs]
      simp only []
      rw [right_er hn ht l rts (acc ++ [x]) (fun y hy => hx y (List.mem_cons_of_mem _ hy)) h2, List.append_assoc]
      rfl
theorem rules_er {g : Gram} (hn : g.names.Nodup) (ht : g.terms.Nodup) : ∀ (l : List Rule) (al : List Alt) (acc : List Rule), (∀ r ∈ l, ((g.terms.length : Int) ≤ r.left ∧ r.left < (g.terms.length : Int) + g.names.length) ∧ ∀ x ∈ r.right, 0 ≤ x ∧ x < (g.terms.length : Int) + g.names.length) →
    al.map erA = l.map (eA g) → rulF g.terms.length (g.terms.length + g.names.length) acc l = true → rulesF g.terms g.names al acc = .ok (acc ++ l)
  | [], al, acc, _, h, _ => by
    cases al with
    | nil => rw [rulesF, List.append_nil]
    | cons a al => cases h
  | r :: l, al, acc, hr, h, hd => by
    cases al with
    | nil => cases h
    | cons a al =>
      injection h with h1 h2
      obtain ⟨⟨l0, l1⟩, hx⟩ := hr r List.mem_cons_self
      have hxl : a.left.text = nameD g r.left := congrArg Prod.fst h1
      have hxr : a.right.map er = r.right.map (kdS g) := congrArg Prod.snd h1
      have hid := idxF_self hn (r.left - g.terms.length).toNat (by omega)
      have hnum : numF g.terms g.names a = .ok r := by
        unfold numF
        rw [right_er hn ht r.right a.right [] hx hxr, hxl, nameD_n r.left l0 l1, hid]
        simp only [List.nil_append]
        obtain ⟨rl, rr⟩ := r
        congr 2
        dsimp only
        dsimp only at l0
        omega
      rw [rulF] at hd
      split at hd
      · cases hd
      · rename_i hno
        split at hd
        · cases hd
        · have hp : pushF acc r = acc ++ [r] := by
            unfold pushF
            rw [if_neg (fun hh => hno (Or.inr (Or.inr (Or.inr hh))))]
          rw [rulesF, hnum]
          simp only []
          rw [hp, rules_er hn ht l al (acc ++ [r]) (fun q hq => hr q (List.mem_cons_of_mem _ hq)) h2 hd, List.append_assoc]
          rfl
theorem gramm_er {g : Gram} (hg : goodF g = true) {al : List Alt} (h : al.map erA = g.rules.map (eA g)) : grammF al = .ok g := by
  obtain ⟨f1, f2, f3, f4⟩ := good_facts hg
  have hgl := fun r (hr : r ∈ g.rules) => good_left hg hr
  have hh := hg
  unfold goodF at hh
  simp only [Bool.and_eq_true] at hh
  obtain ⟨⟨⟨_, h3⟩, h4⟩, h5⟩ := hh
  unfold ruledF at h3
  simp only [Bool.and_eq_true] at h3
  have hga := gather_er g.rules al [] [] h
  have e1 : (leftsF g.rules).foldl (fun a x => addF a (nameD g x)) [] = g.names := by
    have := ris_fold (L := g.names) f3 (t := g.terms.length) (nm := nameD g) (fun x a b => nameD_n x a b) (leftsF g.rules) 0 (Nat.zero_le _) (fun x hx => by
      obtain ⟨r, hr, rfl⟩ := List.mem_map.1 hx
      exact (hgl r hr).1) (by simpa using h4)
    simpa using this
  have e2 : (termsF g g.rules).foldl (fun a x => addF a (nameD g x)) [] = g.terms := by
    have := ris_fold (L := g.terms) f4 (t := 0) (nm := nameD g) (fun x a b => nameD_t x a b) (termsF g g.rules) 0 (Nat.zero_le _) (fun x hx => by
      unfold termsF at hx
      obtain ⟨r, hr, hx⟩ := List.mem_flatMap.1 hx
      have := (List.mem_filter.1 hx).2
      unfold termF at this
      rw [decide_eq_true_eq] at this
      omega) (by simpa using h5)
    simpa using this
  rw [e1, e2] at hga
  unfold grammF
  rw [hga]
  simp only []
  rw [rules_er f3 f4 g.rules al [] (fun r hr => ⟨(hgl r hr).1, (hgl r hr).2.2⟩) h h3.2]
  simp only [List.nil_append]
  rw [if_neg (by omega)]
end Go.Proofs.Ytdpdbgaoaibafaa

/- A grammar's text is read as that grammar (plain): the whole. -/
set_option linter.unusedVariables false
set_option linter.unusedSimpArgs false
namespace Go.Proofs.Ytdpdbgaoaibafaa
open Go.RowKit Go.Proofs.YtdpdbgaoaibafaaW.PrintWords

theorem good_name {g : Gram} (h : goodF g = true) {x : Int} (h0 : (g.terms.length : Int) ≤ x) (h1 : x < (g.terms.length : Int) + g.names.length) : isNameF (bsl (nameD g x)) = true := by
  unfold goodF at h
  simp only [Bool.and_eq_true] at h
  obtain ⟨⟨⟨⟨h2, _⟩, _⟩, _⟩, _⟩ := h
  unfold namesOk at h2
  simp only [Bool.and_eq_true] at h2
  rw [nameD_n x h0 h1]
  exact distF_may h2.1.1 _ (List.getElem_mem _)
theorem good_term {g : Gram} (h : goodF g = true) {x : Int} (h0 : 0 ≤ x) (h1 : x < (g.terms.length : Int)) : isTermF (bsl (nameD g x)) = true := by
  unfold goodF at h
  simp only [Bool.and_eq_true] at h
  obtain ⟨⟨⟨⟨_, h2⟩, _⟩, _⟩, _⟩ := h
  unfold termsOk at h2
  simp only [Bool.and_eq_true] at h2
  rw [nameD_t x h0 (by omega)]
  exact distF_may h2.1.1 _ (List.getElem_mem _)
def pieceS (g : Gram) (x : Int) : Piece := ⟨bsl (symS g x), (kdS g x).1, (kdS g x).2, 32⟩
def piecesH (g : Gram) (r : Rule) : List Piece := ⟨bsl (nameD g r.left), 1, nameD g r.left, 32⟩ :: ⟨[61], 3, ⟨#[61]⟩, 32⟩ :: r.right.map (pieceS g)
def piecesR (g : Gram) (r : Rule) : List Piece := piecesH g r ++ [⟨[59], 5, ⟨#[59]⟩, 10⟩]
theorem pieceS_ok {g : Gram} (h : goodF g = true) {x : Int} (h0 : 0 ≤ x) (h1 : x < (g.terms.length : Int) + g.names.length) : (pieceS g x).ok := by
  refine ⟨?_, .inl rfl⟩
  show Tk (bsl (symS g x)) (kdS g x).1 (kdS g x).2
  unfold symS kdS
  cases ht : termF g x
  · have hge : (g.terms.length : Int) ≤ x := by
      unfold termF at ht
      rw [decide_eq_false_iff_not] at ht
      omega
    simp only [Bool.false_eq_true, if_false]
    exact .name (good_name h hge h1)
  · have hlt : x < (g.terms.length : Int) := by
      unfold termF at ht
      rw [decide_eq_true_eq] at ht
      exact ht.2
    simp only [if_true]
    rw [bsl_app, bsl_app]
    exact .term (good_term h h0 hlt)
theorem piecesH_ok {g : Gram} (h : goodF g = true) {r : Rule} (hr : r ∈ g.rules) : ∀ p ∈ piecesH g r, p.ok := by
  obtain ⟨hl, _, hx⟩ := good_left h hr
  intro p hp
  unfold piecesH at hp
  simp only [List.mem_cons] at hp
  rcases hp with rfl | rfl | hp
  · exact ⟨.name (good_name h hl.1 hl.2), .inl rfl⟩
  · exact ⟨.eq, .inl rfl⟩
  · obtain ⟨x, hxm, rfl⟩ := List.mem_map.1 hp
    exact pieceS_ok h (hx x hxm).1 (hx x hxm).2
theorem piecesR_ok {g : Gram} (h : goodF g = true) {r : Rule} (hr : r ∈ g.rules) : ∀ p ∈ piecesR g r, p.ok := by
  intro p hp
  rcases List.mem_append.1 hp with hp | hp
  · exact piecesH_ok h hr p hp
  · rw [List.mem_singleton.1 hp]
    exact ⟨.semi, .inr rfl⟩
theorem flatP_app (a b : List Piece) : flatP (a ++ b) = flatP a ++ flatP b := by unfold flatP; rw [List.flatMap_append]
theorem flatP_cons (p : Piece) (b : List Piece) : flatP (p :: b) = p.b ++ p.w :: flatP b := by unfold flatP; simp
theorem rowS_flat {g : Gram} (l : List Int) (acc : ByteArray) : bsl (rowS g acc l) ++ [32] = bsl acc ++ 32 :: flatP (l.map (pieceS g)) := by
  induction l generalizing acc with
  | nil => rfl
  | cons x l ih =>
    show bsl (rowS g (acc ++ (⟨#[32]⟩ ++ symS g x)) l) ++ [32] = _
    rw [ih, List.map_cons, flatP_cons, bsl_app, bsl_app]
    show bsl acc ++ (32 :: bsl (symS g x)) ++ 32 :: flatP (l.map (pieceS g)) = bsl acc ++ 32 :: (bsl (symS g x) ++ 32 :: flatP (l.map (pieceS g)))
    simp
theorem lineF_flat (g : Gram) (r : Rule) : bsl (lineF g r) ++ [32] = flatP (piecesH g r) := by
  unfold lineF
  rw [rowS_flat, bsl_app]
  unfold piecesH
  rw [flatP_cons, flatP_cons]
  show bsl (nameD g r.left) ++ [32, 61] ++ 32 :: flatP (r.right.map (pieceS g)) = bsl (nameD g r.left) ++ 32 :: ([61] ++ 32 :: flatP (r.right.map (pieceS g)))
  simp
theorem textS_flat {g : Gram} (l : List Rule) (acc : ByteArray) : bsl (textS g acc l) = bsl acc ++ flatP (l.flatMap (piecesR g)) := by
  induction l generalizing acc with
  | nil => simp [textS, flatP]
  | cons r l ih =>
    show bsl (textS g (acc ++ (lineF g r ++ ⟨#[32, 59, 10]⟩)) l) = _
    rw [ih, List.flatMap_cons, flatP_app, bsl_app, bsl_app]
    unfold piecesR
    rw [flatP_app, ← lineF_flat]
    show bsl acc ++ (bsl (lineF g r) ++ [32, 59, 10]) ++ _ = bsl acc ++ (bsl (lineF g r) ++ [32] ++ [59, 10] ++ _)
    simp
theorem piecesH_er (g : Gram) (r : Rule) : (piecesH g r).map (fun p => (p.k, p.s)) ++ [(5, ⟨#[59]⟩)] = eR g r := by
  unfold piecesH eR
  simp only [List.map_cons, List.map_map, List.cons_append]
  rfl
theorem piecesR_er (g : Gram) (r : Rule) : (piecesR g r).map (fun p => (p.k, p.s)) = eR g r := by
  unfold piecesR
  rw [List.map_append, ← piecesH_er]
  rfl
theorem pieces_len (l : List Piece) : l.length ≤ (flatP l).length := by
  induction l with
  | nil => exact Nat.zero_le _
  | cons p l ih => rw [flatP_cons, List.length_append, List.length_cons, List.length_cons]; omega
theorem tk_len {b : List UInt8} {k : Int} {s : ByteArray} (h : Tk b k s) : 0 < b.length := by
  cases h with
  | name hh =>
    unfold isNameF at hh
    simp only [Bool.and_eq_true] at hh
    cases hb : bsl s with
    | nil => rw [hb] at hh; simp at hh
    | cons c t => simp
  | term hh => simp
  | eq => simp
  | semi => simp
/-- The tokens of a text that is pieces, and perhaps a last sign. -/
theorem lexE_flat {s : ByteArray} {l : List Piece} {la : List UInt8} {e : List (Int × ByteArray)} (h : bsl s = flatP l ++ la) (hp : ∀ p ∈ l, p.ok) (hl : Last la e) (h2 : s.size ≤ 2000) (hne : 0 < la.length ∨ 0 < l.length) :
    ∃ ts, lexE s = .ok ts ∧ ts.map er = l.map (fun p => (p.k, p.s)) ++ e := by
  have hn := pieces_len l
  have hsk := skip_flat hp hl
  have hlen : (bsl s).length = (flatP l).length + la.length := by rw [h, List.length_append]
  have hlt : l.length + 1 < (bsl s).length + 1 := by
    rcases Nat.eq_zero_or_pos l.length with h0 | h0
    · rw [hlen]; omega
    · cases l with
      | nil => simp at h0
      | cons p l =>
        rw [flatP_cons] at hlen
        have h4 := pieces_len l
        have h5 : 0 < p.b.length := tk_len (hp p List.mem_cons_self).1
        rw [List.length_append, List.length_cons] at hlen
        rw [List.length_cons]
        omega
  obtain ⟨ts, e1, e2⟩ := toks_pieces hl l hp ((bsl s).length + 1) 0 [] hlt
  refine ⟨ts, ?_, e2⟩
  unfold lexE
  rw [if_neg (by omega), h, hsk, List.drop_zero, ← h, h] 
  rw [h] at e1
  rw [e1]
  rfl
theorem of_text {g : Gram} (hg : goodF g = true) (h2 : (textF g).size ≤ 2000) : ofF (textF g) = .ok g := by
  obtain ⟨q1, q2, q3, q4⟩ := goodF_small hg
  have hne : g.rules ≠ [] := by
    intro h
    unfold goodF ruledF at hg
    rw [h] at hg
    simp at hg
  have hb : bsl (textF g) = flatP (g.rules.flatMap (piecesR g)) ++ [] := by
    unfold textF
    rw [textS_flat]
    simp [bsl]
  obtain ⟨ts, e1, e2⟩ := lexE_flat hb (fun p hp => by obtain ⟨r, hr, hp⟩ := List.mem_flatMap.1 hp; exact piecesR_ok hg hr p hp) (e := []) (.inl ⟨rfl, rfl⟩) h2 (.inr (by
    cases hh : g.rules with
    | nil => exact absurd hh hne
    | cons r l => rw [List.flatMap_cons, List.length_append]; unfold piecesR piecesH; simp; omega))
  have e3 : ts.map er = g.rules.flatMap (eR g) := by
    rw [e2, List.append_nil, List.map_flatMap]
    congr 1
    funext r
    exact piecesR_er g r
  obtain ⟨al, f1, f2⟩ := readF_er (en := (textF g).size) hne (fun r hr => (good_left hg hr).2.1) e3 q4
  unfold ofF
  rw [e1]
  simp only []
  rw [f1]
  exact gramm_er hg f2
end Go.Proofs.Ytdpdbgaoaibafaa
