/- The contract of the text's token: what it is, or that it is thrown. -/
import Derived.Test.YtphmmppmhphgeaaA2
import Derived.WalkLawsBesides
import Derived.WalkSpells
set_option linter.unusedVariables false
set_option linter.unusedSimpArgs false
namespace Go.Proofs.Ytphmmppmhphgeaa
open Go.RowKit Go.Proofs.YtphmmppmhphgeaaW.PrintWords

def tokenF (l : List UInt8) (at_ : Int) : Option (Tok × Nat) :=
  match l with
  | [] => none
  | c :: r =>
    if letterB c.toNat = true then
      if isNameF (l.take (runF l innerB)) = true then some (⟨1, ofL (l.take (runF l innerB)), at_⟩, runF l innerB) else none
    else if c.toNat = 39 then
      if isTermF (r.take (runF r insideB)) = true ∧ (r[runF r insideB]?).map UInt8.toNat = some 39 then some (⟨2, ofL (r.take (runF r insideB)), at_⟩, runF r insideB + 2) else none
    else if signF c.toNat = 0 then none else some (⟨signF c.toNat, ofL [c], at_⟩, 1)

def TokenEnd (r : Option (Tok × Nat)) (at_ : Int) (e : Ending) : Prop :=
  match r with
  | some (t, n) => e = .returned (.tuple #[.agg #[.int .i64 t.kind, .string t.text, .int .i64 t.pos], .int .i64 n])
  | none => e = .panicked [{ v := .iface 89 (.agg #[.int .i64 at_]), recovered := false }]

theorem tokenF_cons (c : UInt8) (r : List UInt8) (at_ : Int) : tokenF (c :: r) at_ =
    if letterB c.toNat = true then
      if isNameF ((c :: r).take (runF (c :: r) innerB)) = true then some (⟨1, ofL ((c :: r).take (runF (c :: r) innerB)), at_⟩, runF (c :: r) innerB) else none
    else if c.toNat = 39 then
      if isTermF (r.take (runF r insideB)) = true ∧ (r[runF r insideB]?).map UInt8.toNat = some 39 then some (⟨2, ofL (r.take (runF r insideB)), at_⟩, runF r insideB + 2) else none
    else if signF c.toNat = 0 then none else some (⟨signF c.toNat, ofL [c], at_⟩, 1) := rfl
theorem extract_take (s : ByteArray) (n : Nat) : s.extract 0 n = ofL ((bsl s).take n) := ba_ext (by rw [bsl_extract, bsl_ofL, List.drop_zero])
theorem extract_mid (s : ByteArray) (m n : Nat) : s.extract m (n + m) = ofL (((bsl s).drop m).take n) := ba_ext (by rw [bsl_extract, bsl_ofL, List.drop_take, Nat.add_sub_cancel])
theorem bsl_cons (s : ByteArray) (h0 : 0 < s.size) : bsl s = (s[0]'h0) :: (bsl s).drop 1 := by
  have hl := size_data s
  have h : bsl s = (bsl s)[0]'(by omega) :: (bsl s).drop 1 := by simpa using List.drop_eq_getElem_cons (l := bsl s) (i := 0) (by omega)
  exact h
theorem token_ret {r : Option (Tok × Nat)} {at_ : Int} {k p n : Int} {x : ByteArray} {t : Tok} {m : Nat} (h : r = some (t, m)) (hk : k = t.kind) (hx : x = t.text) (hp : p = t.pos) (hn : n = m) :
    TokenEnd r at_ (.returned (.tuple #[.agg #[.int .i64 k, .string x, .int .i64 p], .int .i64 n])) := by
  subst h hk hx hp hn
  rfl
theorem token_panic {r : Option (Tok × Nat)} {at_ : Int} (h : r = none) : TokenEnd r at_ (.panicked [{ v := .iface 89 (.agg #[.int .i64 at_]), recovered := false }]) := by
  subst h
  rfl

set_option maxRecDepth 100000 in
set_option maxHeartbeats 4000000 in
theorem token_letter (s : ByteArray) (at_ : Int) (w : World) (hs : s.size ≤ maxLen) (h0 : 0 < s.size) (hA : letterB (s[0]'h0).toNat = true) : Calls Try.prog 64 #[.string s, .int .i64 at_] w fun e w' => TokenEnd (tokenF (bsl s) at_) at_ e ∧ Below w.heap.size w w' := by
  have hl := size_data s
  have hn := runF_le (bsl s) innerB
  have HT : Hid (tokenF (bsl s) at_ = if isNameF ((bsl s).take (runF (bsl s) innerB)) = true then some (⟨1, ofL ((bsl s).take (runF (bsl s) innerB)), at_⟩, runF (bsl s) innerB) else none) := Lib.hid (by
    have h := tokenF_cons (s[0]'h0) ((bsl s).drop 1) at_
    rw [if_pos hA, ← bsl_cons s h0] at h
    exact h)
  have hk : runF (bsl s) innerB ≤ s.size := by omega
  have HX := Lib.hid (extract_take s (runF (bsl s) innerB))
  clear hl
  cases hB : isNameF ((bsl s).take (runF (bsl s) innerB))
  · go_enter Try.func64, Try.ntmps64
    go_wp2_with (first | (go_at_call 83; refine (letter_c _ _).mono ?_; rintro e w' ⟨rfl, rfl⟩) | (go_at_call 84; refine (run_c _ _ _ _ hs pred_inner).mono ?_; rintro e w' ⟨rfl, rfl⟩) | (go_at_call 56; rw [HX.out]; refine (isName_c _ _).mono ?_; rw [bsl_ofL, hB]; rintro e w' ⟨rfl, rfl⟩))
    exact ⟨rfl, token_panic (by rw [HT.out, hB]; rfl), (Below.refl _ _).alloc (Nat.le_refl _) _⟩
  · go_enter Try.func64, Try.ntmps64
    go_wp2_with (first | (go_at_call 83; refine (letter_c _ _).mono ?_; rintro e w' ⟨rfl, rfl⟩) | (go_at_call 84; refine (run_c _ _ _ _ hs pred_inner).mono ?_; rintro e w' ⟨rfl, rfl⟩) | (go_at_call 56; rw [HX.out]; refine (isName_c _ _).mono ?_; rw [bsl_ofL, hB]; rintro e w' ⟨rfl, rfl⟩))
    refine bodyPost_ret (v := .tuple #[.agg #[.int .i64 1, .string (s.extract 0 (runF (bsl s) innerB)), .int .i64 at_], .int .i64 (runF (bsl s) innerB)]) (by simp [results, Try.results64, go_sem]) rfl ⟨token_ret (by rw [HT.out, hB]; rfl) rfl HX.out rfl rfl, ?_⟩
    exact ((Below.refl _ _).alloc (Nat.le_refl _) _)

set_option maxRecDepth 100000 in
set_option maxHeartbeats 4000000 in
theorem token_quote (s : ByteArray) (at_ : Int) (w : World) (hs : s.size ≤ maxLen) (h0 : 0 < s.size) (hA : letterB (s[0]'h0).toNat = false) (hQ : (s[0]'h0).toNat = 39) : Calls Try.prog 64 #[.string s, .int .i64 at_] w fun e w' => TokenEnd (tokenF (bsl s) at_) at_ e ∧ Below w.heap.size w w' := by
  have hl := size_data s
  have hn := runF_le ((bsl s).drop 1) insideB
  rw [List.length_drop, hl] at hn
  have hn1 : runF ((bsl s).drop 1) insideB + 1 ≤ s.size := by omega
  clear hn
  have HT : Hid (tokenF (bsl s) at_ = if isTermF (((bsl s).drop 1).take (runF ((bsl s).drop 1) insideB)) = true ∧ (((bsl s).drop 1)[runF ((bsl s).drop 1) insideB]?).map UInt8.toNat = some 39 then some (⟨2, ofL (((bsl s).drop 1).take (runF ((bsl s).drop 1) insideB)), at_⟩, runF ((bsl s).drop 1) insideB + 2) else none) := Lib.hid (by
    have h := tokenF_cons (s[0]'h0) ((bsl s).drop 1) at_
    rw [if_neg (by rw [hA]; simp), if_pos hQ, ← bsl_cons s h0] at h
    exact h)
  have HR := Lib.hid (bsl_drop s 1)
  have hrs := extract_to_size s 1 h0
  have hrm : (s.extract 1 s.size).size ≤ maxLen := by unfold maxLen at hs ⊢; omega
  clear hrs
  have HX := Lib.hid (extract_mid s 1 (runF ((bsl s).drop 1) insideB))
  have HG0 : ∀ (h : runF ((bsl s).drop 1) insideB + 1 < s.size), ((bsl s).drop 1)[runF ((bsl s).drop 1) insideB]? = some (s[runF ((bsl s).drop 1) insideB + 1]'h) := fun h => by
    rw [List.getElem?_drop, Nat.add_comm, List.getElem?_eq_getElem (by omega)]
    rfl
  have HG := Aside0.mk HG0
  clear HG0
  have HN0 : runF ((bsl s).drop 1) insideB + 1 = s.size → ((bsl s).drop 1)[runF ((bsl s).drop 1) insideB]? = none := fun h => by
    rw [List.getElem?_drop, List.getElem?_eq_none (by omega)]
  have HN := Aside0.mk HN0
  clear HN0
  have HQ := Lib.hid hQ
  have hQb : (((s[0]'h0).toNat : Int) == 39) = true := by rw [hQ]; rfl
  clear hQ hl
  obtain ⟨n, en⟩ : ∃ n, n = runF ((bsl s).drop 1) insideB := ⟨_, rfl⟩
  rw [← en] at hn1 HT HX HG HN
  have HE := Lib.hid en
  clear en
  have hm : s.size ≤ 9223372036854775807 := by unfold maxLen at hs; omega
  cases hB : isTermF (((bsl s).drop 1).take n)
  · go_enter Try.func64, Try.ntmps64
    go_wp2_with (first | (go_at_call 83; refine (letter_c _ _).mono ?_; rintro e w' ⟨rfl, rfl⟩) | (go_at_call 84; refine (run_c _ _ _ _ hrm pred_inside).mono ?_; rw [HR.out, ← HE.out]; rintro e w' ⟨rfl, rfl⟩) | (go_at_call 57; rw [HX.out]; refine (isTerm_c _ _).mono ?_; rw [bsl_ofL, hB]; rintro e w' ⟨rfl, rfl⟩))
    exact ⟨rfl, token_panic (by rw [HT.out, if_neg (by rw [hB]; simp)]), (Below.refl _ _).alloc (Nat.le_refl _) _⟩
  · by_cases hC : n + 1 = s.size
    · have hCb : ((n : Int) + 1 == (s.size : Int)) = true := by rw [beq_iff_eq]; omega
      have HC := Lib.hid hC
      clear hC
      go_enter Try.func64, Try.ntmps64
      go_wp2_with (first | (go_at_call 83; refine (letter_c _ _).mono ?_; rintro e w' ⟨rfl, rfl⟩) | (go_at_call 84; refine (run_c _ _ _ _ hrm pred_inside).mono ?_; rw [HR.out, ← HE.out]; rintro e w' ⟨rfl, rfl⟩) | (go_at_call 57; rw [HX.out]; refine (isTerm_c _ _).mono ?_; rw [bsl_ofL, hB]; rintro e w' ⟨rfl, rfl⟩))
      exact ⟨rfl, token_panic (by rw [HT.out, HN.out HC.out, if_neg (by simp)]), (Below.refl _ _).alloc (Nat.le_refl _) _⟩
    · have hlt : n + 1 < s.size := by omega
      have hCb : ((n : Int) + 1 == (s.size : Int)) = false := by rw [beq_eq_false_iff_ne]; omega
      clear hC
      by_cases hD : (s[n + 1]'hlt).toNat = 39
      · have hDb : (((s[n + 1]'hlt).toNat : Int) != 39) = false := by rw [hD]; rfl
        have HD := Lib.hid hD
        clear hD
        go_enter Try.func64, Try.ntmps64
        go_wp2_with (first | (go_at_call 83; refine (letter_c _ _).mono ?_; rintro e w' ⟨rfl, rfl⟩) | (go_at_call 84; refine (run_c _ _ _ _ hrm pred_inside).mono ?_; rw [HR.out, ← HE.out]; rintro e w' ⟨rfl, rfl⟩) | (go_at_call 57; rw [HX.out]; refine (isTerm_c _ _).mono ?_; rw [bsl_ofL, hB]; rintro e w' ⟨rfl, rfl⟩))
        refine bodyPost_ret (v := .tuple #[.agg #[.int .i64 2, .string (s.extract 1 (n + 1)), .int .i64 at_], .int .i64 (n + 2)]) (by simp [results, Try.results64, go_sem]) rfl ⟨token_ret (by rw [HT.out, if_pos ⟨hB, by rw [HG.out hlt, Option.map_some, HD.out]⟩]) rfl HX.out rfl rfl, ?_⟩
        exact ((Below.refl _ _).alloc (Nat.le_refl _) _)
      · have hDb : (((s[n + 1]'hlt).toNat : Int) != 39) = true := by rw [bne_iff_ne]; omega
        have HD := Aside0.mk hD
        clear hD
        go_enter Try.func64, Try.ntmps64
        go_wp2_with (first | (go_at_call 83; refine (letter_c _ _).mono ?_; rintro e w' ⟨rfl, rfl⟩) | (go_at_call 84; refine (run_c _ _ _ _ hrm pred_inside).mono ?_; rw [HR.out, ← HE.out]; rintro e w' ⟨rfl, rfl⟩) | (go_at_call 57; rw [HX.out]; refine (isTerm_c _ _).mono ?_; rw [bsl_ofL, hB]; rintro e w' ⟨rfl, rfl⟩))
        exact ⟨rfl, token_panic (by rw [HT.out, if_neg (by rintro ⟨_, h⟩; rw [HG.out hlt, Option.map_some] at h; exact HD.out (Option.some.inj h))]), (Below.refl _ _).alloc (Nat.le_refl _) _⟩

set_option maxRecDepth 100000 in
set_option maxHeartbeats 4000000 in
theorem token_sign (s : ByteArray) (at_ : Int) (w : World) (hs : s.size ≤ maxLen) (h0 : 0 < s.size) (hA : letterB (s[0]'h0).toNat = false) (hQ : ¬ (s[0]'h0).toNat = 39) : Calls Try.prog 64 #[.string s, .int .i64 at_] w fun e w' => TokenEnd (tokenF (bsl s) at_) at_ e ∧ Below w.heap.size w w' := by
  have hl := size_data s
  have HT : Hid (tokenF (bsl s) at_ = if signF (s[0]'h0).toNat = 0 then none else some (⟨signF (s[0]'h0).toNat, ofL [s[0]'h0], at_⟩, 1)) := Lib.hid (by
    have h := tokenF_cons (s[0]'h0) ((bsl s).drop 1) at_
    rw [if_neg (by rw [hA]; simp), if_neg hQ, ← bsl_cons s h0] at h
    exact h)
  have hQb : (((s[0]'h0).toNat : Int) == 39) = false := by rw [beq_eq_false_iff_ne]; omega
  have HX : Hid (s.extract 0 1 = ofL [s[0]'h0]) := Lib.hid (by rw [extract_take, bsl_cons s h0]; rfl)
  clear hQ hl
  cases hB : (signF (s[0]'h0).toNat != 0)
  · go_enter Try.func64, Try.ntmps64
    go_wp2_with (first | (go_at_call 83; refine (letter_c _ _).mono ?_; rintro e w' ⟨rfl, rfl⟩) | (go_at_call 90; refine (signs_c _ _).mono ?_; rintro e w' ⟨rfl, rfl⟩))
    exact ⟨rfl, token_panic (by rw [HT.out, if_pos (by simpa using hB)]), (Below.refl _ _).alloc (Nat.le_refl _) _⟩
  · go_enter Try.func64, Try.ntmps64
    go_wp2_with (first | (go_at_call 83; refine (letter_c _ _).mono ?_; rintro e w' ⟨rfl, rfl⟩) | (go_at_call 90; refine (signs_c _ _).mono ?_; rintro e w' ⟨rfl, rfl⟩))
    go_region_with (go_at_call 90; refine (signs_c _ _).mono ?_; rintro e w' ⟨rfl, rfl⟩)
    all_goals
      go_wp2
      refine bodyPost_ret (v := .tuple #[.agg #[.int .i64 (signF (s[0]'h0).toNat), .string (s.extract 0 1), .int .i64 at_], .int .i64 1]) (by simp [results, Try.results64, go_sem]) rfl ⟨token_ret (by rw [HT.out, if_neg (by simpa using hB)]) rfl HX.out rfl rfl, ?_⟩
      exact ((Below.refl _ _).alloc (Nat.le_refl _) _).drew
theorem token_c (s : ByteArray) (at_ : Int) (w : World) (hs : s.size ≤ maxLen) (h0 : 0 < s.size) : Calls Try.prog 64 #[.string s, .int .i64 at_] w fun e w' => TokenEnd (tokenF (bsl s) at_) at_ e ∧ Below w.heap.size w w' := by
  cases hA : letterB (s[0]'h0).toNat
  · by_cases hQ : (s[0]'h0).toNat = 39
    · exact token_quote s at_ w hs h0 hA hQ
    · exact token_sign s at_ w hs h0 hA hQ
  · exact token_letter s at_ w hs h0 hA
end Go.Proofs.Ytphmmppmhphgeaa
