/- The contracts of lexing: names, quotes, blanks. -/
import Derived.Test.YtphmmppmhphgeaaA1
import Derived.Lib.Hide
set_option linter.unusedVariables false
set_option linter.unusedSimpArgs false
namespace Go.Proofs.Ytphmmppmhphgeaa
open Go.RowKit Go.Proofs.YtphmmppmhphgeaaW.PrintWords

theorem nat_beq (a b : Nat) : ((a : Int) == (b : Int)) = (a == b) := by
  rw [Bool.eq_iff_iff, beq_iff_eq, beq_iff_eq]
  omega
theorem runF_beq (l : List UInt8) (p : Int → Bool) {n : Nat} (h : l.length = n) : ((runF l p : Int) == (n : Int)) = l.all fun c => p c.toNat := by
  rw [nat_beq, ← h, Bool.eq_iff_iff, beq_iff_eq]
  exact runF_all l p

set_option maxRecDepth 100000 in
set_option maxHeartbeats 1000000 in
theorem isName_c (s : ByteArray) (w : World) : Calls Try.prog 56 #[.string s] w fun e w' => e = .returned (.bool (isNameF (bsl s))) ∧ w = w' := by
  have hl := size_data s
  by_cases h1 : 1 ≤ s.size
  · by_cases h2 : s.size ≤ 16
    · have h0 : 0 < s.size := h1
      have hs : s.size ≤ maxLen := by unfold maxLen; omega
      have hc : bsl s = s[0] :: (bsl s).tail := by
        have h : bsl s = (bsl s)[0]'(by omega) :: (bsl s).tail := by simpa using List.drop_eq_getElem_cons (l := bsl s) (i := 0) (by omega)
        exact h
      have HE : Aside0 (isNameF (bsl s) = (letterB s[0].toNat && (bsl s).all fun c => innerB c.toNat)) := ⟨by
        unfold isNameF
        rw [decide_eq_true (by omega : (bsl s).length ≤ 16), Bool.true_and]
        congr 1
        rw [hc]⟩
      clear hc
      by_cases h3 : letterB s[0].toNat = true
      · go_enter Try.func56, Try.ntmps56
        go_wp2_with (first | (go_at_call 83; refine (letter_c _ _).mono ?_; rintro e w' ⟨rfl, rfl⟩) | (go_at_call 84; refine (run_c _ _ _ _ hs pred_inner).mono ?_; rintro e w' ⟨rfl, rfl⟩))
        go_ret
        exact ⟨ret_bool (by rw [HE.out, h3, Bool.true_and]; exact runF_beq _ _ hl), rfl⟩
      · go_enter Try.func56, Try.ntmps56
        go_wp2_with (first | (go_at_call 83; refine (letter_c _ _).mono ?_; rintro e w' ⟨rfl, rfl⟩) | (go_at_call 84; refine (run_c _ _ _ _ hs pred_inner).mono ?_; rintro e w' ⟨rfl, rfl⟩))
        go_ret
        exact ⟨ret_bool (by rw [HE.out, Bool.eq_false_iff.2 h3, Bool.false_and]), rfl⟩
    · go_enter Try.func56, Try.ntmps56
      go_wp2
      go_ret
      exact ⟨ret_bool (by unfold isNameF; rw [decide_eq_false (by omega)]; rfl), rfl⟩
  · go_enter Try.func56, Try.ntmps56
    go_wp2
    go_ret
    exact ⟨ret_bool (by
      have : bsl s = [] := List.eq_nil_of_length_eq_zero (by omega)
      rw [this]; rfl), rfl⟩

set_option maxRecDepth 100000 in
set_option maxHeartbeats 1000000 in
theorem isTerm_c (s : ByteArray) (w : World) : Calls Try.prog 57 #[.string s] w fun e w' => e = .returned (.bool (isTermF (bsl s))) ∧ w = w' := by
  have hl := size_data s
  by_cases h1 : 1 ≤ s.size
  · by_cases h2 : s.size ≤ 16
    · have hs : s.size ≤ maxLen := by unfold maxLen; omega
      go_enter Try.func57, Try.ntmps57
      go_wp2_with (go_at_call 84; refine (run_c _ _ _ _ hs pred_inside).mono ?_; rintro e w' ⟨rfl, rfl⟩)
      go_ret
      exact ⟨ret_bool (by unfold isTermF; rw [decide_eq_true (by omega), decide_eq_true (by omega)]; exact runF_beq _ _ hl), rfl⟩
    · go_enter Try.func57, Try.ntmps57
      go_wp2
      go_ret
      exact ⟨ret_bool (by unfold isTermF; rw [decide_eq_false (by omega : ¬ (bsl s).length ≤ 16)]; simp), rfl⟩
  · go_enter Try.func57, Try.ntmps57
    go_wp2
    go_ret
    exact ⟨ret_bool (by unfold isTermF; rw [decide_eq_false (by omega : ¬ 1 ≤ (bsl s).length)]; rfl), rfl⟩

/-- How many bytes stand between tokens; 'true': within a remark. -/
def skipF : Bool → List UInt8 → Nat
  | _, [] => 0
  | true, c :: r => if c.toNat = 10 then 1 + skipF false r else 1 + skipF true r
  | false, c :: r => if c.toNat = 32 ∨ c.toNat = 9 ∨ c.toNat = 10 then 1 + skipF false r else if c.toNat = 35 then 1 + skipF true r else 0
theorem skipF_le (b : Bool) (l : List UInt8) : skipF b l ≤ l.length := by
  induction l generalizing b with
  | nil => cases b <;> simp [skipF]
  | cons a l ih =>
    have h1 := ih true
    have h2 := ih false
    cases b <;> simp only [skipF, List.length_cons] <;> split <;> (try split) <;> omega
theorem skipF_note (l : List UInt8) : skipF true l = runF l noteB + skipF false (l.drop (runF l noteB)) := by
  induction l with
  | nil => simp [skipF, runF]
  | cons a l ih =>
    by_cases h : a.toNat = 10
    · have : runF (a :: l) noteB = 0 := by simp [runF, noteB, h]
      rw [this]
      simp [skipF, h]
    · have : runF (a :: l) noteB = runF l noteB + 1 := by
        unfold runF
        rw [List.takeWhile_cons, if_pos (by simp [noteB]; omega), List.length_cons]
      rw [this]
      simp only [skipF, if_neg h, List.drop_succ_cons]
      omega

theorem skip_step {l : List UInt8} {k : Nat} (hk : k < l.length) (HI : skipF false l = k + skipF false (l.drop k)) (h : l[k].toNat = 32 ∨ l[k].toNat = 9 ∨ l[k].toNat = 10) : skipF false l = (k + 1) + skipF false (l.drop (k + 1)) := by
  rw [HI, List.drop_eq_getElem_cons hk]
  simp only [skipF, if_pos h]
  omega
theorem skip_note {l : List UInt8} {k : Nat} (hk : k < l.length) (HI : skipF false l = k + skipF false (l.drop k)) (h1 : ¬ (l[k].toNat = 32 ∨ l[k].toNat = 9 ∨ l[k].toNat = 10)) (h : l[k].toNat = 35) :
    skipF false l = (k + runF (l.drop k) noteB) + skipF false (l.drop (k + runF (l.drop k) noteB)) ∧ 0 < runF (l.drop k) noteB := by
  have h2 := skipF_note (l.drop k)
  have h3 : skipF false (l.drop k) = skipF true (l.drop k) := by
    rw [List.drop_eq_getElem_cons hk]
    simp only [skipF, if_neg h1, if_pos h, if_neg (show ¬ l[k].toNat = 10 by omega)]
  have h4 : runF (l.drop k) noteB = runF (l.drop (k + 1)) noteB + 1 := by
    rw [List.drop_eq_getElem_cons hk]
    unfold runF
    rw [List.takeWhile_cons, if_pos (by simp [noteB]; omega), List.length_cons]
  rw [List.drop_drop] at h2
  omega
theorem skip_stop {l : List UInt8} {k : Nat} (hk : k < l.length) (HI : skipF false l = k + skipF false (l.drop k)) (h1 : ¬ (l[k].toNat = 32 ∨ l[k].toNat = 9 ∨ l[k].toNat = 10)) (h : ¬ l[k].toNat = 35) : skipF false l = k := by
  rw [HI, List.drop_eq_getElem_cons hk]
  simp only [skipF, if_neg h1, if_neg h]
  rfl
theorem beq_nat {a b : Nat} {c : Bool} (h : ((a : Int) == (b : Int)) = c) : decide (a = b) = c := by
  rw [nat_beq] at h
  rw [← h, Bool.eq_iff_iff, decide_eq_true_eq, beq_iff_eq]
theorem extract_to_size (s : ByteArray) (k : Nat) (hk : k ≤ s.size) : (s.extract k s.size).size = s.size - k := by
  rw [← size_data, bsl_extract, List.length_drop, List.length_take, size_data]; omega
theorem bsl_drop (s : ByteArray) (k : Nat) : bsl (s.extract k s.size) = (bsl s).drop k := by
  rw [bsl_extract, List.take_of_length_le (by rw [size_data]; exact Nat.le_refl _)]

set_option maxRecDepth 100000 in
set_option maxHeartbeats 1000000 in
theorem skipped_c (s : ByteArray) (w : World) (hs : s.size ≤ maxLen) : Calls Try.prog 63 #[.string s] w fun e w' => e = .returned (.int .i64 (skipF false (bsl s))) ∧ w = w' := by
  have hl := size_data s
  unfold maxLen at hs
  go_enter Try.func63, Try.ntmps63
  go_wp2
  go_loop [3] (fun i => ∃ k : Nat, k ≤ s.size ∧ i = .int .i64 k ∧ Aside0 (skipF false (bsl s) = k + skipF false ((bsl s).drop k))) (fun i => s.size - (intOf i).toNat)
  case atStart => exact ⟨0, Nat.zero_le _, rfl, ⟨by simp⟩⟩
  case round =>
    obtain ⟨k, hk, rfl, HI⟩ := hrel
    by_cases hlt : k < s.size
    · have hll : k < (bsl s).length := by omega
      have hgk : (bsl s)[k] = s[k]'hlt := rfl
      have HG := Lib.hid hgk
      clear hgk
      have hr : runF ((bsl s).drop k) noteB ≤ s.size - k := by have := runF_le ((bsl s).drop k) noteB; rw [List.length_drop] at this; omega
      have HBD := Lib.hid (bsl_drop s k)
      have hxs := extract_to_size s k hk
      by_cases h1 : (s[k]'hlt).toNat = 32 ∨ (s[k]'hlt).toNat = 9 ∨ (s[k]'hlt).toNat = 10
      · have HS := Aside0.mk (skip_step hll HI.out (by rw [HG.out]; exact h1))
        rcases h1 with h1 | h1 | h1
        all_goals
          go_wp2
          go_round
          case rel => exact ⟨k + 1, by omega, by go_num, HS⟩
          case measure => simp [intOf]; omega
      · by_cases h2 : (s[k]'hlt).toNat = 35
        · have HS := Aside0.mk (skip_note hll HI.out (by rw [HG.out]; exact h1) (by rw [HG.out]; exact h2))
          have hm : (s.extract k s.size).size ≤ maxLen := by unfold maxLen; omega
          clear hxs
          go_wp2_with (first | (go_at_call 84; refine (run_c _ _ _ _ hm pred_note).mono ?_; rw [HBD.out]; rintro e w' ⟨rfl, rfl⟩))
          go_round
          case rel => exact ⟨k + runF ((bsl s).drop k) noteB, by omega, by go_num, ⟨HS.out.1⟩⟩
          case measure => have := HS.out.2; simp [intOf]; omega
        · have HS := Aside0.mk (skip_stop hll HI.out (by rw [HG.out]; exact h1) (by rw [HG.out]; exact h2))
          have h3 : ¬ (s[k]'hlt).toNat = 32 := fun h => h1 (.inl h)
          have h4 : ¬ (s[k]'hlt).toNat = 9 := fun h => h1 (.inr (.inl h))
          have h5 : ¬ (s[k]'hlt).toNat = 10 := fun h => h1 (.inr (.inr h))
          clear h1
          go_wp2
          go_ret
          exact ⟨ret_int (by rw [HS.out]), rfl⟩
    · go_wp2
      go_ret
      exact ⟨ret_int (by rw [HI.out, List.drop_eq_nil_of_le (by omega)]; simp [skipF]), rfl⟩
end Go.Proofs.Ytphmmppmhphgeaa
