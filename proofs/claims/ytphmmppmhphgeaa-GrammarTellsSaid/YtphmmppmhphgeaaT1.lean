/- The contracts of the document's answers on names and terminals. -/
import Derived.Test.YtphmmppmhphgeaaA2
set_option linter.unusedVariables false
set_option linter.unusedSimpArgs false
namespace Go.Proofs.Ytphmmppmhphgeaa
open Go.RowKit Go.Proofs.YtphmmppmhphgeaaW.PrintWords

/-- So many truth values, told as a number. -/
def lb (n k : Nat) : Array Bool := ((List.range n).map fun i => Nat.testBit k i).toArray

theorem letter1_c (c : Int) (w : World) : Calls Try.prog 80 #[.int .u8 c] w fun e w' => e = .returned (.bool (letterB c)) ∧ w = w' := by
  by_cases h1 : 97 ≤ c <;> by_cases h2 : c ≤ 122 <;> by_cases h3 : 65 ≤ c <;> by_cases h4 : c ≤ 90 <;> try omega
  all_goals
    go_enter Try.func80, Try.ntmps80
    go_wp2
    go_ret
    exact ⟨ret_bool (by simp [letterB, *] <;> omega), rfl⟩
theorem more1_c (c : Int) (w : World) : Calls Try.prog 81 #[.int .u8 c] w fun e w' => e = .returned (.bool (innerB c)) ∧ w = w' := by
  by_cases h0 : letterB c = true <;> by_cases h3 : 48 ≤ c <;> by_cases h4 : c ≤ 57 <;> try omega
  all_goals
    go_enter Try.func81, Try.ntmps81
    go_wp2_with (go_at_call 80; refine (letter1_c _ _).mono ?_; rintro e w' ⟨rfl, rfl⟩)
    go_ret
    exact ⟨ret_bool (by simp [innerB, *] <;> try omega), rfl⟩
theorem all_of {s : ByteArray} {p : Int → Bool} (h : ∀ j (hj : j < (bsl s).length), p (bsl s)[j].toNat = true) : ((bsl s).all fun c => p c.toNat) = true := by
  rw [List.all_eq_true]
  intro x hx
  obtain ⟨j, hj, rfl⟩ := List.mem_iff_getElem.1 hx
  exact h j hj
theorem all_no {s : ByteArray} {p : Int → Bool} {k : Nat} (hk : k < (bsl s).length) (h : p (bsl s)[k].toNat = false) : ((bsl s).all fun c => p c.toNat) = false := by
  rw [List.all_eq_false]
  exact ⟨_, List.getElem_mem hk, by rw [h]; decide⟩
set_option maxRecDepth 100000 in
set_option maxHeartbeats 2000000 in
theorem isName1_c (s : ByteArray) (w : World) (hs : s.size ≤ maxLen) : Calls Try.prog 60 #[.string s] w fun e w' => e = .returned (.bool (isNameF (bsl s))) ∧ w = w' := by
  unfold maxLen at hs
  have hl := size_data s
  go_enter Try.func60, Try.ntmps60
  go_wp2
  go_loop [3] (fun i => ∃ k : Nat, k ≤ s.size ∧ i = .int .i64 k ∧ Aside0 (∀ j (hj : j < (bsl s).length), j < k → innerB (bsl s)[j].toNat = true)) (fun i => s.size - (intOf i).toNat)
  case atStart => exact ⟨0, Nat.zero_le _, rfl, ⟨by simp⟩⟩
  case round =>
    obtain ⟨k, hk, rfl, HI⟩ := hrel
    by_cases hlt : k < s.size
    · have hlk : k < (bsl s).length := by omega
      cases hpk : innerB (s[k]'hlt).toNat
      · go_wp2_with (go_at_call 81; refine (more1_c _ _).mono ?_; rintro e w' ⟨rfl, rfl⟩)
        go_ret
        exact ⟨ret_bool (by unfold isNameF; rw [all_no hlk (by exact hpk)]; simp), rfl⟩
      · go_wp2_with (go_at_call 81; refine (more1_c _ _).mono ?_; rintro e w' ⟨rfl, rfl⟩)
        go_round
        case rel => exact ⟨k + 1, by omega, by go_num, ⟨fun j hj hjk => by
          rcases Nat.lt_or_ge j k with h | h
          · exact HI.out j hj h
          · obtain rfl : j = k := by omega
            exact hpk⟩⟩
        case measure => simp [intOf]; omega
    · have ha := all_of (fun j hj => HI.out j hj (by omega))
      have HA := Aside0.mk ha
      clear ha
      by_cases h1 : 1 ≤ s.size
      · have h0 : 0 < s.size := h1
        by_cases h2 : s.size ≤ 16
        · have hc : bsl s = s[0] :: (bsl s).tail := by
            have h : bsl s = (bsl s)[0]'(by omega) :: (bsl s).tail := by simpa using List.drop_eq_getElem_cons (l := bsl s) (i := 0) (by omega)
            exact h
          have HE : Aside0 (isNameF (bsl s) = letterB s[0].toNat) := ⟨by
            unfold isNameF
            rw [HA.out, decide_eq_true (by omega : (bsl s).length ≤ 16), Bool.true_and, Bool.and_true]
            rw [hc]⟩
          clear hc
          go_wp2_with (go_at_call 80; refine (letter1_c _ _).mono ?_; rintro e w' ⟨rfl, rfl⟩)
          go_ret
          exact ⟨ret_bool HE.out.symm, rfl⟩
        · go_wp2
          go_ret
          exact ⟨ret_bool (by unfold isNameF; rw [decide_eq_false (by omega)]; rfl), rfl⟩
      · go_wp2
        go_ret
        exact ⟨ret_bool (by
          have : bsl s = [] := List.eq_nil_of_length_eq_zero (by omega)
          rw [this]; rfl), rfl⟩
set_option maxRecDepth 100000 in
set_option maxHeartbeats 2000000 in
theorem isTerm1_c (s : ByteArray) (w : World) (hs : s.size ≤ maxLen) : Calls Try.prog 61 #[.string s] w fun e w' => e = .returned (.bool (isTermF (bsl s))) ∧ w = w' := by
  unfold maxLen at hs
  have hl := size_data s
  go_enter Try.func61, Try.ntmps61
  go_wp2
  go_loop [3] (fun i => ∃ k : Nat, k ≤ s.size ∧ i = .int .i64 k ∧ Aside0 (∀ j (hj : j < (bsl s).length), j < k → insideB (bsl s)[j].toNat = true)) (fun i => s.size - (intOf i).toNat)
  case atStart => exact ⟨0, Nat.zero_le _, rfl, ⟨by simp⟩⟩
  case round =>
    obtain ⟨k, hk, rfl, HI⟩ := hrel
    by_cases hlt : k < s.size
    · have hlk : k < (bsl s).length := by omega
      have hbv : (bsl s)[k]'hlk = s[k]'hlt := rfl
      by_cases g1 : ((s[k]'hlt).toNat : Int) < 32
      · go_wp2
        go_ret
        exact ⟨ret_bool (by unfold isTermF; rw [all_no (p := insideB) hlk (by rw [hbv]; unfold insideB; rw [decide_eq_false (by omega)]; rfl)]; simp), rfl⟩
      · by_cases g2 : (126 : Int) < (s[k]'hlt).toNat
        · go_wp2
          go_ret
          exact ⟨ret_bool (by unfold isTermF; rw [all_no (p := insideB) hlk (by rw [hbv]; unfold insideB; rw [decide_eq_false (by omega)]; rfl)]; simp), rfl⟩
        · by_cases g3 : (s[k]'hlt).toNat = 39
          · have b3 : (((s[k]'hlt).toNat : Int) == 39) = true := by rw [g3]; rfl
            go_wp2
            go_ret
            exact ⟨ret_bool (by unfold isTermF; rw [all_no (p := insideB) hlk (by rw [hbv, g3]; rfl)]; simp), rfl⟩
          · have hin : insideB (s[k]'hlt).toNat = true := by
              unfold insideB
              rw [decide_eq_true (by omega), Bool.true_and, bne_iff_ne]
              omega
            have b3 : (((s[k]'hlt).toNat : Int) == 39) = false := by rw [beq_eq_false_iff_ne]; omega
            have HIN := Aside0.mk hin
            clear g3 hin
            go_wp2
            go_round
            case rel => exact ⟨k + 1, by omega, by go_num, ⟨fun j hj hjk => by
              rcases Nat.lt_or_ge j k with h | h
              · exact HI.out j hj h
              · obtain rfl : j = k := by omega
                exact HIN.out⟩⟩
            case measure => simp [intOf]; omega
    · have ha := all_of (fun j hj => HI.out j hj (by omega))
      have HA := Aside0.mk ha
      clear ha
      by_cases h1 : 1 ≤ s.size
      · by_cases h2 : s.size ≤ 16
        · go_wp2
          go_ret
          exact ⟨ret_bool (by unfold isTermF; rw [HA.out, decide_eq_true (by omega : 1 ≤ (bsl s).length), decide_eq_true (by omega : (bsl s).length ≤ 16)]; simp only [Bool.and_true]; exact decide_eq_true (by omega)), rfl⟩
        · go_wp2
          go_ret
          exact ⟨ret_bool (by unfold isTermF; rw [decide_eq_false (by omega : ¬ (bsl s).length ≤ 16)]; simp only [Bool.and_false, Bool.false_and]; exact decide_eq_false (by omega)), rfl⟩
      · go_wp2
        go_ret
        exact ⟨ret_bool (by unfold isTermF; rw [decide_eq_false (by omega : ¬ 1 ≤ (bsl s).length)]; rfl), rfl⟩
end Go.Proofs.Ytphmmppmhphgeaa
