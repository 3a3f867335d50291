/- The contracts of the functions of the text's lexer that only read. -/
import Derived.Test.YtphmmppmhphgeaaWd
set_option linter.unusedVariables false
set_option linter.unusedSimpArgs false
namespace Go.Proofs.Ytphmmppmhphgeaa
open Go.RowKit Go.Proofs.YtphmmppmhphgeaaW.PrintWords

def letterB (c : Int) : Bool := decide (97 ≤ c ∧ c ≤ 122 ∨ 65 ≤ c ∧ c ≤ 90)
def innerB (c : Int) : Bool := letterB c || decide (48 ≤ c ∧ c ≤ 57) || c == 95
def insideB (c : Int) : Bool := decide (32 ≤ c ∧ c ≤ 126) && c != 39
def noteB (c : Int) : Bool := c != 10
def signF (c : Int) : Int := if c = 61 then 3 else if c = 124 then 4 else if c = 59 then 5 else 0
def runF (l : List UInt8) (p : Int → Bool) : Nat := (l.takeWhile fun c => p c.toNat).length
def isNameF (l : List UInt8) : Bool := decide (l.length ≤ 16) && (match l with | [] => false | c :: _ => letterB c.toNat) && l.all fun c => innerB c.toNat
def isTermF (l : List UInt8) : Bool := decide (1 ≤ l.length) && decide (l.length ≤ 16) && l.all fun c => insideB c.toNat

theorem runF_le (l : List UInt8) (p : Int → Bool) : runF l p ≤ l.length := (List.takeWhile_sublist _).length_le
theorem runF_all (l : List UInt8) (p : Int → Bool) : (runF l p = l.length) ↔ l.all (fun c => p c.toNat) = true := by
  unfold runF
  induction l with
  | nil => simp
  | cons a l ih =>
    rw [List.takeWhile_cons]
    by_cases h : p a.toNat = true
    · simp [h, ih]
    · simp [h]
theorem runF_ge {l : List UInt8} {p : Int → Bool} {k : Nat} (hk : k ≤ l.length) (h : ∀ j (hj : j < l.length), j < k → p l[j].toNat = true) : k ≤ runF l p := by
  induction l generalizing k with
  | nil => simp at hk; omega
  | cons a l ih =>
    cases k with
    | zero => omega
    | succ k =>
      have h0 : p a.toNat = true := h 0 (by simp) (by omega)
      have := ih (k := k) (by simp at hk; omega) (fun j hj hjk => h (j + 1) (by simp; omega) (by omega))
      unfold runF at this ⊢
      rw [List.takeWhile_cons, if_pos h0, List.length_cons]
      omega
theorem runF_stop {l : List UInt8} {p : Int → Bool} {k : Nat} (hk : k < l.length) (h : ∀ j (hj : j < l.length), j < k → p l[j].toNat = true) (hs : p l[k].toNat = false) : runF l p = k := by
  induction l generalizing k with
  | nil => simp at hk
  | cons a l ih =>
    unfold runF at ih ⊢
    cases k with
    | zero =>
      have h0 : p a.toNat = false := hs
      rw [List.takeWhile_cons, if_neg (by simp [h0])]
      rfl
    | succ k =>
      have h0 : p a.toNat = true := h 0 (by simp) (by omega)
      rw [List.takeWhile_cons, if_pos h0, List.length_cons, ih (k := k) (by simp at hk; omega) (fun j hj hjk => h (j + 1) (by simp; omega) (by omega)) hs]

theorem letter_c (c : Int) (w : World) : Calls Try.prog 83 #[.int .u8 c] w fun e w' => e = .returned (.bool (letterB c)) ∧ w = w' := by
  by_cases h1 : 97 ≤ c <;> by_cases h2 : c ≤ 122 <;> by_cases h3 : 65 ≤ c <;> by_cases h4 : c ≤ 90 <;> try omega
  all_goals
    go_enter Try.func83, Try.ntmps83
    go_wp2
    go_ret
    exact ⟨ret_bool (by simp [letterB, *] <;> omega), rfl⟩

theorem inner_c (c : Int) (w : World) : Calls Try.prog 85 #[.int .u8 c] w fun e w' => e = .returned (.bool (innerB c)) ∧ w = w' := by
  by_cases h0 : letterB c = true <;> by_cases h3 : 48 ≤ c <;> by_cases h4 : c ≤ 57 <;> try omega
  all_goals
    go_enter Try.func85, Try.ntmps85
    go_wp2_with (go_at_call 83; refine (letter_c _ _).mono ?_; rintro e w' ⟨rfl, rfl⟩)
    go_ret
    exact ⟨ret_bool (by simp [innerB, *] <;> try omega), rfl⟩

theorem inside_c (c : Int) (w : World) : Calls Try.prog 86 #[.int .u8 c] w fun e w' => e = .returned (.bool (insideB c)) ∧ w = w' := by
  by_cases h3 : 32 ≤ c <;> by_cases h4 : c ≤ 126 <;> try omega
  all_goals
    go_enter Try.func86, Try.ntmps86
    go_wp2
    go_ret
    exact ⟨ret_bool (by simp [insideB, *] <;> try omega), rfl⟩

theorem note_c (c : Int) (w : World) : Calls Try.prog 89 #[.int .u8 c] w fun e w' => e = .returned (.bool (noteB c)) ∧ w = w' := by
  go_enter Try.func89, Try.ntmps89
  go_wp2
  go_ret
  exact ⟨ret_bool rfl, rfl⟩

theorem signs_c (c : Int) (w : World) : Calls Try.prog 90 #[.int .u8 c] w fun e w' => e = .returned (.int .i64 (signF c)) ∧ w = w' := by
  by_cases h1 : c = 61
  · subst h1
    go_enter Try.func90, Try.ntmps90
    go_wp2
    go_ret
    exact ⟨ret_int rfl, rfl⟩
  by_cases h2 : c = 124
  · subst h2
    go_enter Try.func90, Try.ntmps90
    go_wp2
    go_ret
    exact ⟨ret_int rfl, rfl⟩
  by_cases h3 : c = 59
  · subst h3
    go_enter Try.func90, Try.ntmps90
    go_wp2
    go_ret
    exact ⟨ret_int rfl, rfl⟩
  go_enter Try.func90, Try.ntmps90
  go_wp2
  go_ret
  exact ⟨ret_int (by simp [signF, *]), rfl⟩

/-- A function value that answers a byte's question and leaves the world alone. -/
structure PredB (fv : Value) (p : Int → Bool) : Prop where
  ex : ∃ f first cap, fv = .func (.func f) first cap ∧ (∀ args w, (callFunc f args).run Try.prog w = .ok (.enter f args) w) ∧ ∀ c w, Calls Try.prog f (first.push (.int .u8 c) ++ cap) w fun e w' => e = .returned (.bool (p c)) ∧ w = w'
theorem pred_inner : PredB (.func (.func 85) #[] #[]) innerB := ⟨_, _, _, rfl, fun _ _ => by kernel_rfl, fun c w => inner_c c w⟩
theorem pred_inside : PredB (.func (.func 86) #[] #[]) insideB := ⟨_, _, _, rfl, fun _ _ => by kernel_rfl, fun c w => inside_c c w⟩
theorem pred_note : PredB (.func (.func 89) #[] #[]) noteB := ⟨_, _, _, rfl, fun _ _ => by kernel_rfl, fun c w => note_c c w⟩

set_option maxRecDepth 100000 in
set_option maxHeartbeats 1000000 in
theorem run_c (s : ByteArray) (fv : Value) (p : Int → Bool) (w : World) (hs : s.size ≤ maxLen) (hp : PredB fv p) :
    Calls Try.prog 84 #[.string s, fv] w fun e w' => e = .returned (.int .i64 (runF (bsl s) p)) ∧ w = w' := by
  unfold maxLen at hs
  obtain ⟨f, first, cap, rfl, hcf, hcall⟩ := hp.ex
  have HC := Aside0.mk hcall
  clear hcall
  go_enter Try.func84, Try.ntmps84
  go_wp2
  go_loop [5] (fun i => ∃ k : Nat, k ≤ s.size ∧ i = .int .i64 k ∧ Aside0 (∀ j (hj : j < (bsl s).length), j < k → p (bsl s)[j].toNat = true)) (fun i => s.size - (intOf i).toNat)
  case atStart => exact ⟨0, Nat.zero_le _, rfl, ⟨by simp⟩⟩
  case round =>
    obtain ⟨k, hk, rfl, HI⟩ := hrel
    by_cases hlt : k < s.size
    · have hl : k < (bsl s).length := by rw [size_data]; exact hlt
      cases hpk : p (s[k]'hlt).toNat
      · go_wp2_with (refine (HC.out _ _).mono ?_; rintro e w' ⟨rfl, rfl⟩)
        go_ret
        exact ⟨ret_int (by rw [runF_stop hl HI.out (by exact hpk)]), rfl⟩
      · go_wp2_with (refine (HC.out _ _).mono ?_; rintro e w' ⟨rfl, rfl⟩)
        go_round
        case rel => exact ⟨k + 1, by omega, by go_num, ⟨fun j hj hjk => by
          rcases Nat.lt_or_ge j k with h | h
          · exact HI.out j hj h
          · obtain rfl : j = k := by omega
            exact hpk⟩⟩
        case measure => simp [intOf]; omega
    · go_wp2
      go_ret
      obtain rfl : k = s.size := by omega
      exact ⟨ret_int (by rw [Nat.le_antisymm (runF_le (bsl s) p) (by rw [size_data]; exact runF_ge (by rw [size_data]; exact Nat.le_refl _) HI.out), size_data]), rfl⟩
end Go.Proofs.Ytphmmppmhphgeaa
