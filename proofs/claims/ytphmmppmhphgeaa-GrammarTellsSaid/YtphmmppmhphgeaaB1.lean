/- The contracts of the library's searches in slices. -/
import Derived.Test.YtphmmppmhphgeaaWd
import Derived.Lib.Hide
set_option linter.unusedVariables false
set_option linter.unusedSimpArgs false
namespace Go.Proofs.Ytphmmppmhphgeaa
open Go.RowKit Go.Proofs.YtphmmppmhphgeaaW.PrintWords

/-- The first place, from k on, at which p holds; -1: none. -/
def posF {α : Type} (p : α → Bool) : List α → Nat → Int
  | [], _ => -1
  | a :: l, k => if p a = true then k else posF p l (k + 1)
theorem posF_step {α : Type} {p : α → Bool} {l : List α} {k : Nat} {R : Int} (hk : k < l.length) (h : posF p (l.drop k) k = R) (hp : p (l[k]'hk) = false) : posF p (l.drop (k + 1)) (k + 1) = R := by
  rw [List.drop_eq_getElem_cons hk, posF, if_neg (by rw [hp]; simp)] at h
  exact h
theorem posF_hit {α : Type} {p : α → Bool} {l : List α} {k : Nat} {R : Int} (hk : k < l.length) (h : posF p (l.drop k) k = R) (hp : p (l[k]'hk) = true) : R = k := by
  rw [List.drop_eq_getElem_cons hk, posF, if_pos hp] at h
  exact h.symm
theorem posF_end {α : Type} {p : α → Bool} {l : List α} {k : Nat} {R : Int} (hk : l.length ≤ k) (h : posF p (l.drop k) k = R) : R = -1 := by
  rw [List.drop_eq_nil_of_le hk, posF] at h
  exact h.symm
theorem posF_ge {α : Type} (p : α → Bool) (l : List α) (k : Nat) : posF p l k = -1 ∨ (k : Int) ≤ posF p l k ∧ posF p l k < k + l.length := by
  induction l generalizing k with
  | nil => exact .inl rfl
  | cons a l ih =>
    unfold posF
    split
    · right; simp; omega
    · rcases ih (k + 1) with h | h
      · exact .inl h
      · right; simp; omega
theorem posF_any {α : Type} (p : α → Bool) (l : List α) (k : Nat) : decide (0 ≤ posF p l k) = l.any p := by
  induction l generalizing k with
  | nil => rfl
  | cons a l ih =>
    unfold posF
    by_cases h : p a = true
    · rw [if_pos h]; simp [h]
    · rw [if_neg h, ih, List.any_cons, Bool.eq_false_iff.2 h, Bool.false_or]

set_option maxRecDepth 100000 in
set_option maxHeartbeats 1000000 in
theorem indexInt_c (A : Option Addr) (c : Nat) (l : List Int) (x : Int) (w : World) (hr : kInt.C w A l.length l) :
    Calls Try.prog 99 #[.slice A l.length c, .int .i64 x] w fun e w' => e = .returned (.int .i64 (posF (fun y => x == y) l 0)) ∧ w = w' := by
  have hm := C_max hr
  have HR := Aside0.mk hr
  clear hr
  obtain ⟨R, hR⟩ : ∃ R, posF (fun y => x == y) l 0 = R := ⟨_, rfl⟩
  rw [hR]
  have HE := Aside0.mk hR
  clear hR
  go_enter Try.func99, Try.ntmps99
  go_wp2
  go_loop [8] (fun i => ∃ k : Nat, k ≤ l.length ∧ i = .int .i64 k ∧ Aside0 (posF (fun y => x == y) (l.drop k) k = R)) (fun i => l.length - (intOf i).toNat)
  case atStart => exact ⟨0, Nat.zero_le _, rfl, ⟨HE.out⟩⟩
  case round =>
    obtain ⟨k, hk, rfl, HI⟩ := hrel
    by_cases hlt : k < l.length
    · obtain ⟨ad, ead, hx⟩ := at_int HR.out k hlt
      cases ead
      cases hp : (x == (l[k]'hlt))
      · have HS := Aside0.mk (posF_step hlt HI.out hp)
        go_wp2
        go_round
        case rel => exact ⟨k + 1, by omega, by go_num, HS⟩
        case measure => simp [intOf]; omega
      · have HS := Aside0.mk (posF_hit hlt HI.out hp)
        go_wp2
        go_ret
        exact ⟨ret_int HS.out.symm, rfl⟩
    · have HS := Aside0.mk (posF_end (by omega) HI.out)
      go_wp2
      go_ret
      exact ⟨ret_int HS.out.symm, rfl⟩
theorem containsInt_c (A : Option Addr) (c : Nat) (l : List Int) (x : Int) (w : World) (hr : kInt.C w A l.length l) :
    Calls Try.prog 98 #[.slice A l.length c, .int .i64 x] w fun e w' => e = .returned (.bool (l.any fun y => x == y)) ∧ w = w' := by
  have HR := Aside0.mk hr
  clear hr
  go_enter Try.func98, Try.ntmps98
  go_wp2_with (go_at_call 99; refine (indexInt_c _ _ _ _ _ HR.out).mono ?_; rintro e w' ⟨rfl, rfl⟩)
  go_ret
  exact ⟨ret_bool (posF_any _ _ _), rfl⟩

theorem containsInt_n (A : Option Addr) (c n : Nat) (l : List Int) (x : Int) (w : World) (hr : kInt.C w A n l) :
    Calls Try.prog 98 #[.slice A n c, .int .i64 x] w fun e w' => e = .returned (.bool (l.any fun y => x == y)) ∧ w = w' := by
  obtain rfl := C_len hr
  exact containsInt_c A c l x w hr

set_option maxRecDepth 100000 in
set_option maxHeartbeats 1000000 in
theorem indexStr_c (A : Option Addr) (c : Nat) (l : List ByteArray) (x : ByteArray) (w : World) (hr : kStr.C w A l.length l) :
    Calls Try.prog 76 #[.slice A l.length c, .string x] w fun e w' => e = .returned (.int .i64 (posF (fun y => decide (x = y)) l 0)) ∧ w = w' := by
  have hm := C_max hr
  have HR := Aside0.mk hr
  clear hr
  obtain ⟨R, hR⟩ : ∃ R, posF (fun y => decide (x = y)) l 0 = R := ⟨_, rfl⟩
  rw [hR]
  have HE := Aside0.mk hR
  clear hR
  go_enter Try.func76, Try.ntmps76
  go_wp2
  go_loop [8] (fun i => ∃ k : Nat, k ≤ l.length ∧ i = .int .i64 k ∧ Aside0 (posF (fun y => decide (x = y)) (l.drop k) k = R)) (fun i => l.length - (intOf i).toNat)
  case atStart => exact ⟨0, Nat.zero_le _, rfl, ⟨HE.out⟩⟩
  case round =>
    obtain ⟨k, hk, rfl, HI⟩ := hrel
    by_cases hlt : k < l.length
    · obtain ⟨ad, ead, hx⟩ := at_str HR.out k hlt
      cases ead
      cases hp : (x.toList == (l[k]'hlt).toList)
      · have HS := Aside0.mk (posF_step hlt HI.out (by rw [← str_beq]; exact hp))
        go_wp2
        go_round
        case rel => exact ⟨k + 1, by omega, by go_num, HS⟩
        case measure => simp [intOf]; omega
      · have HS := Aside0.mk (posF_hit hlt HI.out (by rw [← str_beq]; exact hp))
        go_wp2
        go_ret
        exact ⟨ret_int HS.out.symm, rfl⟩
    · have HS := Aside0.mk (posF_end (by omega) HI.out)
      go_wp2
      go_ret
      exact ⟨ret_int HS.out.symm, rfl⟩
theorem containsStr_c (A : Option Addr) (c : Nat) (l : List ByteArray) (x : ByteArray) (w : World) (hr : kStr.C w A l.length l) :
    Calls Try.prog 75 #[.slice A l.length c, .string x] w fun e w' => e = .returned (.bool (l.any fun y => decide (x = y))) ∧ w = w' := by
  have HR := Aside0.mk hr
  clear hr
  go_enter Try.func75, Try.ntmps75
  go_wp2_with (go_at_call 76; refine (indexStr_c _ _ _ _ _ HR.out).mono ?_; rintro e w' ⟨rfl, rfl⟩)
  go_ret
  exact ⟨ret_bool (posF_any _ _ _), rfl⟩

/-- A function value that answers a question on whole numbers, of those in a list, in whatever world lies above w0. -/
structure PredI (w0 : World) (fv : Value) (p : Int → Bool) (l : List Int) : Prop where
  ex : ∃ f first cap, fv = .func (.func f) first cap ∧ (∀ args w, (callFunc f args).run Try.prog w = .ok (.enter f args) w) ∧ ∀ x, x ∈ l → ∀ W, Below w0.heap.size w0 W → Calls Try.prog f (first.push (.int .i64 x) ++ cap) W fun e W' => e = .returned (.bool (p x)) ∧ Below W.heap.size W W'

set_option maxRecDepth 100000 in
set_option maxHeartbeats 1000000 in
theorem indexFuncInt_c (A : Option Addr) (c : Nat) (l : List Int) (fv : Value) (p : Int → Bool) (w : World) (hr : kInt.C w A l.length l) (hp : PredI w fv p l) :
    Calls Try.prog 97 #[.slice A l.length c, fv] w fun e w' => e = .returned (.int .i64 (posF p l 0)) ∧ Below w.heap.size w w' := by
  have hm := C_max hr
  have HR := Aside0.mk hr
  clear hr
  obtain ⟨f, first, cap, rfl, hcf, hcall⟩ := hp.ex
  have HC := Aside0.mk hcall
  clear hcall hp
  obtain ⟨R, hR⟩ : ∃ R, posF p l 0 = R := ⟨_, rfl⟩
  rw [hR]
  have HE := Aside0.mk hR
  clear hR
  go_enter Try.func97, Try.ntmps97
  go_wp2
  go_loopw [8] (fun i wr => ∃ k : Nat, k ≤ l.length ∧ i = .int .i64 k ∧ Aside0 (posF p (l.drop k) k = R) ∧ Aside0 (Below w.heap.size w wr)) (fun i _ => l.length - (intOf i).toNat)
  case atStart => exact ⟨0, Nat.zero_le _, rfl, ⟨HE.out⟩, ⟨Below.refl _ _⟩⟩
  case round =>
    obtain ⟨k, hk, rfl, HI, HB⟩ := hrel
    by_cases hlt : k < l.length
    · obtain ⟨ad, ead, hx⟩ := at_int (Kd.C_below HR.out HB.out) k hlt
      cases ead
      have HK := Aside0.mk (HC.out (l[k]'hlt) (List.getElem_mem _) wr HB.out)
      cases hp : p (l[k]'hlt)
      · have HS := Aside0.mk (posF_step hlt HI.out hp)
        go_wp2_with (refine HK.out.mono ?_; rw [hp]; rintro e w1 ⟨rfl, hb1⟩)
        go_roundw
        case rel => exact ⟨k + 1, by omega, by go_num, HS, ⟨below_then HB.out HB.out.size hb1⟩⟩
        case measure => simp [intOf]; omega
      · have HS := Aside0.mk (posF_hit hlt HI.out hp)
        go_wp2_with (refine HK.out.mono ?_; rw [hp]; rintro e w1 ⟨rfl, hb1⟩)
        go_ret
        exact ⟨ret_int HS.out.symm, below_then HB.out HB.out.size hb1⟩
    · have HS := Aside0.mk (posF_end (by omega) HI.out)
      go_wp2
      go_ret
      exact ⟨ret_int HS.out.symm, HB.out⟩
theorem containsFuncInt_c (A : Option Addr) (c : Nat) (l : List Int) (fv : Value) (p : Int → Bool) (w : World) (hr : kInt.C w A l.length l) (hp : PredI w fv p l) :
    Calls Try.prog 87 #[.slice A l.length c, fv] w fun e w' => e = .returned (.bool (l.any p)) ∧ Below w.heap.size w w' := by
  have HR := Aside0.mk hr
  have HP := Aside0.mk hp
  clear hr hp
  go_enter Try.func87, Try.ntmps87
  go_wp2_with (go_at_call 97; refine (indexFuncInt_c _ _ _ _ _ _ HR.out HP.out).mono ?_; rintro e w1 ⟨rfl, hb1⟩)
  go_ret
  exact ⟨ret_bool (posF_any _ _ _), hb1⟩
end Go.Proofs.Ytphmmppmhphgeaa
