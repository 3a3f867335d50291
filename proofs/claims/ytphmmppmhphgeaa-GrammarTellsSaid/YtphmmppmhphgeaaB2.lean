/- The contracts of the library's searches and of equality, at rules. -/
import Derived.Test.YtphmmppmhphgeaaB1
import Derived.Deep.QuietTactic
import Derived.BigQuiet
set_option linter.unusedVariables false
set_option linter.unusedSimpArgs false
namespace Go.Proofs.Ytphmmppmhphgeaa
open Go.RowKit Go.Proofs.YtphmmppmhphgeaaW.PrintWords

theorem below_drewN {B : Nat} {w W : World} (h : Below B w W) (n : Nat) : Below B w (W.drewN n) := ⟨h.os, h.tape, h.output, h.size, h.block⟩
theorem eq_take {xs ys : List Int} (hl : xs.length = ys.length) (h : ∀ j (hj : j < xs.length), xs[j] = ys[j]'(by omega)) : xs = ys := List.ext_getElem hl (fun i h1 h2 => h i h1)

set_option maxRecDepth 100000 in
set_option maxHeartbeats 1000000 in
theorem equalInt_c (A B : Option Addr) (c d : Nat) (xs ys : List Int) (w : World) (hr : kInt.C w A xs.length xs) (hs : kInt.C w B ys.length ys) :
    Calls Try.prog 96 #[.slice A xs.length c, .slice B ys.length d] w fun e w' => e = .returned (.bool (decide (xs = ys))) ∧ Below w.heap.size w w' := by
  have hm := C_max hr
  have hm2 := C_max hs
  have HR := Aside0.mk hr
  have HS := Aside0.mk hs
  clear hr hs
  by_cases hl : xs.length = ys.length
  · have hlb : ((xs.length : Int) != (ys.length : Int)) = false := by rw [hl]; simp
    have HL := Lib.hid hl
    clear hl
    go_enter Try.func96, Try.ntmps96
    go_wp2
    go_loopw [13] (fun i wr => ∃ k : Nat, k ≤ xs.length ∧ i = .int .i64 k ∧ Aside0 (∀ j (hj : j < xs.length), j < k → xs[j] = ys[j]'(by have := HL.out; omega)) ∧ Aside0 (Below w.heap.size w wr)) (fun i _ => xs.length - (intOf i).toNat)
    case atStart => exact ⟨0, Nat.zero_le _, rfl, ⟨by intro j hj h; omega⟩, ⟨Below.refl _ _⟩⟩
    case round =>
      obtain ⟨k, hk, rfl, HI, HB⟩ := hrel
      by_cases hlt : k < xs.length
      · have hlt2 : k < ys.length := by have := HL.out; omega
        obtain ⟨ad, ead, hx⟩ := at_int (Kd.C_below HR.out HB.out) k hlt
        obtain ⟨bd, ebd, hy⟩ := at_int (Kd.C_below HS.out HB.out) k hlt2
        cases ead
        cases ebd
        have i1 : (0 : Int) ≤ (k : Int) := by omega
        have i2 : (k : Int) < (xs.length : Int) := by omega
        have i3 : (k : Int) < (ys.length : Int) := by omega
        cases hp : ((xs[k]'hlt) != (ys[k]'hlt2))
        · have HE : Aside0 ((xs[k]'hlt) = (ys[k]'hlt2)) := ⟨by simpa using hp⟩
          go_wp2
          go_quiet (fail)
          go_wp2
          go_roundw
          case rel => exact ⟨k + 1, by omega, by go_num, ⟨fun j hj hjk => by
            rcases Nat.lt_or_ge j k with h | h
            · exact HI.out j hj h
            · obtain rfl : j = k := by omega
              exact HE.out⟩, ⟨below_drewN HB.out _⟩⟩
          case measure => simp [intOf]; omega
        · have HE : Aside0 (¬ (xs[k]'hlt) = (ys[k]'hlt2)) := ⟨by simpa using hp⟩
          go_wp2
          go_quiet (fail)
          go_wp2
          go_ret
          exact ⟨ret_bool (by symm; rw [decide_eq_false_iff_not]; rintro rfl; exact HE.out rfl), below_drewN HB.out _⟩
      · go_wp2
        go_ret
        exact ⟨ret_bool (by symm; rw [decide_eq_true_eq]; exact eq_take HL.out (fun j hj => HI.out j hj (by omega))), HB.out⟩
  · have hlb : ((xs.length : Int) != (ys.length : Int)) = true := by simp; omega
    have HL := Aside0.mk hl
    clear hl
    go_enter Try.func96, Try.ntmps96
    go_wp2
    go_ret
    exact ⟨ret_bool (by symm; rw [decide_eq_false_iff_not]; rintro rfl; exact HL.out rfl), Below.refl _ _⟩

/-- A function value that answers a question on rules, of those in a list, in whatever world lies above w0. -/
structure PredR (w0 : World) (fv : Value) (p : Rule → Bool) (l : List Rule) : Prop where
  ex : ∃ f first cap, fv = .func (.func f) first cap ∧ (∀ args w, (callFunc f args).run Try.prog w = .ok (.enter f args) w) ∧ ∀ x, x ∈ l → ∀ W A c, Below w0.heap.size w0 W → x.right.length ≤ c → kInt.C W A x.right.length x.right →
    Calls Try.prog f (first.push (.agg #[.int .i64 x.left, .slice A x.right.length c]) ++ cap) W fun e W' => e = .returned (.bool (p x)) ∧ Below W.heap.size W W'

set_option maxRecDepth 100000 in
set_option maxHeartbeats 1000000 in
theorem indexFuncRule_c (A : Option Addr) (c : Nat) (l : List Rule) (fv : Value) (p : Rule → Bool) (w : World) (hr : kRule.C w A l.length l) (hp : PredR w fv p l) :
    Calls Try.prog 95 #[.slice A l.length c, fv] w fun e w' => e = .returned (.int .i64 (posF p l 0)) ∧ Below w.heap.size w w' := by
  have hm := C_max hr
  have HR := Aside0.mk hr
  clear hr
  obtain ⟨f, first, cap, rfl, hcf, hcall⟩ := hp.ex
  have HC := Aside0.mk hcall
  clear hcall hp
  obtain ⟨R, hR⟩ : ∃ R, posF p l 0 = R := ⟨_, rfl⟩
  rw [hR]
  have HE := Aside0.mk hR
  clear hR
  go_enter Try.func95, Try.ntmps95
  go_wp2
  go_loopw [8] (fun i wr => ∃ k : Nat, k ≤ l.length ∧ i = .int .i64 k ∧ Aside0 (posF p (l.drop k) k = R) ∧ Aside0 (Below w.heap.size w wr)) (fun i _ => l.length - (intOf i).toNat)
  case atStart => exact ⟨0, Nat.zero_le _, rfl, ⟨HE.out⟩, ⟨Below.refl _ _⟩⟩
  case round =>
    obtain ⟨k, hk, rfl, HI, HB⟩ := hrel
    by_cases hlt : k < l.length
    · obtain ⟨ad, A1, c1, ead, hx, hy, hc1, hC1⟩ := at_rule (Kd.C_below HR.out HB.out) k hlt
      cases ead
      have HK := Aside0.mk (HC.out (l[k]'hlt) (List.getElem_mem _) wr A1 c1 HB.out hc1 hC1)
      clear hc1 hC1
      cases hp : p (l[k]'hlt)
      · have HS := Aside0.mk (posF_step hlt HI.out hp)
        go_wp2_with (refine HK.out.mono ?_; rw [hp]; rintro e w1 ⟨rfl, hb1⟩)
        go_roundw
        case rel => exact ⟨k + 1, by omega, by go_num, HS, ⟨below_then HB.out HB.out.size hb1⟩⟩
        case measure => simp [intOf]; omega
      · have HS := Aside0.mk (posF_hit hlt HI.out hp)
        go_wp2_with (refine HK.out.mono ?_; rw [hp]; rintro e w1 ⟨rfl, hb1⟩)
        go_ret
        exact ⟨ret_int HS.out.symm, below_then HB.out HB.out.size hb1⟩
    · have HS := Aside0.mk (posF_end (by omega) HI.out)
      go_wp2
      go_ret
      exact ⟨ret_int HS.out.symm, HB.out⟩
theorem containsFuncRule_c (A : Option Addr) (c : Nat) (l : List Rule) (fv : Value) (p : Rule → Bool) (w : World) (hr : kRule.C w A l.length l) (hp : PredR w fv p l) :
    Calls Try.prog 77 #[.slice A l.length c, fv] w fun e w' => e = .returned (.bool (l.any p)) ∧ Below w.heap.size w w' := by
  have HR := Aside0.mk hr
  have HP := Aside0.mk hp
  clear hr hp
  go_enter Try.func77, Try.ntmps77
  go_wp2_with (go_at_call 95; refine (indexFuncRule_c _ _ _ _ _ _ HR.out HP.out).mono ?_; rintro e w1 ⟨rfl, hb1⟩)
  go_ret
  exact ⟨ret_bool (posF_any _ _ _), hb1⟩

set_option maxRecDepth 100000 in
set_option maxHeartbeats 1000000 in
theorem alike_c (x y : Rule) (A B : Option Addr) (c d : Nat) (w : World) (hr : kInt.C w A x.right.length x.right) (hs : kInt.C w B y.right.length y.right) :
    Calls Try.prog 79 #[.agg #[.int .i64 x.left, .slice A x.right.length c], .agg #[.int .i64 y.left, .slice B y.right.length d]] w fun e w' => e = .returned (.bool (decide (x = y))) ∧ Below w.heap.size w w' := by
  have HR := Aside0.mk hr
  have HS := Aside0.mk hs
  clear hr hs
  have e0 : decide (x = y) = (decide (x.left = y.left) && decide (x.right = y.right)) := by
    rw [Bool.eq_iff_iff]
    simp only [decide_eq_true_eq, Bool.and_eq_true]
    cases x; cases y; simp
  have E0 := Lib.hid e0
  clear e0
  cases hb : (x.left == y.left)
  · go_enter Try.func79, Try.ntmps79
    go_wp2
    go_ret
    refine ⟨ret_bool (by rw [E0.out, (by simpa using hb : decide (x.left = y.left) = false), Bool.false_and]), ?_⟩
    exact ((Below.refl _ _).alloc (Nat.le_refl _) _).alloc (by simp) _
  · have HB := Aside0.mk (((Below.refl w.heap.size w).alloc (Nat.le_refl _) (.cells #[.int .i64 x.left, .slice A x.right.length c] 56 (0, 0))).alloc (by simp) (.cells #[.int .i64 y.left, .slice B y.right.length d] 56 (0, 0)))
    go_enter Try.func79, Try.ntmps79
    go_wp2_with (go_at_call 96; refine (equalInt_c _ _ _ _ _ _ _ (Kd.C_below HR.out HB.out) (Kd.C_below HS.out HB.out)).mono ?_; rintro e w1 ⟨rfl, hb1⟩)
    go_ret
    exact ⟨ret_bool (by rw [E0.out, (by simpa using hb : decide (x.left = y.left) = true), Bool.true_and]), below_then HB.out HB.out.size hb1⟩
end Go.Proofs.Ytphmmppmhphgeaa
