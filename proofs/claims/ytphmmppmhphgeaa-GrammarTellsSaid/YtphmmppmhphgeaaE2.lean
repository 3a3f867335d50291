/- The contracts of the keep package's comparisons. -/
import Derived.Test.YtphmmppmhphgeaaC9
set_option linter.unusedVariables false
set_option linter.unusedSimpArgs false
namespace Go.Proofs.Ytphmmppmhphgeaa
open Go.RowKit Go.Proofs.YtphmmppmhphgeaaW.PrintWords

theorem toList_eq {a b : ByteArray} (h : (!(a.toList == b.toList)) = false) : a = b := by
  have h1 := str_beq a b
  simp only [Bool.not_eq_false'] at h
  rw [h] at h1
  exact of_decide_eq_true h1.symm
theorem toList_ne {a b : ByteArray} (h : (!(a.toList == b.toList)) = true) : ¬ a = b := by
  have h1 := str_beq a b
  simp only [Bool.not_eq_true'] at h
  rw [h] at h1
  exact of_decide_eq_false h1.symm
set_option maxRecDepth 100000 in
set_option maxHeartbeats 1000000 in
theorem keepInts_c (A B : Option Addr) (c d n m : Nat) (xs ys : List Int) (w : World) (hr : kInt.C w A n xs) (hs : kInt.C w B m ys) :
    Calls Try.prog 36 #[.slice A n c, .slice B m d] w fun e w' => e = .returned (.bool (decide (xs = ys))) ∧ Below w.heap.size w w' := by
  have hn := C_len hr
  have hm' := C_len hs
  subst hn hm'
  have hm := C_max hr
  have hm2 := C_max hs
  have HR := Aside0.mk hr
  have HS := Aside0.mk hs
  clear hr hs
  by_cases hl : xs.length = ys.length
  · have hlb : ((xs.length : Int) != (ys.length : Int)) = false := by rw [hl]; simp
    have HL := Lib.hid hl
    clear hl
    go_enter Try.func36, Try.ntmps36
    go_wp2
    go_loopw [5] (fun i wr => ∃ k : Nat, k ≤ xs.length ∧ i = .int .i64 k ∧ Aside0 (∀ j (hj : j < xs.length), j < k → xs[j] = ys[j]'(by have := HL.out; omega)) ∧ Aside0 (Below w.heap.size w wr)) (fun i _ => xs.length - (intOf i).toNat)
    case atStart => exact ⟨0, Nat.zero_le _, rfl, ⟨by intro j hj h; omega⟩, ⟨Below.refl _ _⟩⟩
    case round =>
      obtain ⟨k, hk, rfl, HI, HB⟩ := hrel
      by_cases hlt : k < xs.length
      · have hlt2 : k < ys.length := by have := HL.out; omega
        obtain ⟨ad, ead, hx⟩ := at_int (Kd.C_below HR.out HB.out) k hlt
        obtain ⟨bd, ebd, hy⟩ := at_int (Kd.C_below HS.out HB.out) k hlt2
        cases ead
        cases ebd
        have i1 : (0 : Int) ≤ (k : Int) := by omega
        have i2 : (k : Int) < (xs.length : Int) := by omega
        have i3 : (k : Int) < (ys.length : Int) := by omega
        cases hp : ((xs[k]'hlt) != (ys[k]'hlt2))
        · have HE : Aside0 ((xs[k]'hlt) = (ys[k]'hlt2)) := ⟨by simpa using hp⟩
          go_wp2
          go_quiet (fail)
          go_wp2
          go_roundw
          case rel => exact ⟨k + 1, by omega, by go_num, ⟨fun j hj hjk => by
            rcases Nat.lt_or_ge j k with h | h
            · exact HI.out j hj h
            · obtain rfl : j = k := by omega
              exact HE.out⟩, ⟨below_drewN HB.out _⟩⟩
          case measure => simp [intOf]; omega
        · have HE : Aside0 (¬ (xs[k]'hlt) = (ys[k]'hlt2)) := ⟨by simpa using hp⟩
          go_wp2
          go_quiet (fail)
          go_wp2
          go_ret
          exact ⟨ret_bool (by symm; rw [decide_eq_false_iff_not]; rintro rfl; exact HE.out rfl), below_drewN HB.out _⟩
      · have HE : Aside0 (xs = ys) := ⟨List.ext_getElem HL.out (fun j h1 h2 => HI.out j h1 (by omega))⟩
        go_wp2
        go_ret
        exact ⟨ret_bool (by symm; rw [decide_eq_true_iff]; exact HE.out), HB.out⟩
  · have hlb : ((xs.length : Int) != (ys.length : Int)) = true := by simp; omega
    have HE : Aside0 (¬ xs = ys) := ⟨fun h => hl (by rw [h])⟩
    go_enter Try.func36, Try.ntmps36
    go_wp2
    go_ret
    exact ⟨ret_bool (by symm; rw [decide_eq_false_iff_not]; exact HE.out), Below.refl _ _⟩
set_option maxRecDepth 100000 in
set_option maxHeartbeats 1000000 in
theorem keepTexts_c (A B : Option Addr) (c d n m : Nat) (xs ys : List ByteArray) (w : World) (hr : kStr.C w A n xs) (hs : kStr.C w B m ys) :
    Calls Try.prog 54 #[.slice A n c, .slice B m d] w fun e w' => e = .returned (.bool (decide (xs = ys))) ∧ Below w.heap.size w w' := by
  have hn := C_len hr
  have hm' := C_len hs
  subst hn hm'
  have hm := C_max hr
  have hm2 := C_max hs
  have HR := Aside0.mk hr
  have HS := Aside0.mk hs
  clear hr hs
  by_cases hl : xs.length = ys.length
  · have hlb : ((xs.length : Int) != (ys.length : Int)) = false := by rw [hl]; simp
    have HL := Lib.hid hl
    clear hl
    go_enter Try.func54, Try.ntmps54
    go_wp2
    go_loopw [5] (fun i wr => ∃ k : Nat, k ≤ xs.length ∧ i = .int .i64 k ∧ Aside0 (∀ j (hj : j < xs.length), j < k → xs[j] = ys[j]'(by have := HL.out; omega)) ∧ Aside0 (Below w.heap.size w wr)) (fun i _ => xs.length - (intOf i).toNat)
    case atStart => exact ⟨0, Nat.zero_le _, rfl, ⟨by intro j hj h; omega⟩, ⟨Below.refl _ _⟩⟩
    case round =>
      obtain ⟨k, hk, rfl, HI, HB⟩ := hrel
      by_cases hlt : k < xs.length
      · have hlt2 : k < ys.length := by have := HL.out; omega
        obtain ⟨ad, ead, hx⟩ := at_str (Kd.C_below HR.out HB.out) k hlt
        obtain ⟨bd, ebd, hy⟩ := at_str (Kd.C_below HS.out HB.out) k hlt2
        cases ead
        cases ebd
        have i1 : (0 : Int) ≤ (k : Int) := by omega
        have i2 : (k : Int) < (xs.length : Int) := by omega
        have i3 : (k : Int) < (ys.length : Int) := by omega
        cases hp : (!((xs[k]'hlt).toList == (ys[k]'hlt2).toList))
        · have HE : Aside0 ((xs[k]'hlt) = (ys[k]'hlt2)) := ⟨by first | exact toList_ne hp | exact toList_eq hp⟩
          go_wp2
          go_quiet (fail)
          go_wp2
          go_roundw
          case rel => exact ⟨k + 1, by omega, by go_num, ⟨fun j hj hjk => by
            rcases Nat.lt_or_ge j k with h | h
            · exact HI.out j hj h
            · obtain rfl : j = k := by omega
              exact HE.out⟩, ⟨below_drewN HB.out _⟩⟩
          case measure => simp [intOf]; omega
        · have HE : Aside0 (¬ (xs[k]'hlt) = (ys[k]'hlt2)) := ⟨by first | exact toList_ne hp | exact toList_eq hp⟩
          go_wp2
          go_quiet (fail)
          go_wp2
          go_ret
          exact ⟨ret_bool (by symm; rw [decide_eq_false_iff_not]; rintro rfl; exact HE.out rfl), below_drewN HB.out _⟩
      · have HE : Aside0 (xs = ys) := ⟨List.ext_getElem HL.out (fun j h1 h2 => HI.out j h1 (by omega))⟩
        go_wp2
        go_ret
        exact ⟨ret_bool (by symm; rw [decide_eq_true_iff]; exact HE.out), HB.out⟩
  · have hlb : ((xs.length : Int) != (ys.length : Int)) = true := by simp; omega
    have HE : Aside0 (¬ xs = ys) := ⟨fun h => hl (by rw [h])⟩
    go_enter Try.func54, Try.ntmps54
    go_wp2
    go_ret
    exact ⟨ret_bool (by symm; rw [decide_eq_false_iff_not]; exact HE.out), Below.refl _ _⟩
set_option maxRecDepth 100000 in
set_option maxHeartbeats 1000000 in
theorem keepBools_c (A B : Option Addr) (c d n m : Nat) (xs ys : List Bool) (w : World) (hr : Kd.bool.C w A n xs) (hs : Kd.bool.C w B m ys) :
    Calls Try.prog 29 #[.slice A n c, .slice B m d] w fun e w' => e = .returned (.bool (decide (xs = ys))) ∧ Below w.heap.size w w' := by
  have hn := C_len hr
  have hm' := C_len hs
  subst hn hm'
  have hm := C_max hr
  have hm2 := C_max hs
  have HR := Aside0.mk hr
  have HS := Aside0.mk hs
  clear hr hs
  by_cases hl : xs.length = ys.length
  · have hlb : ((xs.length : Int) != (ys.length : Int)) = false := by rw [hl]; simp
    have HL := Lib.hid hl
    clear hl
    go_enter Try.func29, Try.ntmps29
    go_wp2
    go_loopw [5] (fun i wr => ∃ k : Nat, k ≤ xs.length ∧ i = .int .i64 k ∧ Aside0 (∀ j (hj : j < xs.length), j < k → xs[j] = ys[j]'(by have := HL.out; omega)) ∧ Aside0 (Below w.heap.size w wr)) (fun i _ => xs.length - (intOf i).toNat)
    case atStart => exact ⟨0, Nat.zero_le _, rfl, ⟨by intro j hj h; omega⟩, ⟨Below.refl _ _⟩⟩
    case round =>
      obtain ⟨k, hk, rfl, HI, HB⟩ := hrel
      by_cases hlt : k < xs.length
      · have hlt2 : k < ys.length := by have := HL.out; omega
        obtain ⟨ad, ead, hx⟩ := at_bool (Kd.C_below HR.out HB.out) k hlt
        obtain ⟨bd, ebd, hy⟩ := at_bool (Kd.C_below HS.out HB.out) k hlt2
        cases ead
        cases ebd
        have i1 : (0 : Int) ≤ (k : Int) := by omega
        have i2 : (k : Int) < (xs.length : Int) := by omega
        have i3 : (k : Int) < (ys.length : Int) := by omega
        cases hp : (!((xs[k]'hlt) == (ys[k]'hlt2)))
        · have HE : Aside0 ((xs[k]'hlt) = (ys[k]'hlt2)) := ⟨by simpa using hp⟩
          go_wp2
          go_quiet (fail)
          go_wp2
          go_roundw
          case rel => exact ⟨k + 1, by omega, by go_num, ⟨fun j hj hjk => by
            rcases Nat.lt_or_ge j k with h | h
            · exact HI.out j hj h
            · obtain rfl : j = k := by omega
              exact HE.out⟩, ⟨below_drewN HB.out _⟩⟩
          case measure => simp [intOf]; omega
        · have HE : Aside0 (¬ (xs[k]'hlt) = (ys[k]'hlt2)) := ⟨by simpa using hp⟩
          go_wp2
          go_quiet (fail)
          go_wp2
          go_ret
          exact ⟨ret_bool (by symm; rw [decide_eq_false_iff_not]; rintro rfl; exact HE.out rfl), below_drewN HB.out _⟩
      · have HE : Aside0 (xs = ys) := ⟨List.ext_getElem HL.out (fun j h1 h2 => HI.out j h1 (by omega))⟩
        go_wp2
        go_ret
        exact ⟨ret_bool (by symm; rw [decide_eq_true_iff]; exact HE.out), HB.out⟩
  · have hlb : ((xs.length : Int) != (ys.length : Int)) = true := by simp; omega
    have HE : Aside0 (¬ xs = ys) := ⟨fun h => hl (by rw [h])⟩
    go_enter Try.func29, Try.ntmps29
    go_wp2
    go_ret
    exact ⟨ret_bool (by symm; rw [decide_eq_false_iff_not]; exact HE.out), Below.refl _ _⟩
end Go.Proofs.Ytphmmppmhphgeaa
