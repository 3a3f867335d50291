/- The contract of the document's answer for a symbol's name. -/
import Derived.Test.YtphmmppmhphgeaaT2
import Derived.Test.YtphmmppmhphgeaaP1
set_option linter.unusedVariables false
set_option linter.unusedSimpArgs false
namespace Go.Proofs.Ytphmmppmhphgeaa
open Go.RowKit Go.Proofs.YtphmmppmhphgeaaW.PrintWords Go.Proofs.YtphmmppmhphgeaaW.PrintLast

def Name1End : Option ByteArray → Ending → Prop
  | none, e => e = .returned (.agg #[.string ⟨#[]⟩, .bool false])
  | some x, e => e = .returned (.agg #[.string x, .bool true])
theorem name1_none {o : Option ByteArray} (h : o = none) : Name1End o (.returned (.agg #[.string ⟨#[]⟩, .bool false])) := by subst h; rfl
theorem name1_some {o : Option ByteArray} {x : ByteArray} (h : o = some x) : Name1End o (.returned (.agg #[.string x, .bool true])) := by subst h; rfl
set_option maxRecDepth 100000 in
set_option maxHeartbeats 2000000 in
theorem name1_c (g : Gram) (A1 A2 A3 : Option Addr) (c1 c2 c3 : Nat) (sym : Int) (w : World) (hg : RepG w g A1 A2 A3 c1 c2 c3) (hsz : g.terms.length + g.names.length ≤ 4000000000000000) (hi : -9223372036854775808 ≤ sym ∧ sym ≤ 9223372036854775807) :
    Calls Try.prog 21 #[.agg #[.slice A1 g.terms.length c1, .slice A2 g.names.length c2, .slice A3 g.rules.length c3], .int .i64 sym] w fun e w' => Name1End (nameF g sym) e ∧ Below w.heap.size w w' := by
  obtain ⟨wg, hwg⟩ : ∃ wg : World, wg = w.alloc (.cells #[.slice A1 g.terms.length c1, .slice A2 g.names.length c2, .slice A3 g.rules.length c3] 25 (0, 0)) := ⟨_, rfl⟩
  have HB : Aside0 (∀ o, Below w.heap.size w (wg.alloc o)) := ⟨fun o => by rw [hwg]; exact ((Below.refl w.heap.size w).alloc (Nat.le_refl _) _).alloc (by simp) _⟩
  have HT : Aside0 (∀ o, (wg.alloc o).heap[w.heap.size + 1]? = some o) := ⟨fun o => by
    have h := blk_new wg o
    rw [show wg.heap.size = w.heap.size + 1 by rw [hwg]; simp] at h
    exact h⟩
  have HG := Aside0.mk hg
  have HG2 : Aside0 (RepG w g A1 A2 A3 c1 c2 c3) := ⟨hg⟩
  clear hg
  by_cases h1 : sym < 0
  · have HE : Aside0 (nameF g sym = none) := ⟨by unfold nameF; rw [if_pos h1]⟩
    go_enter Try.func21, Try.ntmps21
    go_wp2
    simp only [← hwg]
    exact bodyPost_ret (results_name1 rfl (HT.out _)) rfl ⟨name1_none HE.out, HB.out _⟩
  · obtain ⟨k, rfl⟩ := Int.eq_ofNat_of_zero_le (by omega : 0 ≤ sym)
    by_cases h2 : k < g.terms.length + g.names.length
    · by_cases h3 : k < g.terms.length
      · obtain ⟨ad, ead, hx⟩ := at_str (Kd.C_below HG.out.terms (HB.out (.cells #[.string ⟨#[]⟩, .bool false] 40 (0, 0)))) k h3
        rw [hwg] at hx
        cases ead
        have HE : Aside0 (nameF g (k : Int) = some (g.terms[k]'h3)) := ⟨by unfold nameF; rw [if_neg h1, if_pos (by omega), Int.toNat_natCast, List.getElem?_eq_getElem h3]⟩
        go_enter Try.func21, Try.ntmps21
        go_wp2
        simp only [← hwg]
        exact bodyPost_ret (results_name1 rfl (HT.out _)) rfl ⟨name1_some HE.out, HB.out _⟩
      · obtain ⟨m, rfl⟩ : ∃ m, k = m + g.terms.length := ⟨k - g.terms.length, by omega⟩
        have h4 : m < g.names.length := by omega
        obtain ⟨ad, ead, hx⟩ := at_str (Kd.C_below HG.out.names (HB.out (.cells #[.string ⟨#[]⟩, .bool false] 40 (0, 0)))) m h4
        rw [hwg] at hx
        cases ead
        have e1 : IntKind.i64.wrap ((↑(m + g.terms.length) : Int) - (g.terms.length : Int)) = (m : Int) := by rw [IntWalk.i64_in _ (by omega)]; omega
        have HE : Aside0 (nameF g ((m + g.terms.length : Nat) : Int) = some (g.names[m]'h4)) := ⟨by unfold nameF; rw [if_neg h1, if_neg (by omega), Int.toNat_natCast, Nat.add_sub_cancel, List.getElem?_eq_getElem h4]⟩
        go_enter Try.func21, Try.ntmps21
        go_wp2
        simp only [← hwg]
        exact bodyPost_ret (results_name1 rfl (HT.out _)) rfl ⟨name1_some HE.out, HB.out _⟩
    · have HE : Aside0 (nameF g (k : Int) = none) := ⟨by unfold nameF; rw [if_neg h1, if_neg (by omega), Int.toNat_natCast, List.getElem?_eq_none (by omega)]⟩
      go_enter Try.func21, Try.ntmps21
      go_wp2
      simp only [← hwg]
      exact bodyPost_ret (results_name1 rfl (HT.out _)) rfl ⟨name1_none HE.out, HB.out _⟩
end Go.Proofs.Ytphmmppmhphgeaa
