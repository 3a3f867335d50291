/- What is read of the laws' arguments: rows of texts, of numbers, of rules; a grammar; two numbers. -/
import Derived.Test.YtphmmppmhphgeaaB5
import Derived.Deep.Slices
import Derived.Lib.SmallJoins
import Derived.ProofKit
import Derived.OpenShut
import Derived.ShutString
import Derived.ChangeOld
set_option linter.unusedVariables false
set_option linter.unusedSimpArgs false
namespace Go.Proofs.Ytphmmppmhphgeaa
open Go.RowKit Go.Proofs.YtphmmppmhphgeaaW.PrintWords Go.Deep

section
variable {H : Type} {enc : TypeId × Value → H} {w : World} {base : Nat} {spare : Nat → Bool} {held : Bool} {fuel : Nat}
set_option maxRecDepth 100000 in
/-- A row that is read, whatever its elements. -/
theorem C_open {α : Type} [Inhabited α] {d : Kd α} {t e : TypeId} {v : Value} {x : DataW H × List MemPlace} (ht : Try.prog.underlying t = some (.slice e)) (hsz : Try.prog.cellsOf e = d.sz)
    (elem : ∀ n cs y, DataW.trod enc Try.prog w base spare held n e cs = some y → ∃ x, d.K w x cs) (h : DataW.trod enc Try.prog w base spare held fuel t [v] = some x) :
    ∃ A n c xs, v = .slice A n c ∧ n = xs.length ∧ n ≤ c ∧ d.C w A n xs := by
  rcases open_slice ht h with ⟨hcs, _⟩ | ⟨a, len, cap, m, n, D, Pl, hcs, _, hl, hcap, hm, _, hx⟩
  · injection hcs with hcs _
    exact ⟨none, 0, 0, [], hcs, rfl, Nat.le_refl _, rfl, by omega, fun h => by omega⟩
  · injection hcs with hcs _
    have hlm : len ≤ m := by rw [hm]; split <;> omega
    obtain ⟨X, hX⟩ := choose_lt (α := α) (n := len) (p := fun i x => ∃ cs, w.cells? base (a.add (i * Try.prog.cellsOf e)) (Try.prog.cellsOf e) = some cs ∧ d.K w x cs) (fun i hi => by
      obtain ⟨cs, h1, h2⟩ := hx i (by omega)
      obtain ⟨x, h3⟩ := elem _ _ _ h2
      exact ⟨x, cs, h1, h3⟩)
    have hmax : len ≤ 9223372036854775807 := by simp only [maxLen] at hcap; omega
    refine ⟨some a, len, cap, (List.range len).map X, hcs, by simp, hl, by simp, hmax, fun _ => ⟨a, rfl, fun j p hj => ?_⟩⟩
    have hjl : j < len := by
      have := (List.getElem?_eq_some_iff.1 hj).1
      simpa using this
    have hp : p = X j := by
      rw [List.getElem?_map, List.getElem?_range hjl] at hj
      injection hj with hj
      exact hj.symm
    subst hp
    obtain ⟨cs, h1, h2⟩ := hX j hjl
    rw [hsz] at h1
    obtain ⟨_, hlen, hc⟩ := World.cells?_some h1
    refine ⟨cs, hlen, h2, fun i u hu => ?_⟩
    have hi : i < d.sz := by rw [← hlen]; exact (List.getElem?_eq_some_iff.1 hu).1
    rw [← Addr.add_add, hc i hi]
    exact hu
theorem strs_open {v : Value} {x : DataW H × List MemPlace} (h : DataW.trod enc Try.prog w base spare held fuel 22 [v] = some x) : ∃ A n c xs, v = .slice A n c ∧ n = xs.length ∧ n ≤ c ∧ kStr.C w A n xs :=
  C_open Try.underlying22 (by kernel_rfl) (fun n cs y hy => by
    obtain ⟨s, rfl, _⟩ := DataW.trod_string Try.underlying9 hy
    exact ⟨s, rfl⟩) h
theorem ints_open {v : Value} {x : DataW H × List MemPlace} (h : DataW.trod enc Try.prog w base spare held fuel 54 [v] = some x) : ∃ A n c xs, v = .slice A n c ∧ n = xs.length ∧ n ≤ c ∧ kInt.C w A n xs :=
  C_open Try.underlying54 (by kernel_rfl) (fun n cs y hy => by
    obtain ⟨s, rfl, _⟩ := DataW.trod_int Try.underlying3 hy
    exact ⟨s, rfl⟩) h
set_option maxRecDepth 100000 in
theorem rules_open {v : Value} {x : DataW H × List MemPlace} (h : DataW.trod enc Try.prog w base spare held fuel 23 [v] = some x) : ∃ A n c xs, v = .slice A n c ∧ n = xs.length ∧ n ≤ c ∧ kRule.C w A n xs :=
  letI : Inhabited Rule := ⟨⟨0, []⟩⟩
  C_open Try.underlying23 (by kernel_rfl) (fun n cs y hy => by
    obtain ⟨y0, y1, m, _, hl, h0, h1⟩ := Go.ChangeShapes.trod_struct2 Try.underlying56 hy
    have hl2 : cs.length = 2 := hl.trans (by kernel_rfl)
    match cs, hl2 with
    | [u0, u1], _ =>
      have h0' : DataW.trod enc Try.prog w base spare held m 3 [u0] = some y0 := h0
      have h1' : DataW.trod enc Try.prog w base spare held m 54 [u1] = some y1 := h1
      obtain ⟨z, hz, _⟩ := DataW.trod_int Try.underlying3 h0'
      injection hz with hz _
      subst hz
      obtain ⟨A, k, c, xs, rfl, rfl, hc, hC⟩ := ints_open h1'
      exact ⟨⟨z, xs⟩, [.int .i64 z], [.slice A xs.length c], rfl, rfl, ⟨A, c, rfl, hc, hC⟩⟩) h
set_option maxRecDepth 100000 in
theorem gram_open {v : Value} {dd : DataW H} {p : List MemPlace} {r : Reach} {b0 : Nat} (hv : Value.okWide Try.prog w r b0 25 v) (h : DataW.Trod enc Try.prog w base spare held 25 v dd p) :
    ∃ g A1 A2 A3 c1 c2 c3, v = .agg #[.slice A1 g.terms.length c1, .slice A2 g.names.length c2, .slice A3 g.rules.length c3] ∧ RepG w g A1 A2 A3 c1 c2 c3 := by
  obtain ⟨v0, v1, v2, y0, y1, y2, n, rfl, _, _, h0, h1, h2⟩ := Go.Joins.open_agg3 Try.underlying25 (by kernel_rfl) (by kernel_rfl) hv h
  obtain ⟨A1, n1, c1, ts, rfl, rfl, hc1, hC1⟩ := strs_open h0
  obtain ⟨A2, n2, c2, ns, rfl, rfl, hc2, hC2⟩ := strs_open h1
  obtain ⟨A3, n3, c3, rs, rfl, rfl, hc3, hC3⟩ := rules_open h2
  exact ⟨⟨ts, ns, rs⟩, A1, A2, A3, c1, c2, c3, rfl, hC1, hC2, hC3, hc1, hc2, hc3⟩
end
end Go.Proofs.Ytphmmppmhphgeaa
