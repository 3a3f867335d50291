/- The wakes of law 03: they answer true. -/
import Derived.Test.YtphmmppmhphgeaaE1
import Derived.Test.YtphmmppmhphgeaaE2
set_option linter.unusedVariables false
set_option linter.unusedSimpArgs false
namespace Go.Proofs.Ytphmmppmhphgeaa
open Go.RowKit Go.Proofs.YtphmmppmhphgeaaW.PrintWords

/-- What the wakes have read so far lies where it was. -/
structure WK (w : World) (b1 b2 b3 : Nat) (a1 a2 a3 : Addr) (c1 c2 c3 : Nat) : Prop where
  g : RepG w wakeG (some a1) (some a2) (some a3) c1 c2 c3
  p1 : w.heap[b1]? = some (.cells #[.slice (some a1) 2 c1, .slice (some a2) 2 c2, .slice (some a3) 3 c3] 25 (0, 0))
  q1 : w.heap[b1 + 1]? = some (.cells #[.int .i64 0, .int .i64 0] 30 (0, 0))
  q2 : w.heap[b2 + 1]? = some (.cells #[.int .i64 13, .int .i64 4] 30 (0, 0))
  q3 : w.heap[b3 + 1]? = some (.cells #[.int .i64 12, .int .i64 7] 30 (0, 0))
theorem WK.below_ {w w1 : World} {b1 b2 b3 : Nat} {a1 a2 a3 : Addr} {c1 c2 c3 : Nat} (h : WK w b1 b2 b3 a1 a2 a3 c1 c2 c3) (hb : Below w.heap.size w w1) : WK w1 b1 b2 b3 a1 a2 a3 c1 c2 c3 :=
  ⟨h.g.below_ hb, blk_below h.p1 hb, blk_below h.q1 hb, blk_below h.q2 hb, blk_below h.q3 hb⟩
theorem WK.reads {w : World} {b1 b2 b3 : Nat} {a1 a2 a3 : Addr} {c1 c2 c3 : Nat} (h : WK w b1 b2 b3 a1 a2 a3 c1 c2 c3) : ∃ B0 d0 B1 d1 B2 d2,
    w.cell? ⟨b1, 0, none⟩ = some (.slice (some a1) 2 c1) ∧ w.cell? ⟨b1, 1, none⟩ = some (.slice (some a2) 2 c2) ∧ w.cell? ⟨b1, 2, none⟩ = some (.slice (some a3) 3 c3) ∧ w.cell? ⟨b1 + 1, 0, none⟩ = some (.int .i64 0) ∧
    w.cell? ⟨b2 + 1, 0, none⟩ = some (.int .i64 13) ∧ w.cell? ⟨b2 + 1, 1, none⟩ = some (.int .i64 4) ∧ w.cell? ⟨b3 + 1, 0, none⟩ = some (.int .i64 12) ∧ w.cell? ⟨b3 + 1, 1, none⟩ = some (.int .i64 7) ∧
    w.cell? a1 = some (.string ⟨#[97]⟩) ∧ w.cell? ⟨a2.block, a2.off + 1, none⟩ = some (.string ⟨#[65]⟩) ∧
    w.cell? ⟨a3.block, a3.off + 1, none⟩ = some (.slice B0 2 d0) ∧ kInt.C w B0 2 [0, 2] ∧
    w.cell? ⟨a3.block, a3.off + 2 + 1, none⟩ = some (.slice B1 1 d1) ∧ kInt.C w B1 1 [3] ∧
    w.cell? ⟨a3.block, a3.off + 4, none⟩ = some (.int .i64 3) ∧ w.cell? ⟨a3.block, a3.off + 4 + 1, none⟩ = some (.slice B2 2 d2) ∧ kInt.C w B2 2 [1, 0] := by
  obtain ⟨x1, e1, h1⟩ := at_str h.g.terms 0 (by decide)
  obtain ⟨x2, e2, h2⟩ := at_str h.g.names 1 (by decide)
  obtain ⟨x3, B0, d0, e3, _, h3, _, k3⟩ := at_rule h.g.rules 0 (by decide)
  obtain ⟨x4, B1, d1, e4, _, h4, _, k4⟩ := at_rule h.g.rules 1 (by decide)
  obtain ⟨x5, B2, d2, e5, h5, h6, _, k6⟩ := at_rule h.g.rules 2 (by decide)
  injection e1 with e1; injection e2 with e2; injection e3 with e3; injection e4 with e4; injection e5 with e5
  subst e1 e2 e3 e4 e5
  have z1 : a1.add 0 = a1 := by simp [Addr.add]
  have z3 : a3.add (0 * 2) = a3 := by simp [Addr.add]
  have h1' : w.cell? a1 = some (.string ⟨#[97]⟩) := (congrArg w.cell? z1).symm.trans h1
  have h3' : w.cell? ⟨a3.block, a3.off + 1, none⟩ = some (.slice B0 2 d0) := (congrArg (fun a : Addr => w.cell? ⟨a.block, a.off + 1, none⟩) z3).symm.trans h3
  exact ⟨B0, d0, B1, d1, B2, d2, (blk_cell h.p1 0).trans rfl, (blk_cell h.p1 1).trans rfl, (blk_cell h.p1 2).trans rfl, (blk_cell h.q1 0).trans rfl, (blk_cell h.q2 0).trans rfl, (blk_cell h.q2 1).trans rfl, (blk_cell h.q3 0).trans rfl, (blk_cell h.q3 1).trans rfl, h1', h2, h3', k3, h4, k4, h5, h6, k6⟩
theorem blk_two (w : World) (o o' : Obj) : ((w.alloc o).alloc o').heap[w.heap.size + 1]? = some o' := by
  have h := blk_new (w.alloc o) o'
  rw [show (w.alloc o).heap.size = w.heap.size + 1 by simp] at h
  exact h
theorem wake_rep {w : World} {A1 A2 A3 : Option Addr} {c1 c2 c3 : Nat} (h : RepG w wakeG A1 A2 A3 c1 c2 c3) : ∃ a1 a2 a3, A1 = some a1 ∧ A2 = some a2 ∧ A3 = some a3 := by
  obtain ⟨x1, e1, _⟩ := at_str h.terms 0 (by decide)
  obtain ⟨x2, e2, _⟩ := at_str h.names 1 (by decide)
  obtain ⟨x3, B0, d0, e3, _⟩ := at_rule h.rules 0 (by decide)
  exact ⟨x1, x2, x3, e1, e2, e3⟩
end Go.Proofs.Ytphmmppmhphgeaa
