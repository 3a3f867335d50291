/- The contracts of the grammar's makers: what is added, what is checked. -/
import Derived.Test.YtphmmppmhphgeaaB5
import Derived.Test.YtphmmppmhphgeaaC4
set_option linter.unusedVariables false
set_option linter.unusedSimpArgs false
namespace Go.Proofs.Ytphmmppmhphgeaa
open Go.RowKit Go.Proofs.YtphmmppmhphgeaaW.PrintWords

/-- A list with a text, if it has it not. -/
def addF (l : List ByteArray) (s : ByteArray) : List ByteArray := if (l.any fun y => decide (s = y)) = true then l else l ++ [s]
theorem addF_le (l : List ByteArray) (s : ByteArray) : l.length ≤ (addF l s).length ∧ (addF l s).length ≤ l.length + 1 := by
  unfold addF
  split <;> simp

set_option maxRecDepth 100000 in
set_option maxHeartbeats 1000000 in
theorem added_c (w0 W : World) (base : Nat) (ok : Nat → Prop) (v : Value) (l : List ByteArray) (s : ByteArray) (HR : kStr.R 9 W base ok v l) (HB : Below base w0 W) (hbase : base ≤ W.heap.size) (hl : l.length ≤ 100000) (hfresh : ∀ k, W.heap.size ≤ k → ok k) :
    Calls Try.prog 47 #[v, .string s] W fun e w' => ∃ v', e = .returned v' ∧ Appd kStr 9 w0 W base ok v (addF l s) v' w' := by
  obtain ⟨A, c, rfl⟩ := Kd.R_slice HR
  obtain ⟨_, _, hC⟩ := Kd.R_reads' HR
  have HC := Aside0.mk hC
  have H := Aside0.mk HR
  have HBB := Aside0.mk HB
  have HL := Aside0.mk hl
  have HF := Aside0.mk hfresh
  have HBA := Aside0.mk hbase
  clear hC HR HB hl hfresh hbase
  cases hp : (l.any fun y => decide (s = y)) with
  | true =>
    go_enter Try.func47, Try.ntmps47
    go_wp2_with (go_at_call 75; refine (containsStr_c _ _ _ _ _ HC.out).mono ?_; rw [hp]; rintro e w' ⟨rfl, rfl⟩)
    go_ret
    refine ⟨_, rfl, ?_⟩
    have hf : addF l s = l := by unfold addF; rw [hp]; rfl
    rw [hf]
    exact ⟨H.out, HBB.out, World.grownBy.refl _ _, Or.inl rfl⟩
  | false =>
    go_enter Try.func47, Try.ntmps47
    go_wp2_with (first | (go_at_call 75; refine (containsStr_c _ _ _ _ _ HC.out).mono ?_; rw [hp]; rintro e w' ⟨rfl, rfl⟩) | (at_builtin; refine app_str (w0 := w0) (base := base) (ok := ok) (p := s) rfl rfl H.out HBB.out HBA.out (by have := HL.out; omega) HF.out rfl (by simp [Act.eval]) ?_; intro v3 w3 A3; obtain ⟨Av3, cv3, rfl⟩ := A3.shape; have HA3 := Aside0.mk A3; clear A3))
    go_ret
    refine ⟨_, rfl, ?_⟩
    have hf : addF l s = l ++ [s] := by unfold addF; rw [hp]; rfl
    rw [hf]
    exact HA3.out

set_option maxRecDepth 100000 in
theorem check_ok (p : Int) (W : World) : Calls Try.prog 45 #[.agg #[.int .i64 0, .int .i64 p]] W fun e w' => e = .returned (.tuple #[]) ∧ Below W.heap.size W w' := by
  have HB := Aside0.mk ((Below.refl W.heap.size W).alloc (Nat.le_refl _) (.cells #[.int .i64 0, .int .i64 p] 30 (0, 0)))
  go_enter Try.func45, Try.ntmps45
  go_wp2
  refine bodyPost_end (results_none rfl _ _ _) rfl ?_
  exact ⟨rfl, HB.out⟩
set_option maxRecDepth 100000 in
theorem check_bad (a p : Int) (ha : a ≠ 0) (W : World) : Calls Try.prog 45 #[.agg #[.int .i64 a, .int .i64 p]] W fun e w' => e = .panicked (faultV a p) ∧ Below W.heap.size W w' := by
  have HB := Aside0.mk ((Below.refl W.heap.size W).alloc (Nat.le_refl _) (.cells #[.int .i64 a, .int .i64 p] 30 (0, 0)))
  go_enter Try.func45, Try.ntmps45
  go_wp2
  exact ⟨rfl, rfl, HB.out⟩
end Go.Proofs.Ytphmmppmhphgeaa
