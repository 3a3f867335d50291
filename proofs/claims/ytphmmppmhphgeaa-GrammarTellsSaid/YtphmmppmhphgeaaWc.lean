/- Cuts of slices that are read. -/
import Derived.Test.YtphmmppmhphgeaaWd
set_option linter.unusedVariables false
set_option linter.unusedSimpArgs false
namespace Go.Proofs.Ytphmmppmhphgeaa
open Go.RowKit Go.Proofs.YtphmmppmhphgeaaW.PrintWords

theorem cut_from {P : Program} (t e : TypeId) (kl : IntKind) {i : TypeInfo} (ht : P.underlying t = some (.slice e)) (hi : P.info? e = some i) (size : Nat) (hsz : i.size = size) (A : Option Addr) (n c : Nat) (lo : Int) (h0 : 0 ≤ lo) (h1 : lo ≤ n) :
    ∀ W : World, (Instr.slice t (.slice A n c) (some (.int kl lo)) none none).run P W = .ok (.slice (if c = lo.toNat then A else A.map (·.add (lo.toNat * size))) (n - lo.toNat) (c - lo.toNat)) W := by
  intro W
  have hel : P.elem t = e := by simp [Program.elem, ht]
  have hu : P.underlying t = some (.slice (P.elem t)) := by rw [hel]; exact ht
  rw [run_slice_l W t A n c hu kl lo h0 h1, hel]
  simp [sizeOf, typeInfo, hi, hsz, sliced, Result.andThen]
theorem cutC_from {α : Type} (d : Kd α) {t e : TypeId} {z : Option Value} {bytes : Nat} (ht : Try.prog.underlying t = some (.slice e)) (hinfo : (Try.prog.info? e).map (fun i => (i.zero, i.size, i.bytes)) = some (z, d.sz, bytes)) {w : World} {A : Option Addr} {c n : Nat} {xs : List α}
    (h : d.C w A n xs) (hc : n ≤ c) (lo : Nat) (hlo : lo ≤ n) :
    ∃ A', (∀ W : World, (Instr.slice t (.slice A n c) (some (.int .i64 (lo : Int))) none none).run Try.prog W = .ok (.slice A' (n - lo) (c - lo)) W) ∧ d.C w A' (n - lo) (xs.drop lo) := by
  obtain rfl := C_len h
  obtain ⟨i0, hi, hzz⟩ := Option.map_eq_some_iff.1 hinfo
  simp only [Prod.mk.injEq] at hzz
  refine ⟨if c = lo then A else A.map (·.add (lo * d.sz)), fun W => ?_, ?_⟩
  · have := cut_from t e .i64 ht hi d.sz hzz.2.1 A xs.length c (lo : Int) (by omega) (by omega) W
    rwa [Int.toNat_natCast] at this
  · have := Kd.C_drop h hlo hc
    rwa [List.length_drop] at this
end Go.Proofs.Ytphmmppmhphgeaa
