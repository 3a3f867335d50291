/- Rows of whole numbers that come in as arguments: each is one. -/
import Derived.Test.YtdpdbgaoaibafaaJE
set_option linter.unusedVariables false
set_option linter.unusedSimpArgs false
namespace Go.Proofs.Ytdpdbgaoaibafaa
open Go.RowKit Go.Proofs.YtdpdbgaoaibafaaW.PrintWords Go.Deep
section
variable {H : Type} {enc : TypeId × Value → H} {w : World} {base : Nat} {spare : Nat → Bool} {held : Bool} {fuel : Nat}
theorem ints_openS {v : Value} {x : DataW H × List MemPlace} (h : DataW.trod enc Try.prog w base spare held fuel 46 [v] = some x) : ∃ A n c xs,v = .slice A n c ∧ n = xs.length ∧ n ≤ c ∧ kInt.C w A n xs ∧ ∀ y ∈ xs,-9223372036854775808 ≤ y ∧ y ≤ 9223372036854775807 :=
  C_openP (d:=kInt) (fun y : Int => -9223372036854775808 ≤ y ∧ y ≤ 9223372036854775807) Try.underlying46 (by kernel_rfl) (fun n cs y hy => by
    obtain ⟨s,rfl,_,hs⟩:=DataW.trod_int Try.underlying3 hy
    exact ⟨s,rfl,bounds_i64 hs⟩) h
end
end Go.Proofs.Ytdpdbgaoaibafaa
