/- Rows of bytes that come in as arguments: each is one. -/
import Derived.Test.YtdpdbgaoaibafaaJE
set_option linter.unusedVariables false
set_option linter.unusedSimpArgs false
namespace Go.Proofs.Ytdpdbgaoaibafaa
open Go.RowKit Go.Proofs.YtdpdbgaoaibafaaW.PrintWords Go.Deep
abbrev kU8 : Kd Int:=Kd.int .u8
section
variable {H : Type} {enc : TypeId × Value → H} {w : World} {base : Nat} {spare : Nat → Bool} {held : Bool} {fuel : Nat}
theorem u8s_openS {v : Value} {x : DataW H × List MemPlace} (h : DataW.trod enc Try.prog w base spare held fuel 59 [v] = some x) : ∃ A n c xs,v = .slice A n c ∧ n = xs.length ∧ n ≤ c ∧ kU8.C w A n xs ∧ ∀ y ∈ xs,0 ≤ y ∧ y ≤ 255 :=
  C_openP (d:=kU8) (fun y : Int => 0 ≤ y ∧ y ≤ 255) Try.underlying59 (by kernel_rfl) (fun n cs y hy => by
    obtain ⟨s,rfl,_,hs⟩:=DataW.trod_int Try.underlying5 hy
    exact ⟨s,rfl,bounds_u8 hs⟩) h
end
end Go.Proofs.Ytdpdbgaoaibafaa
