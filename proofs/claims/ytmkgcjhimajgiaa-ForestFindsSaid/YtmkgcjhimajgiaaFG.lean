/- Contracts of functions of the program, and plain laws (texts P33, P34), joined: each theorem says what it proves. -/
import Derived.Test.YtmkgcjhimajgiaaFI
import Derived.Test.YtmkgcjhimajgiaaFN
set_option linter.unusedVariables false
set_option linter.unusedSimpArgs false
namespace Go.Proofs.Ytmkgcjhimajgiaa
open Go.RowKit Go.Proofs.YtmkgcjhimajgiaaW.PrintWords Go.Proofs.YtmkgcjhimajgiaaW.PrintLast Go.Conc

/-- What has been told when symbol number k,place i,and t ends are behind. -/
noncomputable def toldN (g : Gram) (w : List Int) (k i t : Nat) : List SpN:=spansL g w k ++ rowI g w (g.terms.length + k) i ++ rowJ g w (g.terms.length + k) i t
noncomputable def splitB (g : Gram) (w : List Int) (r d i j k : Nat) : Bool:=partV g w r ((d - 1 : Nat) : Int) i k && symV g w ((rightR g r).getD (d - 1) 0) k j
noncomputable def anyK (g : Gram) (w : List Int) (r d i j m : Nat) : Bool:=(List.range m).any fun t => splitB g w r d i j (i + t)
end Go.Proofs.Ytmkgcjhimajgiaa


set_option linter.unusedVariables false
set_option linter.unusedSimpArgs false
namespace Go.Proofs.Ytmkgcjhimajgiaa
open Go.RowKit Go.Proofs.YtmkgcjhimajgiaaW.PrintWords Go.Proofs.YtmkgcjhimajgiaaW.PrintLast Go.Conc

noncomputable def ruleV (g : Gram) (w : List Int) (s i j : Nat) (r : Nat) : Bool:=decide (leftR g r = (s : Int)) && partV g w r (rightR g r).length i j
noncomputable def anyR (g : Gram) (w : List Int) (s i j m : Nat) : Bool:=(List.range m).any fun r => ruleV g w s i j r
def Itm.up (i : Nat) : Itm → Itm
  | .sym s a b => .sym s (i + a) (i + b)
  | .part r d a b => .part r d (i + a) (i + b)
theorem piv_mem {g : Gram} {w : List Int} {r d i j : Nat} {x : Int} (h : x ∈ pivF g w r d i j) : ∃ k : Nat,x = k ∧ i ≤ k ∧ k ≤ j ∧ partV g w r ((d - 1 : Nat) : Int) i k = true ∧ symV g w ((rightR g r).getD (d - 1) 0) k j = true:=by
  unfold pivF at h
  split at h
  · simp only [Int.toNat_natCast] at h
    unfold pivN at h
    obtain ⟨k,hk,rfl⟩:=List.mem_map.1 h
    obtain ⟨h1,h2⟩:=List.mem_filter.1 hk
    obtain ⟨t,ht,rfl⟩:=List.mem_map.1 h1
    unfold isPiv at h2
    rw [Bool.and_eq_true] at h2
    exact ⟨i + t,rfl,by omega,by have:=List.mem_range.1 ht;omega,h2.2,h2.1⟩
  · cases h
end Go.Proofs.Ytmkgcjhimajgiaa

