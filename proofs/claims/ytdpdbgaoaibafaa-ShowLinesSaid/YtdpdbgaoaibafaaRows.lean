/-
  No cell of these rows narrows 'for every input' (looked for: loops, veiled, ifaces, maps, wideKeys, modest, calm, conditions, laid).
  DERIVED. THE GIVEN ROWS OF THIS SEAT. 12 by the template 'for every input the law returns true; each argument reads behind the call as it read before'; 0 by the template 'total and deterministic' (their statements: YtdpdbgaoaibafaaTotals.lean).
  GIVEN WITH THE SEED: the statements are not yours to turn. If you find one false, say at which input.
  Laid BY PROGRAM, IN A SANDBOX (cutbox-rows.mjs): the forced cells as the released guide's own fill.sh prints them over the translation 2bc2d2a5c0f972f5… (all of the seat's roots in one cut). By AI agents, Wed Nov 11 2026. No macro, syntax, notation, axiom, sorry.
-/
import Derived.Test.YtdpdbgaoaibafaaChecked
import GoSem.Claim
import GoSem.ClaimJoined
import GoSem.ClaimMapViews
import Derived.JoinedTies
import Derived.KernelRfl
namespace Go.Proofs.Ytdpdbgaoaibafaa
/- THE CELL 'sum', in the pinned program and in every row, IS THE sha256 OF THE DUMP (.gsa) THAT YtdpdbgaoaibafaaProg.lean LOADS. Nothing in Lean hashes anything: it is a label: what it is worth is what the hold of that sum in a sandbox is worth. -/
noncomputable def Try.pinned : Pinned := { name := "ytdpdbgaoaibafaa", sum := "2bc2d2a5c0f972f5f62d5ec591b5eb86cc8b0a9439e95137bfd9803cd9e4f1f5", checked := Try.checked }
namespace Rows
def none {H : Type} : Left H := { results := [], args := [] }

/-- 'topiaristlaw04.ShowTells': WHATEVER THE INPUT: true; the input reads as it did. -/
def showTellsSpec : ChangeSpec := { name := "showTells", fn := fun _ => fun
  | [d1, d2] => { results := [.lit (.bool true)], args := [d1, d2] }
  | _ => none }
def showTellsRow : OpenClaim := { program := "ytdpdbgaoaibafaa", sum := "2bc2d2a5c0f972f5f62d5ec591b5eb86cc8b0a9439e95137bfd9803cd9e4f1f5", func := "topiarist/topiaristlaw04.ShowTells", spec := "showTells", inPlace := ["internal/abi.NoEscape"], unfollowed := true, recurses := true, apart := false }
def ShowTellsSaid : Prop := showTellsRow.holds Try.pinned (OpenSpec.ofChange showTellsSpec)

/-- ITS FALSE NEIGHBOUR: 'it returns false'. Refute it at one input. -/
def showTellsWrong : ChangeSpec := { name := "showTells", fn := fun _ => fun
  | [d1, d2] => { results := [.lit (.bool false)], args := [d1, d2] }
  | _ => none }
def ShowTellsWrongFalsely : Prop := showTellsRow.holds Try.pinned (OpenSpec.ofChange showTellsWrong)

/-- 'topiaristlaw04.ShowBack': WHATEVER THE INPUT: true; the input reads as it did. -/
def showBackSpec : ChangeSpec := { name := "showBack", fn := fun _ => fun
  | [d1, d2] => { results := [.lit (.bool true)], args := [d1, d2] }
  | _ => none }
def showBackRow : OpenClaim := { program := "ytdpdbgaoaibafaa", sum := "2bc2d2a5c0f972f5f62d5ec591b5eb86cc8b0a9439e95137bfd9803cd9e4f1f5", func := "topiarist/topiaristlaw04.ShowBack", spec := "showBack", inPlace := ["internal/abi.NoEscape"], unfollowed := true, recurses := true, apart := false }
def ShowBackSaid : Prop := showBackRow.holds Try.pinned (OpenSpec.ofChange showBackSpec)

/-- ITS FALSE NEIGHBOUR: 'it returns false'. Refute it at one input. -/
def showBackWrong : ChangeSpec := { name := "showBack", fn := fun _ => fun
  | [d1, d2] => { results := [.lit (.bool false)], args := [d1, d2] }
  | _ => none }
def ShowBackWrongFalsely : Prop := showBackRow.holds Try.pinned (OpenSpec.ofChange showBackWrong)

/-- 'topiaristlaw04.ShowRules': WHATEVER THE INPUT: true; the input reads as it did. -/
def showRulesSpec : ChangeSpec := { name := "showRules", fn := fun _ => fun
  | [d] => { results := [.lit (.bool true)], args := [d] }
  | _ => none }
def showRulesRow : OpenClaim := { program := "ytdpdbgaoaibafaa", sum := "2bc2d2a5c0f972f5f62d5ec591b5eb86cc8b0a9439e95137bfd9803cd9e4f1f5", func := "topiarist/topiaristlaw04.ShowRules", spec := "showRules", inPlace := ["internal/abi.NoEscape"], unfollowed := true, recurses := true, apart := false }
def ShowRulesSaid : Prop := showRulesRow.holds Try.pinned (OpenSpec.ofChange showRulesSpec)

/-- ITS FALSE NEIGHBOUR: 'it returns false'. Refute it at one input. -/
def showRulesWrong : ChangeSpec := { name := "showRules", fn := fun _ => fun
  | [d] => { results := [.lit (.bool false)], args := [d] }
  | _ => none }
def ShowRulesWrongFalsely : Prop := showRulesRow.holds Try.pinned (OpenSpec.ofChange showRulesWrong)

/-- 'topiaristlaw04.ShowLines': WHATEVER THE INPUT: true; the input reads as it did. -/
def showLinesSpec : ChangeSpec := { name := "showLines", fn := fun _ => fun
  | [d] => { results := [.lit (.bool true)], args := [d] }
  | _ => none }
def showLinesRow : OpenClaim := { program := "ytdpdbgaoaibafaa", sum := "2bc2d2a5c0f972f5f62d5ec591b5eb86cc8b0a9439e95137bfd9803cd9e4f1f5", func := "topiarist/topiaristlaw04.ShowLines", spec := "showLines", inPlace := ["internal/abi.NoEscape"], unfollowed := true, recurses := true, apart := false }
def ShowLinesSaid : Prop := showLinesRow.holds Try.pinned (OpenSpec.ofChange showLinesSpec)

/-- ITS FALSE NEIGHBOUR: 'it returns false'. Refute it at one input. -/
def showLinesWrong : ChangeSpec := { name := "showLines", fn := fun _ => fun
  | [d] => { results := [.lit (.bool false)], args := [d] }
  | _ => none }
def ShowLinesWrongFalsely : Prop := showLinesRow.holds Try.pinned (OpenSpec.ofChange showLinesWrong)

/-- 'topiaristlaw08.FirstTells': WHATEVER THE INPUT: true; the input reads as it did. -/
def firstTellsSpec : ChangeSpec := { name := "firstTells", fn := fun _ => fun
  | [d1, d2] => { results := [.lit (.bool true)], args := [d1, d2] }
  | _ => none }
def firstTellsRow : OpenClaim := { program := "ytdpdbgaoaibafaa", sum := "2bc2d2a5c0f972f5f62d5ec591b5eb86cc8b0a9439e95137bfd9803cd9e4f1f5", func := "topiarist/topiaristlaw08.FirstTells", spec := "firstTells", unfollowed := true, recurses := true, apart := false }
def FirstTellsSaid : Prop := firstTellsRow.holds Try.pinned (OpenSpec.ofChange firstTellsSpec)

/-- ITS FALSE NEIGHBOUR: 'it returns false'. Refute it at one input. -/
def firstTellsWrong : ChangeSpec := { name := "firstTells", fn := fun _ => fun
  | [d1, d2] => { results := [.lit (.bool false)], args := [d1, d2] }
  | _ => none }
def FirstTellsWrongFalsely : Prop := firstTellsRow.holds Try.pinned (OpenSpec.ofChange firstTellsWrong)

/-- 'topiaristlaw08.FirstMore': WHATEVER THE INPUT: true; the input reads as it did. -/
def firstMoreSpec : ChangeSpec := { name := "firstMore", fn := fun _ => fun
  | [d1, d2, d3] => { results := [.lit (.bool true)], args := [d1, d2, d3] }
  | _ => none }
def firstMoreRow : OpenClaim := { program := "ytdpdbgaoaibafaa", sum := "2bc2d2a5c0f972f5f62d5ec591b5eb86cc8b0a9439e95137bfd9803cd9e4f1f5", func := "topiarist/topiaristlaw08.FirstMore", spec := "firstMore", unfollowed := true, recurses := true, apart := false }
def FirstMoreSaid : Prop := firstMoreRow.holds Try.pinned (OpenSpec.ofChange firstMoreSpec)

/-- ITS FALSE NEIGHBOUR: 'it returns false'. Refute it at one input. -/
def firstMoreWrong : ChangeSpec := { name := "firstMore", fn := fun _ => fun
  | [d1, d2, d3] => { results := [.lit (.bool false)], args := [d1, d2, d3] }
  | _ => none }
def FirstMoreWrongFalsely : Prop := firstMoreRow.holds Try.pinned (OpenSpec.ofChange firstMoreWrong)

/-- 'topiaristlaw08.FirstRules': WHATEVER THE INPUT: true; the input reads as it did. -/
def firstRulesSpec : ChangeSpec := { name := "firstRules", fn := fun _ => fun
  | [d1, d2, d3] => { results := [.lit (.bool true)], args := [d1, d2, d3] }
  | _ => none }
def firstRulesRow : OpenClaim := { program := "ytdpdbgaoaibafaa", sum := "2bc2d2a5c0f972f5f62d5ec591b5eb86cc8b0a9439e95137bfd9803cd9e4f1f5", func := "topiarist/topiaristlaw08.FirstRules", spec := "firstRules", unfollowed := true, recurses := true, apart := false }
def FirstRulesSaid : Prop := firstRulesRow.holds Try.pinned (OpenSpec.ofChange firstRulesSpec)

/-- ITS FALSE NEIGHBOUR: 'it returns false'. Refute it at one input. -/
def firstRulesWrong : ChangeSpec := { name := "firstRules", fn := fun _ => fun
  | [d1, d2, d3] => { results := [.lit (.bool false)], args := [d1, d2, d3] }
  | _ => none }
def FirstRulesWrongFalsely : Prop := firstRulesRow.holds Try.pinned (OpenSpec.ofChange firstRulesWrong)

/-- 'topiaristlaw08.FirstBegins': WHATEVER THE INPUT: true; the input reads as it did. -/
def firstBeginsSpec : ChangeSpec := { name := "firstBegins", fn := fun _ => fun
  | [d1, d2] => { results := [.lit (.bool true)], args := [d1, d2] }
  | _ => none }
def firstBeginsRow : OpenClaim := { program := "ytdpdbgaoaibafaa", sum := "2bc2d2a5c0f972f5f62d5ec591b5eb86cc8b0a9439e95137bfd9803cd9e4f1f5", func := "topiarist/topiaristlaw08.FirstBegins", spec := "firstBegins", unfollowed := true, recurses := true, apart := false }
def FirstBeginsSaid : Prop := firstBeginsRow.holds Try.pinned (OpenSpec.ofChange firstBeginsSpec)

/-- ITS FALSE NEIGHBOUR: 'it returns false'. Refute it at one input. -/
def firstBeginsWrong : ChangeSpec := { name := "firstBegins", fn := fun _ => fun
  | [d1, d2] => { results := [.lit (.bool false)], args := [d1, d2] }
  | _ => none }
def FirstBeginsWrongFalsely : Prop := firstBeginsRow.holds Try.pinned (OpenSpec.ofChange firstBeginsWrong)

/-- 'topiaristlaw09.FollowTells': WHATEVER THE INPUT: true; the input reads as it did. -/
def followTellsSpec : ChangeSpec := { name := "followTells", fn := fun _ => fun
  | [d1, d2] => { results := [.lit (.bool true)], args := [d1, d2] }
  | _ => none }
def followTellsRow : OpenClaim := { program := "ytdpdbgaoaibafaa", sum := "2bc2d2a5c0f972f5f62d5ec591b5eb86cc8b0a9439e95137bfd9803cd9e4f1f5", func := "topiarist/topiaristlaw09.FollowTells", spec := "followTells", inPlace := ["slices.overlaps[int]"], unfollowed := true, recurses := true, apart := false }
def FollowTellsSaid : Prop := followTellsRow.holds Try.pinned (OpenSpec.ofChange followTellsSpec)

/-- ITS FALSE NEIGHBOUR: 'it returns false'. Refute it at one input. -/
def followTellsWrong : ChangeSpec := { name := "followTells", fn := fun _ => fun
  | [d1, d2] => { results := [.lit (.bool false)], args := [d1, d2] }
  | _ => none }
def FollowTellsWrongFalsely : Prop := followTellsRow.holds Try.pinned (OpenSpec.ofChange followTellsWrong)

/-- 'topiaristlaw09.FollowHolds': WHATEVER THE INPUT: true; the input reads as it did. -/
def followHoldsSpec : ChangeSpec := { name := "followHolds", fn := fun _ => fun
  | [d] => { results := [.lit (.bool true)], args := [d] }
  | _ => none }
def followHoldsRow : OpenClaim := { program := "ytdpdbgaoaibafaa", sum := "2bc2d2a5c0f972f5f62d5ec591b5eb86cc8b0a9439e95137bfd9803cd9e4f1f5", func := "topiarist/topiaristlaw09.FollowHolds", spec := "followHolds", inPlace := ["slices.overlaps[int]"], unfollowed := true, recurses := true, apart := false }
def FollowHoldsSaid : Prop := followHoldsRow.holds Try.pinned (OpenSpec.ofChange followHoldsSpec)

/-- ITS FALSE NEIGHBOUR: 'it returns false'. Refute it at one input. -/
def followHoldsWrong : ChangeSpec := { name := "followHolds", fn := fun _ => fun
  | [d] => { results := [.lit (.bool false)], args := [d] }
  | _ => none }
def FollowHoldsWrongFalsely : Prop := followHoldsRow.holds Try.pinned (OpenSpec.ofChange followHoldsWrong)

/-- 'topiaristlaw09.FollowMore': WHATEVER THE INPUT: true; the input reads as it did. -/
def followMoreSpec : ChangeSpec := { name := "followMore", fn := fun _ => fun
  | [d1, d2, d3] => { results := [.lit (.bool true)], args := [d1, d2, d3] }
  | _ => none }
def followMoreRow : OpenClaim := { program := "ytdpdbgaoaibafaa", sum := "2bc2d2a5c0f972f5f62d5ec591b5eb86cc8b0a9439e95137bfd9803cd9e4f1f5", func := "topiarist/topiaristlaw09.FollowMore", spec := "followMore", inPlace := ["slices.overlaps[int]"], unfollowed := true, recurses := true, apart := false }
def FollowMoreSaid : Prop := followMoreRow.holds Try.pinned (OpenSpec.ofChange followMoreSpec)

/-- ITS FALSE NEIGHBOUR: 'it returns false'. Refute it at one input. -/
def followMoreWrong : ChangeSpec := { name := "followMore", fn := fun _ => fun
  | [d1, d2, d3] => { results := [.lit (.bool false)], args := [d1, d2, d3] }
  | _ => none }
def FollowMoreWrongFalsely : Prop := followMoreRow.holds Try.pinned (OpenSpec.ofChange followMoreWrong)

/-- 'topiaristlaw09.FollowLast': WHATEVER THE INPUT: true; the input reads as it did. -/
def followLastSpec : ChangeSpec := { name := "followLast", fn := fun _ => fun
  | [d] => { results := [.lit (.bool true)], args := [d] }
  | _ => none }
def followLastRow : OpenClaim := { program := "ytdpdbgaoaibafaa", sum := "2bc2d2a5c0f972f5f62d5ec591b5eb86cc8b0a9439e95137bfd9803cd9e4f1f5", func := "topiarist/topiaristlaw09.FollowLast", spec := "followLast", inPlace := ["slices.overlaps[int]"], unfollowed := true, recurses := true, apart := false }
def FollowLastSaid : Prop := followLastRow.holds Try.pinned (OpenSpec.ofChange followLastSpec)

/-- ITS FALSE NEIGHBOUR: 'it returns false'. Refute it at one input. -/
def followLastWrong : ChangeSpec := { name := "followLast", fn := fun _ => fun
  | [d] => { results := [.lit (.bool false)], args := [d] }
  | _ => none }
def FollowLastWrongFalsely : Prop := followLastRow.holds Try.pinned (OpenSpec.ofChange followLastWrong)

/- THE SECOND FORM. 'bulk': how many values and letters a reading holds, each counted each time it is reached (what is shared counts as often as it is met; a slice's spare places count too). A statement '..UptoSaid' is the law's where the arguments, and the package variables that the reading takes, are together of bulk at most 1048576: NARROWER than '..Said'. Prove '..Said' where nothing that the law and all that it calls make is longer than what came in: it says more and counts as full. Else prove '..UptoSaid'. A law counts once. -/
mutual
def uptoBulk {H : Type} : DataW H → Nat
  | .lit (.string bytes) => bytes.length + 1
  | .lit _ => 1
  | .nil => 1
  | .ptr d => uptoBulk d + 1
  | .slice elems spare => uptoBulkAll elems + uptoBulkAll spare + 1
  | .agg parts => uptoBulkAll parts + 1
  | .iface _ d => uptoBulk d + 1
  | .map entries => uptoBulkEntries entries + 1
  | .held _ => 1
def uptoBulkAll {H : Type} : List (DataW H) → Nat
  | [] => 0
  | d :: r => uptoBulk d + uptoBulkAll r
def uptoBulkEntries {H : Type} : List (Lit × DataW H) → Nat
  | [] => 0
  | x :: r => uptoBulkEntry x + uptoBulkEntries r
def uptoBulkEntry {H : Type} : Lit × DataW H → Nat
  | (.string bytes, d) => bytes.length + uptoBulk d + 1
  | (_, d) => uptoBulk d + 1
 end
def uptoSmall : (H : Type) → List (DataW H) → Bool := fun _ ds => decide (uptoBulkAll ds ≤ 1048576)
def OpenSpec.upto (s : _root_.Go.ChangeSpec) : _root_.Go.OpenSpec := { _root_.Go.OpenSpec.ofChange s with cond := some uptoSmall }

/-- 'topiaristlaw04.ShowTells', WHERE WHAT IT READS IS OF BULK AT MOST 1048576: true; the input reads as it did. -/
def showTellsUptoRow : OpenClaim := { program := "ytdpdbgaoaibafaa", sum := "2bc2d2a5c0f972f5f62d5ec591b5eb86cc8b0a9439e95137bfd9803cd9e4f1f5", func := "topiarist/topiaristlaw04.ShowTells", spec := "showTells", inPlace := ["internal/abi.NoEscape"], unfollowed := true, recurses := true, apart := false, narrowed := true }
def ShowTellsUptoSaid : Prop := showTellsUptoRow.holds Try.pinned (OpenSpec.upto showTellsSpec)

/-- 'topiaristlaw04.ShowBack', WHERE WHAT IT READS IS OF BULK AT MOST 1048576: true; the input reads as it did. -/
def showBackUptoRow : OpenClaim := { program := "ytdpdbgaoaibafaa", sum := "2bc2d2a5c0f972f5f62d5ec591b5eb86cc8b0a9439e95137bfd9803cd9e4f1f5", func := "topiarist/topiaristlaw04.ShowBack", spec := "showBack", inPlace := ["internal/abi.NoEscape"], unfollowed := true, recurses := true, apart := false, narrowed := true }
def ShowBackUptoSaid : Prop := showBackUptoRow.holds Try.pinned (OpenSpec.upto showBackSpec)

/-- 'topiaristlaw04.ShowRules', WHERE WHAT IT READS IS OF BULK AT MOST 1048576: true; the input reads as it did. -/
def showRulesUptoRow : OpenClaim := { program := "ytdpdbgaoaibafaa", sum := "2bc2d2a5c0f972f5f62d5ec591b5eb86cc8b0a9439e95137bfd9803cd9e4f1f5", func := "topiarist/topiaristlaw04.ShowRules", spec := "showRules", inPlace := ["internal/abi.NoEscape"], unfollowed := true, recurses := true, apart := false, narrowed := true }
def ShowRulesUptoSaid : Prop := showRulesUptoRow.holds Try.pinned (OpenSpec.upto showRulesSpec)

/-- 'topiaristlaw04.ShowLines', WHERE WHAT IT READS IS OF BULK AT MOST 1048576: true; the input reads as it did. -/
def showLinesUptoRow : OpenClaim := { program := "ytdpdbgaoaibafaa", sum := "2bc2d2a5c0f972f5f62d5ec591b5eb86cc8b0a9439e95137bfd9803cd9e4f1f5", func := "topiarist/topiaristlaw04.ShowLines", spec := "showLines", inPlace := ["internal/abi.NoEscape"], unfollowed := true, recurses := true, apart := false, narrowed := true }
def ShowLinesUptoSaid : Prop := showLinesUptoRow.holds Try.pinned (OpenSpec.upto showLinesSpec)

/-- 'topiaristlaw08.FirstTells', WHERE WHAT IT READS IS OF BULK AT MOST 1048576: true; the input reads as it did. -/
def firstTellsUptoRow : OpenClaim := { program := "ytdpdbgaoaibafaa", sum := "2bc2d2a5c0f972f5f62d5ec591b5eb86cc8b0a9439e95137bfd9803cd9e4f1f5", func := "topiarist/topiaristlaw08.FirstTells", spec := "firstTells", unfollowed := true, recurses := true, apart := false, narrowed := true }
def FirstTellsUptoSaid : Prop := firstTellsUptoRow.holds Try.pinned (OpenSpec.upto firstTellsSpec)

/-- 'topiaristlaw08.FirstMore', WHERE WHAT IT READS IS OF BULK AT MOST 1048576: true; the input reads as it did. -/
def firstMoreUptoRow : OpenClaim := { program := "ytdpdbgaoaibafaa", sum := "2bc2d2a5c0f972f5f62d5ec591b5eb86cc8b0a9439e95137bfd9803cd9e4f1f5", func := "topiarist/topiaristlaw08.FirstMore", spec := "firstMore", unfollowed := true, recurses := true, apart := false, narrowed := true }
def FirstMoreUptoSaid : Prop := firstMoreUptoRow.holds Try.pinned (OpenSpec.upto firstMoreSpec)

/-- 'topiaristlaw08.FirstRules', WHERE WHAT IT READS IS OF BULK AT MOST 1048576: true; the input reads as it did. -/
def firstRulesUptoRow : OpenClaim := { program := "ytdpdbgaoaibafaa", sum := "2bc2d2a5c0f972f5f62d5ec591b5eb86cc8b0a9439e95137bfd9803cd9e4f1f5", func := "topiarist/topiaristlaw08.FirstRules", spec := "firstRules", unfollowed := true, recurses := true, apart := false, narrowed := true }
def FirstRulesUptoSaid : Prop := firstRulesUptoRow.holds Try.pinned (OpenSpec.upto firstRulesSpec)

/-- 'topiaristlaw08.FirstBegins', WHERE WHAT IT READS IS OF BULK AT MOST 1048576: true; the input reads as it did. -/
def firstBeginsUptoRow : OpenClaim := { program := "ytdpdbgaoaibafaa", sum := "2bc2d2a5c0f972f5f62d5ec591b5eb86cc8b0a9439e95137bfd9803cd9e4f1f5", func := "topiarist/topiaristlaw08.FirstBegins", spec := "firstBegins", unfollowed := true, recurses := true, apart := false, narrowed := true }
def FirstBeginsUptoSaid : Prop := firstBeginsUptoRow.holds Try.pinned (OpenSpec.upto firstBeginsSpec)

/-- 'topiaristlaw09.FollowTells', WHERE WHAT IT READS IS OF BULK AT MOST 1048576: true; the input reads as it did. -/
def followTellsUptoRow : OpenClaim := { program := "ytdpdbgaoaibafaa", sum := "2bc2d2a5c0f972f5f62d5ec591b5eb86cc8b0a9439e95137bfd9803cd9e4f1f5", func := "topiarist/topiaristlaw09.FollowTells", spec := "followTells", inPlace := ["slices.overlaps[int]"], unfollowed := true, recurses := true, apart := false, narrowed := true }
def FollowTellsUptoSaid : Prop := followTellsUptoRow.holds Try.pinned (OpenSpec.upto followTellsSpec)

/-- 'topiaristlaw09.FollowHolds', WHERE WHAT IT READS IS OF BULK AT MOST 1048576: true; the input reads as it did. -/
def followHoldsUptoRow : OpenClaim := { program := "ytdpdbgaoaibafaa", sum := "2bc2d2a5c0f972f5f62d5ec591b5eb86cc8b0a9439e95137bfd9803cd9e4f1f5", func := "topiarist/topiaristlaw09.FollowHolds", spec := "followHolds", inPlace := ["slices.overlaps[int]"], unfollowed := true, recurses := true, apart := false, narrowed := true }
def FollowHoldsUptoSaid : Prop := followHoldsUptoRow.holds Try.pinned (OpenSpec.upto followHoldsSpec)

/-- 'topiaristlaw09.FollowMore', WHERE WHAT IT READS IS OF BULK AT MOST 1048576: true; the input reads as it did. -/
def followMoreUptoRow : OpenClaim := { program := "ytdpdbgaoaibafaa", sum := "2bc2d2a5c0f972f5f62d5ec591b5eb86cc8b0a9439e95137bfd9803cd9e4f1f5", func := "topiarist/topiaristlaw09.FollowMore", spec := "followMore", inPlace := ["slices.overlaps[int]"], unfollowed := true, recurses := true, apart := false, narrowed := true }
def FollowMoreUptoSaid : Prop := followMoreUptoRow.holds Try.pinned (OpenSpec.upto followMoreSpec)

/-- 'topiaristlaw09.FollowLast', WHERE WHAT IT READS IS OF BULK AT MOST 1048576: true; the input reads as it did. -/
def followLastUptoRow : OpenClaim := { program := "ytdpdbgaoaibafaa", sum := "2bc2d2a5c0f972f5f62d5ec591b5eb86cc8b0a9439e95137bfd9803cd9e4f1f5", func := "topiarist/topiaristlaw09.FollowLast", spec := "followLast", inPlace := ["slices.overlaps[int]"], unfollowed := true, recurses := true, apart := false, narrowed := true }
def FollowLastUptoSaid : Prop := followLastUptoRow.holds Try.pinned (OpenSpec.upto followLastSpec)

end Rows
end Go.Proofs.Ytdpdbgaoaibafaa
