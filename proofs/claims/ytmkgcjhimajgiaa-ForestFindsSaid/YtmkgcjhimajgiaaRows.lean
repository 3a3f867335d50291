/-
  No cell of these rows narrows 'for every input' (looked for: loops, veiled, ifaces, maps, wideKeys, modest, calm, conditions, laid).
  DERIVED. THE GIVEN ROWS OF THIS SEAT. 12 by the template 'for every input the law returns true; each argument reads behind the call as it read before'; 0 by the template 'total and deterministic' (their statements: YtmkgcjhimajgiaaTotals.lean).
  GIVEN WITH THE SEED: the statements are not yours to turn. If you find one false, say at which input.
  Laid BY PROGRAM, IN A SANDBOX (cutbox-rows.mjs): the forced cells as the released guide's own fill.sh prints them over the translation 1d9caf8214b6bb0d… (all of the seat's roots in one cut). By AI agents, Wed Nov 11 2026. No macro, syntax, notation, axiom, sorry.
-/
import Derived.Test.YtmkgcjhimajgiaaChecked
import GoSem.Claim
import GoSem.ClaimJoined
import GoSem.ClaimMapViews
import Derived.JoinedTies
import Derived.KernelRfl
namespace Go.Proofs.Ytmkgcjhimajgiaa
/- THE CELL 'sum', in the pinned program and in every row, IS THE sha256 OF THE DUMP (.gsa) THAT YtmkgcjhimajgiaaProg.lean LOADS. Nothing in Lean hashes anything: it is a label: what it is worth is what the hold of that sum in a sandbox is worth. -/
noncomputable def Try.pinned : Pinned := { name := "ytmkgcjhimajgiaa", sum := "1d9caf8214b6bb0dc11c5f66477442ec60d95de950414b984d792e293dd60ee1", checked := Try.checked }
namespace Rows
def none {H : Type} : Left H := { results := [], args := [] }

/-- 'topiaristlaw24.ChartTells': WHATEVER THE INPUT: true; the input reads as it did. -/
def chartTellsSpec : ChangeSpec := { name := "chartTells", fn := fun _ => fun
  | [d1, d2, d3] => { results := [.lit (.bool true)], args := [d1, d2, d3] }
  | _ => none }
def chartTellsRow : OpenClaim := { program := "ytmkgcjhimajgiaa", sum := "1d9caf8214b6bb0dc11c5f66477442ec60d95de950414b984d792e293dd60ee1", func := "topiarist/topiaristlaw24.ChartTells", spec := "chartTells", unfollowed := true, recurses := true, plainKeys := false, apart := false }
def ChartTellsSaid : Prop := chartTellsRow.holds Try.pinned (OpenSpec.ofChange chartTellsSpec)

/-- ITS FALSE NEIGHBOUR: 'it returns false'. Refute it at one input. -/
def chartTellsWrong : ChangeSpec := { name := "chartTells", fn := fun _ => fun
  | [d1, d2, d3] => { results := [.lit (.bool false)], args := [d1, d2, d3] }
  | _ => none }
def ChartTellsWrongFalsely : Prop := chartTellsRow.holds Try.pinned (OpenSpec.ofChange chartTellsWrong)

/-- 'topiaristlaw24.ChartNone': WHATEVER THE INPUT: true; the input reads as it did. -/
def chartNoneSpec : ChangeSpec := { name := "chartNone", fn := fun _ => fun
  | [d] => { results := [.lit (.bool true)], args := [d] }
  | _ => none }
def chartNoneRow : OpenClaim := { program := "ytmkgcjhimajgiaa", sum := "1d9caf8214b6bb0dc11c5f66477442ec60d95de950414b984d792e293dd60ee1", func := "topiarist/topiaristlaw24.ChartNone", spec := "chartNone", unfollowed := true, recurses := true, plainKeys := false, apart := false }
def ChartNoneSaid : Prop := chartNoneRow.holds Try.pinned (OpenSpec.ofChange chartNoneSpec)

/-- ITS FALSE NEIGHBOUR: 'it returns false'. Refute it at one input. -/
def chartNoneWrong : ChangeSpec := { name := "chartNone", fn := fun _ => fun
  | [d] => { results := [.lit (.bool false)], args := [d] }
  | _ => none }
def ChartNoneWrongFalsely : Prop := chartNoneRow.holds Try.pinned (OpenSpec.ofChange chartNoneWrong)

/-- 'topiaristlaw24.ChartMore': WHATEVER THE INPUT: true; the input reads as it did. -/
def chartMoreSpec : ChangeSpec := { name := "chartMore", fn := fun _ => fun
  | [d1, d2, d3] => { results := [.lit (.bool true)], args := [d1, d2, d3] }
  | _ => none }
def chartMoreRow : OpenClaim := { program := "ytmkgcjhimajgiaa", sum := "1d9caf8214b6bb0dc11c5f66477442ec60d95de950414b984d792e293dd60ee1", func := "topiarist/topiaristlaw24.ChartMore", spec := "chartMore", unfollowed := true, recurses := true, plainKeys := false, apart := false }
def ChartMoreSaid : Prop := chartMoreRow.holds Try.pinned (OpenSpec.ofChange chartMoreSpec)

/-- ITS FALSE NEIGHBOUR: 'it returns false'. Refute it at one input. -/
def chartMoreWrong : ChangeSpec := { name := "chartMore", fn := fun _ => fun
  | [d1, d2, d3] => { results := [.lit (.bool false)], args := [d1, d2, d3] }
  | _ => none }
def ChartMoreWrongFalsely : Prop := chartMoreRow.holds Try.pinned (OpenSpec.ofChange chartMoreWrong)

/-- 'topiaristlaw24.ChartRows': WHATEVER THE INPUT: true; the input reads as it did. -/
def chartRowsSpec : ChangeSpec := { name := "chartRows", fn := fun _ => fun
  | [d1, d2] => { results := [.lit (.bool true)], args := [d1, d2] }
  | _ => none }
def chartRowsRow : OpenClaim := { program := "ytmkgcjhimajgiaa", sum := "1d9caf8214b6bb0dc11c5f66477442ec60d95de950414b984d792e293dd60ee1", func := "topiarist/topiaristlaw24.ChartRows", spec := "chartRows", unfollowed := true, recurses := true, plainKeys := false, apart := false }
def ChartRowsSaid : Prop := chartRowsRow.holds Try.pinned (OpenSpec.ofChange chartRowsSpec)

/-- ITS FALSE NEIGHBOUR: 'it returns false'. Refute it at one input. -/
def chartRowsWrong : ChangeSpec := { name := "chartRows", fn := fun _ => fun
  | [d1, d2] => { results := [.lit (.bool false)], args := [d1, d2] }
  | _ => none }
def ChartRowsWrongFalsely : Prop := chartRowsRow.holds Try.pinned (OpenSpec.ofChange chartRowsWrong)

/-- 'topiaristlaw24.ChartHolds': WHATEVER THE INPUT: true; the input reads as it did. -/
def chartHoldsSpec : ChangeSpec := { name := "chartHolds", fn := fun _ => fun
  | [d1, d2, d3] => { results := [.lit (.bool true)], args := [d1, d2, d3] }
  | _ => none }
def chartHoldsRow : OpenClaim := { program := "ytmkgcjhimajgiaa", sum := "1d9caf8214b6bb0dc11c5f66477442ec60d95de950414b984d792e293dd60ee1", func := "topiarist/topiaristlaw24.ChartHolds", spec := "chartHolds", unfollowed := true, recurses := true, plainKeys := false, apart := false }
def ChartHoldsSaid : Prop := chartHoldsRow.holds Try.pinned (OpenSpec.ofChange chartHoldsSpec)

/-- ITS FALSE NEIGHBOUR: 'it returns false'. Refute it at one input. -/
def chartHoldsWrong : ChangeSpec := { name := "chartHolds", fn := fun _ => fun
  | [d1, d2, d3] => { results := [.lit (.bool false)], args := [d1, d2, d3] }
  | _ => none }
def ChartHoldsWrongFalsely : Prop := chartHoldsRow.holds Try.pinned (OpenSpec.ofChange chartHoldsWrong)

/-- 'topiaristlaw24.ChartEmpty': WHATEVER THE INPUT: true; the input reads as it did. -/
def chartEmptySpec : ChangeSpec := { name := "chartEmpty", fn := fun _ => fun
  | [d1, d2] => { results := [.lit (.bool true)], args := [d1, d2] }
  | _ => none }
def chartEmptyRow : OpenClaim := { program := "ytmkgcjhimajgiaa", sum := "1d9caf8214b6bb0dc11c5f66477442ec60d95de950414b984d792e293dd60ee1", func := "topiarist/topiaristlaw24.ChartEmpty", spec := "chartEmpty", unfollowed := true, recurses := true, plainKeys := false, apart := false }
def ChartEmptySaid : Prop := chartEmptyRow.holds Try.pinned (OpenSpec.ofChange chartEmptySpec)

/-- ITS FALSE NEIGHBOUR: 'it returns false'. Refute it at one input. -/
def chartEmptyWrong : ChangeSpec := { name := "chartEmpty", fn := fun _ => fun
  | [d1, d2] => { results := [.lit (.bool false)], args := [d1, d2] }
  | _ => none }
def ChartEmptyWrongFalsely : Prop := chartEmptyRow.holds Try.pinned (OpenSpec.ofChange chartEmptyWrong)

/-- 'topiaristlaw25.ForestTells': WHATEVER THE INPUT: true; the input reads as it did. -/
def forestTellsSpec : ChangeSpec := { name := "forestTells", fn := fun _ => fun
  | [d1, d2, d3] => { results := [.lit (.bool true)], args := [d1, d2, d3] }
  | _ => none }
def forestTellsRow : OpenClaim := { program := "ytmkgcjhimajgiaa", sum := "1d9caf8214b6bb0dc11c5f66477442ec60d95de950414b984d792e293dd60ee1", func := "topiarist/topiaristlaw25.ForestTells", spec := "forestTells", unfollowed := true, recurses := true, plainKeys := false, apart := false }
def ForestTellsSaid : Prop := forestTellsRow.holds Try.pinned (OpenSpec.ofChange forestTellsSpec)

/-- ITS FALSE NEIGHBOUR: 'it returns false'. Refute it at one input. -/
def forestTellsWrong : ChangeSpec := { name := "forestTells", fn := fun _ => fun
  | [d1, d2, d3] => { results := [.lit (.bool false)], args := [d1, d2, d3] }
  | _ => none }
def ForestTellsWrongFalsely : Prop := forestTellsRow.holds Try.pinned (OpenSpec.ofChange forestTellsWrong)

/-- 'topiaristlaw25.ForestHolds': WHATEVER THE INPUT: true; the input reads as it did. -/
def forestHoldsSpec : ChangeSpec := { name := "forestHolds", fn := fun _ => fun
  | [d1, d2] => { results := [.lit (.bool true)], args := [d1, d2] }
  | _ => none }
def forestHoldsRow : OpenClaim := { program := "ytmkgcjhimajgiaa", sum := "1d9caf8214b6bb0dc11c5f66477442ec60d95de950414b984d792e293dd60ee1", func := "topiarist/topiaristlaw25.ForestHolds", spec := "forestHolds", unfollowed := true, recurses := true, plainKeys := false, apart := false }
def ForestHoldsSaid : Prop := forestHoldsRow.holds Try.pinned (OpenSpec.ofChange forestHoldsSpec)

/-- ITS FALSE NEIGHBOUR: 'it returns false'. Refute it at one input. -/
def forestHoldsWrong : ChangeSpec := { name := "forestHolds", fn := fun _ => fun
  | [d1, d2] => { results := [.lit (.bool false)], args := [d1, d2] }
  | _ => none }
def ForestHoldsWrongFalsely : Prop := forestHoldsRow.holds Try.pinned (OpenSpec.ofChange forestHoldsWrong)

/-- 'topiaristlaw25.ForestCaps': WHATEVER THE INPUT: true; the input reads as it did. -/
def forestCapsSpec : ChangeSpec := { name := "forestCaps", fn := fun _ => fun
  | [d1, d2, d3] => { results := [.lit (.bool true)], args := [d1, d2, d3] }
  | _ => none }
def forestCapsRow : OpenClaim := { program := "ytmkgcjhimajgiaa", sum := "1d9caf8214b6bb0dc11c5f66477442ec60d95de950414b984d792e293dd60ee1", func := "topiarist/topiaristlaw25.ForestCaps", spec := "forestCaps", unfollowed := true, recurses := true, plainKeys := false, apart := false }
def ForestCapsSaid : Prop := forestCapsRow.holds Try.pinned (OpenSpec.ofChange forestCapsSpec)

/-- ITS FALSE NEIGHBOUR: 'it returns false'. Refute it at one input. -/
def forestCapsWrong : ChangeSpec := { name := "forestCaps", fn := fun _ => fun
  | [d1, d2, d3] => { results := [.lit (.bool false)], args := [d1, d2, d3] }
  | _ => none }
def ForestCapsWrongFalsely : Prop := forestCapsRow.holds Try.pinned (OpenSpec.ofChange forestCapsWrong)

/-- 'topiaristlaw25.ForestGoods': WHATEVER THE INPUT: true; the input reads as it did. -/
def forestGoodsSpec : ChangeSpec := { name := "forestGoods", fn := fun _ => fun
  | [d1, d2, d3] => { results := [.lit (.bool true)], args := [d1, d2, d3] }
  | _ => none }
def forestGoodsRow : OpenClaim := { program := "ytmkgcjhimajgiaa", sum := "1d9caf8214b6bb0dc11c5f66477442ec60d95de950414b984d792e293dd60ee1", func := "topiarist/topiaristlaw25.ForestGoods", spec := "forestGoods", unfollowed := true, recurses := true, plainKeys := false, apart := false }
def ForestGoodsSaid : Prop := forestGoodsRow.holds Try.pinned (OpenSpec.ofChange forestGoodsSpec)

/-- ITS FALSE NEIGHBOUR: 'it returns false'. Refute it at one input. -/
def forestGoodsWrong : ChangeSpec := { name := "forestGoods", fn := fun _ => fun
  | [d1, d2, d3] => { results := [.lit (.bool false)], args := [d1, d2, d3] }
  | _ => none }
def ForestGoodsWrongFalsely : Prop := forestGoodsRow.holds Try.pinned (OpenSpec.ofChange forestGoodsWrong)

/-- 'topiaristlaw25.ForestFinds': WHATEVER THE INPUT: true; the input reads as it did. -/
def forestFindsSpec : ChangeSpec := { name := "forestFinds", fn := fun _ => fun
  | [d1, d2] => { results := [.lit (.bool true)], args := [d1, d2] }
  | _ => none }
def forestFindsRow : OpenClaim := { program := "ytmkgcjhimajgiaa", sum := "1d9caf8214b6bb0dc11c5f66477442ec60d95de950414b984d792e293dd60ee1", func := "topiarist/topiaristlaw25.ForestFinds", spec := "forestFinds", unfollowed := true, recurses := true, plainKeys := false, apart := false }
def ForestFindsSaid : Prop := forestFindsRow.holds Try.pinned (OpenSpec.ofChange forestFindsSpec)

/-- ITS FALSE NEIGHBOUR: 'it returns false'. Refute it at one input. -/
def forestFindsWrong : ChangeSpec := { name := "forestFinds", fn := fun _ => fun
  | [d1, d2] => { results := [.lit (.bool false)], args := [d1, d2] }
  | _ => none }
def ForestFindsWrongFalsely : Prop := forestFindsRow.holds Try.pinned (OpenSpec.ofChange forestFindsWrong)

/-- 'topiaristlaw25.ForestRoot': WHATEVER THE INPUT: true; the input reads as it did. -/
def forestRootSpec : ChangeSpec := { name := "forestRoot", fn := fun _ => fun
  | [d1, d2] => { results := [.lit (.bool true)], args := [d1, d2] }
  | _ => none }
def forestRootRow : OpenClaim := { program := "ytmkgcjhimajgiaa", sum := "1d9caf8214b6bb0dc11c5f66477442ec60d95de950414b984d792e293dd60ee1", func := "topiarist/topiaristlaw25.ForestRoot", spec := "forestRoot", unfollowed := true, recurses := true, plainKeys := false, apart := false }
def ForestRootSaid : Prop := forestRootRow.holds Try.pinned (OpenSpec.ofChange forestRootSpec)

/-- ITS FALSE NEIGHBOUR: 'it returns false'. Refute it at one input. -/
def forestRootWrong : ChangeSpec := { name := "forestRoot", fn := fun _ => fun
  | [d1, d2] => { results := [.lit (.bool false)], args := [d1, d2] }
  | _ => none }
def ForestRootWrongFalsely : Prop := forestRootRow.holds Try.pinned (OpenSpec.ofChange forestRootWrong)

/- THE SECOND FORM. 'bulk': how many values and letters a reading holds, each counted each time it is reached (what is shared counts as often as it is met; a slice's spare places count too). A statement '..UptoSaid' is the law's where the arguments, and the package variables that the reading takes, are together of bulk at most 1048576: NARROWER than '..Said'. Prove '..Said' where nothing that the law and all that it calls make is longer than what came in: it says more and counts as full. Else prove '..UptoSaid'. A law counts once. -/
mutual
def uptoBulk {H : Type} : DataW H → Nat
  | .lit (.string bytes) => bytes.length + 1
  | .lit _ => 1
  | .nil => 1
  | .ptr d => uptoBulk d + 1
  | .slice elems spare => uptoBulkAll elems + uptoBulkAll spare + 1
  | .agg parts => uptoBulkAll parts + 1
  | .iface _ d => uptoBulk d + 1
  | .map entries => uptoBulkEntries entries + 1
  | .held _ => 1
def uptoBulkAll {H : Type} : List (DataW H) → Nat
  | [] => 0
  | d :: r => uptoBulk d + uptoBulkAll r
def uptoBulkEntries {H : Type} : List (Lit × DataW H) → Nat
  | [] => 0
  | x :: r => uptoBulkEntry x + uptoBulkEntries r
def uptoBulkEntry {H : Type} : Lit × DataW H → Nat
  | (.string bytes, d) => bytes.length + uptoBulk d + 1
  | (_, d) => uptoBulk d + 1
 end
def uptoSmall : (H : Type) → List (DataW H) → Bool := fun _ ds => decide (uptoBulkAll ds ≤ 1048576)
def OpenSpec.upto (s : _root_.Go.ChangeSpec) : _root_.Go.OpenSpec := { _root_.Go.OpenSpec.ofChange s with cond := some uptoSmall }

/-- 'topiaristlaw24.ChartTells', WHERE WHAT IT READS IS OF BULK AT MOST 1048576: true; the input reads as it did. -/
def chartTellsUptoRow : OpenClaim := { program := "ytmkgcjhimajgiaa", sum := "1d9caf8214b6bb0dc11c5f66477442ec60d95de950414b984d792e293dd60ee1", func := "topiarist/topiaristlaw24.ChartTells", spec := "chartTells", unfollowed := true, recurses := true, plainKeys := false, apart := false, narrowed := true }
def ChartTellsUptoSaid : Prop := chartTellsUptoRow.holds Try.pinned (OpenSpec.upto chartTellsSpec)

/-- 'topiaristlaw24.ChartNone', WHERE WHAT IT READS IS OF BULK AT MOST 1048576: true; the input reads as it did. -/
def chartNoneUptoRow : OpenClaim := { program := "ytmkgcjhimajgiaa", sum := "1d9caf8214b6bb0dc11c5f66477442ec60d95de950414b984d792e293dd60ee1", func := "topiarist/topiaristlaw24.ChartNone", spec := "chartNone", unfollowed := true, recurses := true, plainKeys := false, apart := false, narrowed := true }
def ChartNoneUptoSaid : Prop := chartNoneUptoRow.holds Try.pinned (OpenSpec.upto chartNoneSpec)

/-- 'topiaristlaw24.ChartMore', WHERE WHAT IT READS IS OF BULK AT MOST 1048576: true; the input reads as it did. -/
def chartMoreUptoRow : OpenClaim := { program := "ytmkgcjhimajgiaa", sum := "1d9caf8214b6bb0dc11c5f66477442ec60d95de950414b984d792e293dd60ee1", func := "topiarist/topiaristlaw24.ChartMore", spec := "chartMore", unfollowed := true, recurses := true, plainKeys := false, apart := false, narrowed := true }
def ChartMoreUptoSaid : Prop := chartMoreUptoRow.holds Try.pinned (OpenSpec.upto chartMoreSpec)

/-- 'topiaristlaw24.ChartRows', WHERE WHAT IT READS IS OF BULK AT MOST 1048576: true; the input reads as it did. -/
def chartRowsUptoRow : OpenClaim := { program := "ytmkgcjhimajgiaa", sum := "1d9caf8214b6bb0dc11c5f66477442ec60d95de950414b984d792e293dd60ee1", func := "topiarist/topiaristlaw24.ChartRows", spec := "chartRows", unfollowed := true, recurses := true, plainKeys := false, apart := false, narrowed := true }
def ChartRowsUptoSaid : Prop := chartRowsUptoRow.holds Try.pinned (OpenSpec.upto chartRowsSpec)

/-- 'topiaristlaw24.ChartHolds', WHERE WHAT IT READS IS OF BULK AT MOST 1048576: true; the input reads as it did. -/
def chartHoldsUptoRow : OpenClaim := { program := "ytmkgcjhimajgiaa", sum := "1d9caf8214b6bb0dc11c5f66477442ec60d95de950414b984d792e293dd60ee1", func := "topiarist/topiaristlaw24.ChartHolds", spec := "chartHolds", unfollowed := true, recurses := true, plainKeys := false, apart := false, narrowed := true }
def ChartHoldsUptoSaid : Prop := chartHoldsUptoRow.holds Try.pinned (OpenSpec.upto chartHoldsSpec)

/-- 'topiaristlaw24.ChartEmpty', WHERE WHAT IT READS IS OF BULK AT MOST 1048576: true; the input reads as it did. -/
def chartEmptyUptoRow : OpenClaim := { program := "ytmkgcjhimajgiaa", sum := "1d9caf8214b6bb0dc11c5f66477442ec60d95de950414b984d792e293dd60ee1", func := "topiarist/topiaristlaw24.ChartEmpty", spec := "chartEmpty", unfollowed := true, recurses := true, plainKeys := false, apart := false, narrowed := true }
def ChartEmptyUptoSaid : Prop := chartEmptyUptoRow.holds Try.pinned (OpenSpec.upto chartEmptySpec)

/-- 'topiaristlaw25.ForestTells', WHERE WHAT IT READS IS OF BULK AT MOST 1048576: true; the input reads as it did. -/
def forestTellsUptoRow : OpenClaim := { program := "ytmkgcjhimajgiaa", sum := "1d9caf8214b6bb0dc11c5f66477442ec60d95de950414b984d792e293dd60ee1", func := "topiarist/topiaristlaw25.ForestTells", spec := "forestTells", unfollowed := true, recurses := true, plainKeys := false, apart := false, narrowed := true }
def ForestTellsUptoSaid : Prop := forestTellsUptoRow.holds Try.pinned (OpenSpec.upto forestTellsSpec)

/-- 'topiaristlaw25.ForestHolds', WHERE WHAT IT READS IS OF BULK AT MOST 1048576: true; the input reads as it did. -/
def forestHoldsUptoRow : OpenClaim := { program := "ytmkgcjhimajgiaa", sum := "1d9caf8214b6bb0dc11c5f66477442ec60d95de950414b984d792e293dd60ee1", func := "topiarist/topiaristlaw25.ForestHolds", spec := "forestHolds", unfollowed := true, recurses := true, plainKeys := false, apart := false, narrowed := true }
def ForestHoldsUptoSaid : Prop := forestHoldsUptoRow.holds Try.pinned (OpenSpec.upto forestHoldsSpec)

/-- 'topiaristlaw25.ForestCaps', WHERE WHAT IT READS IS OF BULK AT MOST 1048576: true; the input reads as it did. -/
def forestCapsUptoRow : OpenClaim := { program := "ytmkgcjhimajgiaa", sum := "1d9caf8214b6bb0dc11c5f66477442ec60d95de950414b984d792e293dd60ee1", func := "topiarist/topiaristlaw25.ForestCaps", spec := "forestCaps", unfollowed := true, recurses := true, plainKeys := false, apart := false, narrowed := true }
def ForestCapsUptoSaid : Prop := forestCapsUptoRow.holds Try.pinned (OpenSpec.upto forestCapsSpec)

/-- 'topiaristlaw25.ForestGoods', WHERE WHAT IT READS IS OF BULK AT MOST 1048576: true; the input reads as it did. -/
def forestGoodsUptoRow : OpenClaim := { program := "ytmkgcjhimajgiaa", sum := "1d9caf8214b6bb0dc11c5f66477442ec60d95de950414b984d792e293dd60ee1", func := "topiarist/topiaristlaw25.ForestGoods", spec := "forestGoods", unfollowed := true, recurses := true, plainKeys := false, apart := false, narrowed := true }
def ForestGoodsUptoSaid : Prop := forestGoodsUptoRow.holds Try.pinned (OpenSpec.upto forestGoodsSpec)

/-- 'topiaristlaw25.ForestFinds', WHERE WHAT IT READS IS OF BULK AT MOST 1048576: true; the input reads as it did. -/
def forestFindsUptoRow : OpenClaim := { program := "ytmkgcjhimajgiaa", sum := "1d9caf8214b6bb0dc11c5f66477442ec60d95de950414b984d792e293dd60ee1", func := "topiarist/topiaristlaw25.ForestFinds", spec := "forestFinds", unfollowed := true, recurses := true, plainKeys := false, apart := false, narrowed := true }
def ForestFindsUptoSaid : Prop := forestFindsUptoRow.holds Try.pinned (OpenSpec.upto forestFindsSpec)

/-- 'topiaristlaw25.ForestRoot', WHERE WHAT IT READS IS OF BULK AT MOST 1048576: true; the input reads as it did. -/
def forestRootUptoRow : OpenClaim := { program := "ytmkgcjhimajgiaa", sum := "1d9caf8214b6bb0dc11c5f66477442ec60d95de950414b984d792e293dd60ee1", func := "topiarist/topiaristlaw25.ForestRoot", spec := "forestRoot", unfollowed := true, recurses := true, plainKeys := false, apart := false, narrowed := true }
def ForestRootUptoSaid : Prop := forestRootUptoRow.holds Try.pinned (OpenSpec.upto forestRootSpec)

end Rows
end Go.Proofs.Ytmkgcjhimajgiaa
