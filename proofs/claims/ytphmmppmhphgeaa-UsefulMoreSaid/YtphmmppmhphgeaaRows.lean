/-
  No cell of these rows narrows 'for every input' (looked for: loops, veiled, ifaces, maps, wideKeys, modest, calm, conditions, laid).
  DERIVED. THE GIVEN ROWS OF THIS SEAT. 12 by the template 'for every input the law returns true; each argument reads behind the call as it read before'; 0 by the template 'total and deterministic' (their statements: YtphmmppmhphgeaaTotals.lean).
  GIVEN WITH THE SEED: the statements are not yours to turn. If you find one false, say at which input.
  Laid BY PROGRAM, IN A SANDBOX (cutbox-rows.mjs): the forced cells as the released guide's own fill.sh prints them over the translation 1ce92b3ea8a7cb33… (all of the seat's roots in one cut). By AI agents, Wed Nov 11 2026. No macro, syntax, notation, axiom, sorry.
-/
import Derived.Test.YtphmmppmhphgeaaChecked
import GoSem.Claim
import GoSem.ClaimJoined
import GoSem.ClaimMapViews
import Derived.JoinedTies
import Derived.KernelRfl
namespace Go.Proofs.Ytphmmppmhphgeaa
/- THE CELL 'sum', in the pinned program and in every row, IS THE sha256 OF THE DUMP (.gsa) THAT YtphmmppmhphgeaaProg.lean LOADS. Nothing in Lean hashes anything: it is a label: what it is worth is what the hold of that sum in a sandbox is worth. -/
noncomputable def Try.pinned : Pinned := { name := "ytphmmppmhphgeaa", sum := "1ce92b3ea8a7cb3381a6d25a102ca101e8d9f2b88f7ed4b67948bbc68555b3a0", checked := Try.checked }
namespace Rows
def none {H : Type} : Left H := { results := [], args := [] }

/-- 'topiaristlaw03.GrammarTells': WHATEVER THE INPUT: true; the input reads as it did. -/
def grammarTellsSpec : ChangeSpec := { name := "grammarTells", fn := fun _ => fun
  | [d1, d2, d3] => { results := [.lit (.bool true)], args := [d1, d2, d3] }
  | _ => none }
def grammarTellsRow : OpenClaim := { program := "ytphmmppmhphgeaa", sum := "1ce92b3ea8a7cb3381a6d25a102ca101e8d9f2b88f7ed4b67948bbc68555b3a0", func := "topiarist/topiaristlaw03.GrammarTells", spec := "grammarTells", unfollowed := true, recurses := true, apart := false }
def GrammarTellsSaid : Prop := grammarTellsRow.holds Try.pinned (OpenSpec.ofChange grammarTellsSpec)

/-- ITS FALSE NEIGHBOUR: 'it returns false'. Refute it at one input. -/
def grammarTellsWrong : ChangeSpec := { name := "grammarTells", fn := fun _ => fun
  | [d1, d2, d3] => { results := [.lit (.bool false)], args := [d1, d2, d3] }
  | _ => none }
def GrammarTellsWrongFalsely : Prop := grammarTellsRow.holds Try.pinned (OpenSpec.ofChange grammarTellsWrong)

/-- 'topiaristlaw03.GrammarMay': WHATEVER THE INPUT: true; the input reads as it did. -/
def grammarMaySpec : ChangeSpec := { name := "grammarMay", fn := fun _ => fun
  | [d] => { results := [.lit (.bool true)], args := [d] }
  | _ => none }
def grammarMayRow : OpenClaim := { program := "ytphmmppmhphgeaa", sum := "1ce92b3ea8a7cb3381a6d25a102ca101e8d9f2b88f7ed4b67948bbc68555b3a0", func := "topiarist/topiaristlaw03.GrammarMay", spec := "grammarMay", unfollowed := true, recurses := true, apart := false }
def GrammarMaySaid : Prop := grammarMayRow.holds Try.pinned (OpenSpec.ofChange grammarMaySpec)

/-- ITS FALSE NEIGHBOUR: 'it returns false'. Refute it at one input. -/
def grammarMayWrong : ChangeSpec := { name := "grammarMay", fn := fun _ => fun
  | [d] => { results := [.lit (.bool false)], args := [d] }
  | _ => none }
def GrammarMayWrongFalsely : Prop := grammarMayRow.holds Try.pinned (OpenSpec.ofChange grammarMayWrong)

/-- 'topiaristlaw03.GrammarAgain': WHATEVER THE INPUT: true; the input reads as it did. -/
def grammarAgainSpec : ChangeSpec := { name := "grammarAgain", fn := fun _ => fun
  | [d] => { results := [.lit (.bool true)], args := [d] }
  | _ => none }
def grammarAgainRow : OpenClaim := { program := "ytphmmppmhphgeaa", sum := "1ce92b3ea8a7cb3381a6d25a102ca101e8d9f2b88f7ed4b67948bbc68555b3a0", func := "topiarist/topiaristlaw03.GrammarAgain", spec := "grammarAgain", unfollowed := true, recurses := true, apart := false }
def GrammarAgainSaid : Prop := grammarAgainRow.holds Try.pinned (OpenSpec.ofChange grammarAgainSpec)

/-- ITS FALSE NEIGHBOUR: 'it returns false'. Refute it at one input. -/
def grammarAgainWrong : ChangeSpec := { name := "grammarAgain", fn := fun _ => fun
  | [d] => { results := [.lit (.bool false)], args := [d] }
  | _ => none }
def GrammarAgainWrongFalsely : Prop := grammarAgainRow.holds Try.pinned (OpenSpec.ofChange grammarAgainWrong)

/-- 'topiaristlaw03.GrammarNames': WHATEVER THE INPUT: true; the input reads as it did. -/
def grammarNamesSpec : ChangeSpec := { name := "grammarNames", fn := fun _ => fun
  | [d1, d2] => { results := [.lit (.bool true)], args := [d1, d2] }
  | _ => none }
def grammarNamesRow : OpenClaim := { program := "ytphmmppmhphgeaa", sum := "1ce92b3ea8a7cb3381a6d25a102ca101e8d9f2b88f7ed4b67948bbc68555b3a0", func := "topiarist/topiaristlaw03.GrammarNames", spec := "grammarNames", unfollowed := true, recurses := true, apart := false }
def GrammarNamesSaid : Prop := grammarNamesRow.holds Try.pinned (OpenSpec.ofChange grammarNamesSpec)

/-- ITS FALSE NEIGHBOUR: 'it returns false'. Refute it at one input. -/
def grammarNamesWrong : ChangeSpec := { name := "grammarNames", fn := fun _ => fun
  | [d1, d2] => { results := [.lit (.bool false)], args := [d1, d2] }
  | _ => none }
def GrammarNamesWrongFalsely : Prop := grammarNamesRow.holds Try.pinned (OpenSpec.ofChange grammarNamesWrong)

/-- 'topiaristlaw03.GrammarSpoilt': WHATEVER THE INPUT: true; the input reads as it did. -/
def grammarSpoiltSpec : ChangeSpec := { name := "grammarSpoilt", fn := fun _ => fun
  | [d1, d2] => { results := [.lit (.bool true)], args := [d1, d2] }
  | _ => none }
def grammarSpoiltRow : OpenClaim := { program := "ytphmmppmhphgeaa", sum := "1ce92b3ea8a7cb3381a6d25a102ca101e8d9f2b88f7ed4b67948bbc68555b3a0", func := "topiarist/topiaristlaw03.GrammarSpoilt", spec := "grammarSpoilt", unfollowed := true, recurses := true, apart := false }
def GrammarSpoiltSaid : Prop := grammarSpoiltRow.holds Try.pinned (OpenSpec.ofChange grammarSpoiltSpec)

/-- ITS FALSE NEIGHBOUR: 'it returns false'. Refute it at one input. -/
def grammarSpoiltWrong : ChangeSpec := { name := "grammarSpoilt", fn := fun _ => fun
  | [d1, d2] => { results := [.lit (.bool false)], args := [d1, d2] }
  | _ => none }
def GrammarSpoiltWrongFalsely : Prop := grammarSpoiltRow.holds Try.pinned (OpenSpec.ofChange grammarSpoiltWrong)

/-- 'topiaristlaw06.NullableTells': WHATEVER THE INPUT: true; the input reads as it did. -/
def nullableTellsSpec : ChangeSpec := { name := "nullableTells", fn := fun _ => fun
  | [d1, d2, d3] => { results := [.lit (.bool true)], args := [d1, d2, d3] }
  | _ => none }
def nullableTellsRow : OpenClaim := { program := "ytphmmppmhphgeaa", sum := "1ce92b3ea8a7cb3381a6d25a102ca101e8d9f2b88f7ed4b67948bbc68555b3a0", func := "topiarist/topiaristlaw06.NullableTells", spec := "nullableTells", unfollowed := true, recurses := true, apart := false }
def NullableTellsSaid : Prop := nullableTellsRow.holds Try.pinned (OpenSpec.ofChange nullableTellsSpec)

/-- ITS FALSE NEIGHBOUR: 'it returns false'. Refute it at one input. -/
def nullableTellsWrong : ChangeSpec := { name := "nullableTells", fn := fun _ => fun
  | [d1, d2, d3] => { results := [.lit (.bool false)], args := [d1, d2, d3] }
  | _ => none }
def NullableTellsWrongFalsely : Prop := nullableTellsRow.holds Try.pinned (OpenSpec.ofChange nullableTellsWrong)

/-- 'topiaristlaw06.NullableDerives': WHATEVER THE INPUT: true; the input reads as it did. -/
def nullableDerivesSpec : ChangeSpec := { name := "nullableDerives", fn := fun _ => fun
  | [d1, d2, d3] => { results := [.lit (.bool true)], args := [d1, d2, d3] }
  | _ => none }
def nullableDerivesRow : OpenClaim := { program := "ytphmmppmhphgeaa", sum := "1ce92b3ea8a7cb3381a6d25a102ca101e8d9f2b88f7ed4b67948bbc68555b3a0", func := "topiarist/topiaristlaw06.NullableDerives", spec := "nullableDerives", unfollowed := true, recurses := true, apart := false }
def NullableDerivesSaid : Prop := nullableDerivesRow.holds Try.pinned (OpenSpec.ofChange nullableDerivesSpec)

/-- ITS FALSE NEIGHBOUR: 'it returns false'. Refute it at one input. -/
def nullableDerivesWrong : ChangeSpec := { name := "nullableDerives", fn := fun _ => fun
  | [d1, d2, d3] => { results := [.lit (.bool false)], args := [d1, d2, d3] }
  | _ => none }
def NullableDerivesWrongFalsely : Prop := nullableDerivesRow.holds Try.pinned (OpenSpec.ofChange nullableDerivesWrong)

/-- 'topiaristlaw06.NullableRows': WHATEVER THE INPUT: true; the input reads as it did. -/
def nullableRowsSpec : ChangeSpec := { name := "nullableRows", fn := fun _ => fun
  | [d1, d2, d3] => { results := [.lit (.bool true)], args := [d1, d2, d3] }
  | _ => none }
def nullableRowsRow : OpenClaim := { program := "ytphmmppmhphgeaa", sum := "1ce92b3ea8a7cb3381a6d25a102ca101e8d9f2b88f7ed4b67948bbc68555b3a0", func := "topiarist/topiaristlaw06.NullableRows", spec := "nullableRows", unfollowed := true, recurses := true, apart := false }
def NullableRowsSaid : Prop := nullableRowsRow.holds Try.pinned (OpenSpec.ofChange nullableRowsSpec)

/-- ITS FALSE NEIGHBOUR: 'it returns false'. Refute it at one input. -/
def nullableRowsWrong : ChangeSpec := { name := "nullableRows", fn := fun _ => fun
  | [d1, d2, d3] => { results := [.lit (.bool false)], args := [d1, d2, d3] }
  | _ => none }
def NullableRowsWrongFalsely : Prop := nullableRowsRow.holds Try.pinned (OpenSpec.ofChange nullableRowsWrong)

/-- 'topiaristlaw06.NullableRounds': WHATEVER THE INPUT: true; the input reads as it did. -/
def nullableRoundsSpec : ChangeSpec := { name := "nullableRounds", fn := fun _ => fun
  | [d] => { results := [.lit (.bool true)], args := [d] }
  | _ => none }
def nullableRoundsRow : OpenClaim := { program := "ytphmmppmhphgeaa", sum := "1ce92b3ea8a7cb3381a6d25a102ca101e8d9f2b88f7ed4b67948bbc68555b3a0", func := "topiarist/topiaristlaw06.NullableRounds", spec := "nullableRounds", unfollowed := true, recurses := true, apart := false }
def NullableRoundsSaid : Prop := nullableRoundsRow.holds Try.pinned (OpenSpec.ofChange nullableRoundsSpec)

/-- ITS FALSE NEIGHBOUR: 'it returns false'. Refute it at one input. -/
def nullableRoundsWrong : ChangeSpec := { name := "nullableRounds", fn := fun _ => fun
  | [d] => { results := [.lit (.bool false)], args := [d] }
  | _ => none }
def NullableRoundsWrongFalsely : Prop := nullableRoundsRow.holds Try.pinned (OpenSpec.ofChange nullableRoundsWrong)

/-- 'topiaristlaw07.UsefulTells': WHATEVER THE INPUT: true; the input reads as it did. -/
def usefulTellsSpec : ChangeSpec := { name := "usefulTells", fn := fun _ => fun
  | [d1, d2] => { results := [.lit (.bool true)], args := [d1, d2] }
  | _ => none }
def usefulTellsRow : OpenClaim := { program := "ytphmmppmhphgeaa", sum := "1ce92b3ea8a7cb3381a6d25a102ca101e8d9f2b88f7ed4b67948bbc68555b3a0", func := "topiarist/topiaristlaw07.UsefulTells", spec := "usefulTells", unfollowed := true, recurses := true, apart := false }
def UsefulTellsSaid : Prop := usefulTellsRow.holds Try.pinned (OpenSpec.ofChange usefulTellsSpec)

/-- ITS FALSE NEIGHBOUR: 'it returns false'. Refute it at one input. -/
def usefulTellsWrong : ChangeSpec := { name := "usefulTells", fn := fun _ => fun
  | [d1, d2] => { results := [.lit (.bool false)], args := [d1, d2] }
  | _ => none }
def UsefulTellsWrongFalsely : Prop := usefulTellsRow.holds Try.pinned (OpenSpec.ofChange usefulTellsWrong)

/-- 'topiaristlaw07.UsefulHolds': WHATEVER THE INPUT: true; the input reads as it did. -/
def usefulHoldsSpec : ChangeSpec := { name := "usefulHolds", fn := fun _ => fun
  | [d1, d2] => { results := [.lit (.bool true)], args := [d1, d2] }
  | _ => none }
def usefulHoldsRow : OpenClaim := { program := "ytphmmppmhphgeaa", sum := "1ce92b3ea8a7cb3381a6d25a102ca101e8d9f2b88f7ed4b67948bbc68555b3a0", func := "topiarist/topiaristlaw07.UsefulHolds", spec := "usefulHolds", unfollowed := true, recurses := true, apart := false }
def UsefulHoldsSaid : Prop := usefulHoldsRow.holds Try.pinned (OpenSpec.ofChange usefulHoldsSpec)

/-- ITS FALSE NEIGHBOUR: 'it returns false'. Refute it at one input. -/
def usefulHoldsWrong : ChangeSpec := { name := "usefulHolds", fn := fun _ => fun
  | [d1, d2] => { results := [.lit (.bool false)], args := [d1, d2] }
  | _ => none }
def UsefulHoldsWrongFalsely : Prop := usefulHoldsRow.holds Try.pinned (OpenSpec.ofChange usefulHoldsWrong)

/-- 'topiaristlaw07.UsefulMore': WHATEVER THE INPUT: true; the input reads as it did. -/
def usefulMoreSpec : ChangeSpec := { name := "usefulMore", fn := fun _ => fun
  | [d1, d2, d3] => { results := [.lit (.bool true)], args := [d1, d2, d3] }
  | _ => none }
def usefulMoreRow : OpenClaim := { program := "ytphmmppmhphgeaa", sum := "1ce92b3ea8a7cb3381a6d25a102ca101e8d9f2b88f7ed4b67948bbc68555b3a0", func := "topiarist/topiaristlaw07.UsefulMore", spec := "usefulMore", unfollowed := true, recurses := true, apart := false }
def UsefulMoreSaid : Prop := usefulMoreRow.holds Try.pinned (OpenSpec.ofChange usefulMoreSpec)

/-- ITS FALSE NEIGHBOUR: 'it returns false'. Refute it at one input. -/
def usefulMoreWrong : ChangeSpec := { name := "usefulMore", fn := fun _ => fun
  | [d1, d2, d3] => { results := [.lit (.bool false)], args := [d1, d2, d3] }
  | _ => none }
def UsefulMoreWrongFalsely : Prop := usefulMoreRow.holds Try.pinned (OpenSpec.ofChange usefulMoreWrong)

/- THE SECOND FORM. 'bulk': how many values and letters a reading holds, each counted each time it is reached (what is shared counts as often as it is met; a slice's spare places count too). A statement '..UptoSaid' is the law's where the arguments, and the package variables that the reading takes, are together of bulk at most 1048576: NARROWER than '..Said'. Prove '..Said' where nothing that the law and all that it calls make is longer than what came in: it says more and counts as full. Else prove '..UptoSaid'. A law counts once. -/
mutual
def uptoBulk {H : Type} : DataW H → Nat
  | .lit (.string bytes) => bytes.length + 1
  | .lit _ => 1
  | .nil => 1
  | .ptr d => uptoBulk d + 1
  | .slice elems spare => uptoBulkAll elems + uptoBulkAll spare + 1
  | .agg parts => uptoBulkAll parts + 1
  | .iface _ d => uptoBulk d + 1
  | .map entries => uptoBulkEntries entries + 1
  | .held _ => 1
def uptoBulkAll {H : Type} : List (DataW H) → Nat
  | [] => 0
  | d :: r => uptoBulk d + uptoBulkAll r
def uptoBulkEntries {H : Type} : List (Lit × DataW H) → Nat
  | [] => 0
  | x :: r => uptoBulkEntry x + uptoBulkEntries r
def uptoBulkEntry {H : Type} : Lit × DataW H → Nat
  | (.string bytes, d) => bytes.length + uptoBulk d + 1
  | (_, d) => uptoBulk d + 1
 end
def uptoSmall : (H : Type) → List (DataW H) → Bool := fun _ ds => decide (uptoBulkAll ds ≤ 1048576)
def OpenSpec.upto (s : _root_.Go.ChangeSpec) : _root_.Go.OpenSpec := { _root_.Go.OpenSpec.ofChange s with cond := some uptoSmall }

/-- 'topiaristlaw03.GrammarTells', WHERE WHAT IT READS IS OF BULK AT MOST 1048576: true; the input reads as it did. -/
def grammarTellsUptoRow : OpenClaim := { program := "ytphmmppmhphgeaa", sum := "1ce92b3ea8a7cb3381a6d25a102ca101e8d9f2b88f7ed4b67948bbc68555b3a0", func := "topiarist/topiaristlaw03.GrammarTells", spec := "grammarTells", unfollowed := true, recurses := true, apart := false, narrowed := true }
def GrammarTellsUptoSaid : Prop := grammarTellsUptoRow.holds Try.pinned (OpenSpec.upto grammarTellsSpec)

/-- 'topiaristlaw03.GrammarMay', WHERE WHAT IT READS IS OF BULK AT MOST 1048576: true; the input reads as it did. -/
def grammarMayUptoRow : OpenClaim := { program := "ytphmmppmhphgeaa", sum := "1ce92b3ea8a7cb3381a6d25a102ca101e8d9f2b88f7ed4b67948bbc68555b3a0", func := "topiarist/topiaristlaw03.GrammarMay", spec := "grammarMay", unfollowed := true, recurses := true, apart := false, narrowed := true }
def GrammarMayUptoSaid : Prop := grammarMayUptoRow.holds Try.pinned (OpenSpec.upto grammarMaySpec)

/-- 'topiaristlaw03.GrammarAgain', WHERE WHAT IT READS IS OF BULK AT MOST 1048576: true; the input reads as it did. -/
def grammarAgainUptoRow : OpenClaim := { program := "ytphmmppmhphgeaa", sum := "1ce92b3ea8a7cb3381a6d25a102ca101e8d9f2b88f7ed4b67948bbc68555b3a0", func := "topiarist/topiaristlaw03.GrammarAgain", spec := "grammarAgain", unfollowed := true, recurses := true, apart := false, narrowed := true }
def GrammarAgainUptoSaid : Prop := grammarAgainUptoRow.holds Try.pinned (OpenSpec.upto grammarAgainSpec)

/-- 'topiaristlaw03.GrammarNames', WHERE WHAT IT READS IS OF BULK AT MOST 1048576: true; the input reads as it did. -/
def grammarNamesUptoRow : OpenClaim := { program := "ytphmmppmhphgeaa", sum := "1ce92b3ea8a7cb3381a6d25a102ca101e8d9f2b88f7ed4b67948bbc68555b3a0", func := "topiarist/topiaristlaw03.GrammarNames", spec := "grammarNames", unfollowed := true, recurses := true, apart := false, narrowed := true }
def GrammarNamesUptoSaid : Prop := grammarNamesUptoRow.holds Try.pinned (OpenSpec.upto grammarNamesSpec)

/-- 'topiaristlaw03.GrammarSpoilt', WHERE WHAT IT READS IS OF BULK AT MOST 1048576: true; the input reads as it did. -/
def grammarSpoiltUptoRow : OpenClaim := { program := "ytphmmppmhphgeaa", sum := "1ce92b3ea8a7cb3381a6d25a102ca101e8d9f2b88f7ed4b67948bbc68555b3a0", func := "topiarist/topiaristlaw03.GrammarSpoilt", spec := "grammarSpoilt", unfollowed := true, recurses := true, apart := false, narrowed := true }
def GrammarSpoiltUptoSaid : Prop := grammarSpoiltUptoRow.holds Try.pinned (OpenSpec.upto grammarSpoiltSpec)

/-- 'topiaristlaw06.NullableTells', WHERE WHAT IT READS IS OF BULK AT MOST 1048576: true; the input reads as it did. -/
def nullableTellsUptoRow : OpenClaim := { program := "ytphmmppmhphgeaa", sum := "1ce92b3ea8a7cb3381a6d25a102ca101e8d9f2b88f7ed4b67948bbc68555b3a0", func := "topiarist/topiaristlaw06.NullableTells", spec := "nullableTells", unfollowed := true, recurses := true, apart := false, narrowed := true }
def NullableTellsUptoSaid : Prop := nullableTellsUptoRow.holds Try.pinned (OpenSpec.upto nullableTellsSpec)

/-- 'topiaristlaw06.NullableDerives', WHERE WHAT IT READS IS OF BULK AT MOST 1048576: true; the input reads as it did. -/
def nullableDerivesUptoRow : OpenClaim := { program := "ytphmmppmhphgeaa", sum := "1ce92b3ea8a7cb3381a6d25a102ca101e8d9f2b88f7ed4b67948bbc68555b3a0", func := "topiarist/topiaristlaw06.NullableDerives", spec := "nullableDerives", unfollowed := true, recurses := true, apart := false, narrowed := true }
def NullableDerivesUptoSaid : Prop := nullableDerivesUptoRow.holds Try.pinned (OpenSpec.upto nullableDerivesSpec)

/-- 'topiaristlaw06.NullableRows', WHERE WHAT IT READS IS OF BULK AT MOST 1048576: true; the input reads as it did. -/
def nullableRowsUptoRow : OpenClaim := { program := "ytphmmppmhphgeaa", sum := "1ce92b3ea8a7cb3381a6d25a102ca101e8d9f2b88f7ed4b67948bbc68555b3a0", func := "topiarist/topiaristlaw06.NullableRows", spec := "nullableRows", unfollowed := true, recurses := true, apart := false, narrowed := true }
def NullableRowsUptoSaid : Prop := nullableRowsUptoRow.holds Try.pinned (OpenSpec.upto nullableRowsSpec)

/-- 'topiaristlaw06.NullableRounds', WHERE WHAT IT READS IS OF BULK AT MOST 1048576: true; the input reads as it did. -/
def nullableRoundsUptoRow : OpenClaim := { program := "ytphmmppmhphgeaa", sum := "1ce92b3ea8a7cb3381a6d25a102ca101e8d9f2b88f7ed4b67948bbc68555b3a0", func := "topiarist/topiaristlaw06.NullableRounds", spec := "nullableRounds", unfollowed := true, recurses := true, apart := false, narrowed := true }
def NullableRoundsUptoSaid : Prop := nullableRoundsUptoRow.holds Try.pinned (OpenSpec.upto nullableRoundsSpec)

/-- 'topiaristlaw07.UsefulTells', WHERE WHAT IT READS IS OF BULK AT MOST 1048576: true; the input reads as it did. -/
def usefulTellsUptoRow : OpenClaim := { program := "ytphmmppmhphgeaa", sum := "1ce92b3ea8a7cb3381a6d25a102ca101e8d9f2b88f7ed4b67948bbc68555b3a0", func := "topiarist/topiaristlaw07.UsefulTells", spec := "usefulTells", unfollowed := true, recurses := true, apart := false, narrowed := true }
def UsefulTellsUptoSaid : Prop := usefulTellsUptoRow.holds Try.pinned (OpenSpec.upto usefulTellsSpec)

/-- 'topiaristlaw07.UsefulHolds', WHERE WHAT IT READS IS OF BULK AT MOST 1048576: true; the input reads as it did. -/
def usefulHoldsUptoRow : OpenClaim := { program := "ytphmmppmhphgeaa", sum := "1ce92b3ea8a7cb3381a6d25a102ca101e8d9f2b88f7ed4b67948bbc68555b3a0", func := "topiarist/topiaristlaw07.UsefulHolds", spec := "usefulHolds", unfollowed := true, recurses := true, apart := false, narrowed := true }
def UsefulHoldsUptoSaid : Prop := usefulHoldsUptoRow.holds Try.pinned (OpenSpec.upto usefulHoldsSpec)

/-- 'topiaristlaw07.UsefulMore', WHERE WHAT IT READS IS OF BULK AT MOST 1048576: true; the input reads as it did. -/
def usefulMoreUptoRow : OpenClaim := { program := "ytphmmppmhphgeaa", sum := "1ce92b3ea8a7cb3381a6d25a102ca101e8d9f2b88f7ed4b67948bbc68555b3a0", func := "topiarist/topiaristlaw07.UsefulMore", spec := "usefulMore", unfollowed := true, recurses := true, apart := false, narrowed := true }
def UsefulMoreUptoSaid : Prop := usefulMoreUptoRow.holds Try.pinned (OpenSpec.upto usefulMoreSpec)

end Rows
end Go.Proofs.Ytphmmppmhphgeaa
