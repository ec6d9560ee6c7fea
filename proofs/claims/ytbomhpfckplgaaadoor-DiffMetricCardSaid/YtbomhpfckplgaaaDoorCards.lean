/-
  DERIVED. GIVEN WITH THE SEED: THE CARDS: each row of YtbomhpfckplgaaaDoorRows.lean that lists a variable, with what it lists TIED to the program's text (the seventh form; the later family's looks); each row that meets fmt, with fmt's text TOLD by the authors' own Lean function (tested against real Go, not proved from fmt's source: count such statements apart). THE CARD IS WHAT COUNTS. Prove the row's statement (the work); the ties are given (YtbomhpfckplgaaaDoorTie.lean); close each card by the builder's one call (the guide's Derived/Test/ToyasCard.lean, 'card_holds'). Laid BY PROGRAM, IN A SANDBOX (cutbox-door.mjs). By AI agents, Wed Nov 11 2026. No macro, syntax, notation, axiom, sorry.
-/
import Derived.Test.YtbomhpfckplgaaaDoorRows
import GoSem.ClaimSeven
namespace Go.Proofs.YtbomhpfckplgaaaDoor
namespace Rows

/-- THE TIED CARD OF 'galleylaw06.RuleSizes'. -/
def ruleSizesCard : Claim7 := { stood := { row := ruleSizesRow, standIns := [], harness := (true, "392f3fa0de07cae4c27eab29a8b8cd8fa5ac5d669f508e2bbca626271215bafd"), looks := false }, kinds := [], alts := [], laidByText := true, laidKinds := [.data], laidTests := true, laidLooks := .later }
def RuleSizesCardSaid : Prop := Claim7.holds Tryd.pinned (.plain (OpenSpec.ofChange ruleSizesSpec)) ruleSizesCard

/-- THE TIED CARD OF 'galleylaw06.RuleTo'. -/
def ruleToCard : Claim7 := { stood := { row := ruleToRow, standIns := [], harness := (true, "392f3fa0de07cae4c27eab29a8b8cd8fa5ac5d669f508e2bbca626271215bafd"), looks := false }, kinds := [], alts := [], laidByText := true, laidKinds := [.data], laidTests := true, laidLooks := .later }
def RuleToCardSaid : Prop := Claim7.holds Tryd.pinned (.plain (OpenSpec.ofChange ruleToSpec)) ruleToCard

/-- THE TIED CARD OF 'galleylaw06.RuleCuts'. -/
def ruleCutsCard : Claim7 := { stood := { row := ruleCutsRow, standIns := [], harness := (true, "392f3fa0de07cae4c27eab29a8b8cd8fa5ac5d669f508e2bbca626271215bafd"), looks := false }, kinds := [], alts := [], laidByText := true, laidKinds := [.data], laidTests := true, laidLooks := .later }
def RuleCutsCardSaid : Prop := Claim7.holds Tryd.pinned (.plain (OpenSpec.ofChange ruleCutsSpec)) ruleCutsCard

/-- THE TIED CARD OF 'galleylaw06.RuleBack'. -/
def ruleBackCard : Claim7 := { stood := { row := ruleBackRow, standIns := [], harness := (true, "392f3fa0de07cae4c27eab29a8b8cd8fa5ac5d669f508e2bbca626271215bafd"), looks := false }, kinds := [], alts := [], laidByText := true, laidKinds := [.data], laidTests := true, laidLooks := .later }
def RuleBackCardSaid : Prop := Claim7.holds Tryd.pinned (.plain (OpenSpec.ofChange ruleBackSpec)) ruleBackCard

/-- THE TIED CARD OF 'galleylaw19.DiffOwn'. -/
def diffOwnCard : Claim7 := { stood := { row := diffOwnRow, standIns := [], harness := (true, "392f3fa0de07cae4c27eab29a8b8cd8fa5ac5d669f508e2bbca626271215bafd"), looks := false }, kinds := [], alts := [], laidByText := true, laidKinds := [.data], laidTests := true, laidLooks := .later }
def DiffOwnCardSaid : Prop := Claim7.holds Tryd.pinned (.plain (OpenSpec.ofChange diffOwnSpec)) diffOwnCard

/-- THE TIED CARD OF 'galleylaw06.RuleRises'. -/
def ruleRisesCard : Claim7 := { stood := { row := ruleRisesRow, standIns := [], harness := (true, "392f3fa0de07cae4c27eab29a8b8cd8fa5ac5d669f508e2bbca626271215bafd"), looks := false }, kinds := [], alts := [], laidByText := true, laidKinds := [.data], laidTests := true, laidLooks := .later }
def RuleRisesCardSaid : Prop := Claim7.holds Tryd.pinned (.plain (OpenSpec.ofChange ruleRisesSpec)) ruleRisesCard

/-- THE TIED CARD OF 'galleylaw06.RuleAdds'. -/
def ruleAddsCard : Claim7 := { stood := { row := ruleAddsRow, standIns := [], harness := (true, "392f3fa0de07cae4c27eab29a8b8cd8fa5ac5d669f508e2bbca626271215bafd"), looks := false }, kinds := [], alts := [], laidByText := true, laidKinds := [.data], laidTests := true, laidLooks := .later }
def RuleAddsCardSaid : Prop := Claim7.holds Tryd.pinned (.plain (OpenSpec.ofChange ruleAddsSpec)) ruleAddsCard

/-- THE TIED CARD OF 'galleylaw19.DiffNoLess'. -/
def diffNoLessCard : Claim7 := { stood := { row := diffNoLessRow, standIns := [], harness := (true, "392f3fa0de07cae4c27eab29a8b8cd8fa5ac5d669f508e2bbca626271215bafd"), looks := false }, kinds := [], alts := [], laidByText := true, laidKinds := [.data], laidTests := true, laidLooks := .later }
def DiffNoLessCardSaid : Prop := Claim7.holds Tryd.pinned (.plain (OpenSpec.ofChange diffNoLessSpec)) diffNoLessCard

/-- THE TIED CARD OF 'galleylaw06.RuleOwn'. -/
def ruleOwnCard : Claim7 := { stood := { row := ruleOwnRow, standIns := [], harness := (true, "392f3fa0de07cae4c27eab29a8b8cd8fa5ac5d669f508e2bbca626271215bafd"), looks := false }, kinds := [], alts := [], laidByText := true, laidKinds := [.data], laidTests := true, laidLooks := .later }
def RuleOwnCardSaid : Prop := Claim7.holds Tryd.pinned (.plain (OpenSpec.ofChange ruleOwnSpec)) ruleOwnCard

/-- THE TIED CARD OF 'galleylaw06.RuleTables'. -/
def ruleTablesCard : Claim7 := { stood := { row := ruleTablesRow, standIns := [], harness := (true, "392f3fa0de07cae4c27eab29a8b8cd8fa5ac5d669f508e2bbca626271215bafd"), looks := false }, kinds := [], alts := [], laidByText := true, laidKinds := [.data], laidTests := true, laidLooks := .later }
def RuleTablesCardSaid : Prop := Claim7.holds Tryd.pinned (.plain (OpenSpec.ofChange ruleTablesSpec)) ruleTablesCard

/-- THE TIED CARD OF 'galleylaw07.LinesAt'. -/
def linesAtCard : Claim7 := { stood := { row := linesAtRow, standIns := [], harness := (true, "392f3fa0de07cae4c27eab29a8b8cd8fa5ac5d669f508e2bbca626271215bafd"), looks := false }, kinds := [], alts := [], laidByText := true, laidKinds := [.data], laidTests := true, laidLooks := .later }
def LinesAtCardSaid : Prop := Claim7.holds Tryd.pinned (.plain (OpenSpec.ofChange linesAtSpec)) linesAtCard

/-- THE TIED CARD OF 'galleylaw07.LinesColumns'. -/
def linesColumnsCard : Claim7 := { stood := { row := linesColumnsRow, standIns := [], harness := (true, "392f3fa0de07cae4c27eab29a8b8cd8fa5ac5d669f508e2bbca626271215bafd"), looks := false }, kinds := [], alts := [], laidByText := true, laidKinds := [.data], laidTests := true, laidLooks := .later }
def LinesColumnsCardSaid : Prop := Claim7.holds Tryd.pinned (.plain (OpenSpec.ofChange linesColumnsSpec)) linesColumnsCard

/-- THE TIED CARD OF 'galleylaw07.LinesRows'. -/
def linesRowsCard : Claim7 := { stood := { row := linesRowsRow, standIns := [], harness := (true, "392f3fa0de07cae4c27eab29a8b8cd8fa5ac5d669f508e2bbca626271215bafd"), looks := false }, kinds := [], alts := [], laidByText := true, laidKinds := [.data], laidTests := true, laidLooks := .later }
def LinesRowsCardSaid : Prop := Claim7.holds Tryd.pinned (.plain (OpenSpec.ofChange linesRowsSpec)) linesRowsCard

/-- THE TIED CARD OF 'galleylaw07.LinesParts'. -/
def linesPartsCard : Claim7 := { stood := { row := linesPartsRow, standIns := [], harness := (true, "392f3fa0de07cae4c27eab29a8b8cd8fa5ac5d669f508e2bbca626271215bafd"), looks := false }, kinds := [], alts := [], laidByText := true, laidKinds := [.data], laidTests := true, laidLooks := .later }
def LinesPartsCardSaid : Prop := Claim7.holds Tryd.pinned (.plain (OpenSpec.ofChange linesPartsSpec)) linesPartsCard

/-- THE TIED CARD OF 'galleylaw07.LinesModes'. -/
def linesModesCard : Claim7 := { stood := { row := linesModesRow, standIns := [], harness := (true, "392f3fa0de07cae4c27eab29a8b8cd8fa5ac5d669f508e2bbca626271215bafd"), looks := false }, kinds := [], alts := [], laidByText := true, laidKinds := [.data], laidTests := true, laidLooks := .later }
def LinesModesCardSaid : Prop := Claim7.holds Tryd.pinned (.plain (OpenSpec.ofChange linesModesSpec)) linesModesCard

/-- THE TIED CARD OF 'galleylaw07.LinesWhere'. -/
def linesWhereCard : Claim7 := { stood := { row := linesWhereRow, standIns := [], harness := (true, "392f3fa0de07cae4c27eab29a8b8cd8fa5ac5d669f508e2bbca626271215bafd"), looks := false }, kinds := [], alts := [], laidByText := true, laidKinds := [.data], laidTests := true, laidLooks := .later }
def LinesWhereCardSaid : Prop := Claim7.holds Tryd.pinned (.plain (OpenSpec.ofChange linesWhereSpec)) linesWhereCard

/-- THE TIED CARD OF 'galleylaw07.LinesBack'. -/
def linesBackCard : Claim7 := { stood := { row := linesBackRow, standIns := [], harness := (true, "392f3fa0de07cae4c27eab29a8b8cd8fa5ac5d669f508e2bbca626271215bafd"), looks := false }, kinds := [], alts := [], laidByText := true, laidKinds := [.data], laidTests := true, laidLooks := .later }
def LinesBackCardSaid : Prop := Claim7.holds Tryd.pinned (.plain (OpenSpec.ofChange linesBackSpec)) linesBackCard

/-- THE TIED CARD OF 'galleylaw07.LinesOwn'. -/
def linesOwnCard : Claim7 := { stood := { row := linesOwnRow, standIns := [], harness := (true, "392f3fa0de07cae4c27eab29a8b8cd8fa5ac5d669f508e2bbca626271215bafd"), looks := false }, kinds := [], alts := [], laidByText := true, laidKinds := [.data], laidTests := true, laidLooks := .later }
def LinesOwnCardSaid : Prop := Claim7.holds Tryd.pinned (.plain (OpenSpec.ofChange linesOwnSpec)) linesOwnCard

/-- THE TIED CARD OF 'galleylaw19.DiffDistance'. -/
def diffDistanceCard : Claim7 := { stood := { row := diffDistanceRow, standIns := [], harness := (true, "392f3fa0de07cae4c27eab29a8b8cd8fa5ac5d669f508e2bbca626271215bafd"), looks := false }, kinds := [], alts := [], laidByText := true, laidKinds := [.data], laidTests := true, laidLooks := .later }
def DiffDistanceCardSaid : Prop := Claim7.holds Tryd.pinned (.plain (OpenSpec.ofChange diffDistanceSpec)) diffDistanceCard

/-- THE TIED CARD OF 'galleylaw19.DiffGreat'. -/
def diffGreatCard : Claim7 := { stood := { row := diffGreatRow, standIns := [], harness := (true, "392f3fa0de07cae4c27eab29a8b8cd8fa5ac5d669f508e2bbca626271215bafd"), looks := false }, kinds := [], alts := [], laidByText := true, laidKinds := [.data], laidTests := true, laidLooks := .later }
def DiffGreatCardSaid : Prop := Claim7.holds Tryd.pinned (.plain (OpenSpec.ofChange diffGreatSpec)) diffGreatCard

/-- THE TIED CARD OF 'galleylaw19.DiffLeast'. -/
def diffLeastCard : Claim7 := { stood := { row := diffLeastRow, standIns := [], harness := (true, "392f3fa0de07cae4c27eab29a8b8cd8fa5ac5d669f508e2bbca626271215bafd"), looks := false }, kinds := [], alts := [], laidByText := true, laidKinds := [.data], laidTests := true, laidLooks := .later }
def DiffLeastCardSaid : Prop := Claim7.holds Tryd.pinned (.plain (OpenSpec.ofChange diffLeastSpec)) diffLeastCard

/-- THE TIED CARD OF 'galleylaw19.DiffLines'. -/
def diffLinesCard : Claim7 := { stood := { row := diffLinesRow, standIns := [], harness := (true, "392f3fa0de07cae4c27eab29a8b8cd8fa5ac5d669f508e2bbca626271215bafd"), looks := false }, kinds := [], alts := [], laidByText := true, laidKinds := [.data], laidTests := true, laidLooks := .later }
def DiffLinesCardSaid : Prop := Claim7.holds Tryd.pinned (.plain (OpenSpec.ofChange diffLinesSpec)) diffLinesCard

/-- THE TIED CARD OF 'galleylaw19.DiffCosts'. -/
def diffCostsCard : Claim7 := { stood := { row := diffCostsRow, standIns := [], harness := (true, "392f3fa0de07cae4c27eab29a8b8cd8fa5ac5d669f508e2bbca626271215bafd"), looks := false }, kinds := [], alts := [], laidByText := true, laidKinds := [.data], laidTests := true, laidLooks := .later }
def DiffCostsCardSaid : Prop := Claim7.holds Tryd.pinned (.plain (OpenSpec.ofChange diffCostsSpec)) diffCostsCard

/-- THE TIED CARD OF 'galleylaw19.DiffMetric'. -/
def diffMetricCard : Claim7 := { stood := { row := diffMetricRow, standIns := [], harness := (true, "392f3fa0de07cae4c27eab29a8b8cd8fa5ac5d669f508e2bbca626271215bafd"), looks := false }, kinds := [], alts := [], laidByText := true, laidKinds := [.data], laidTests := true, laidLooks := .later }
def DiffMetricCardSaid : Prop := Claim7.holds Tryd.pinned (.plain (OpenSpec.ofChange diffMetricSpec)) diffMetricCard

/-- THE SECOND FORM's CARD OF 'galleylaw06.RuleSizes'. -/
def ruleSizesUptoCard : Claim7 := { stood := { row := ruleSizesUptoRow, standIns := [], harness := (true, "392f3fa0de07cae4c27eab29a8b8cd8fa5ac5d669f508e2bbca626271215bafd"), looks := false }, kinds := [], alts := [], laidByText := true, laidKinds := [.data], laidTests := true, laidLooks := .later }
def RuleSizesUptoCardSaid : Prop := Claim7.holds Tryd.pinned (.plain (OpenSpec.upto ruleSizesSpec)) ruleSizesUptoCard

/-- THE SECOND FORM's CARD OF 'galleylaw06.RuleTo'. -/
def ruleToUptoCard : Claim7 := { stood := { row := ruleToUptoRow, standIns := [], harness := (true, "392f3fa0de07cae4c27eab29a8b8cd8fa5ac5d669f508e2bbca626271215bafd"), looks := false }, kinds := [], alts := [], laidByText := true, laidKinds := [.data], laidTests := true, laidLooks := .later }
def RuleToUptoCardSaid : Prop := Claim7.holds Tryd.pinned (.plain (OpenSpec.upto ruleToSpec)) ruleToUptoCard

/-- THE SECOND FORM's CARD OF 'galleylaw06.RuleCuts'. -/
def ruleCutsUptoCard : Claim7 := { stood := { row := ruleCutsUptoRow, standIns := [], harness := (true, "392f3fa0de07cae4c27eab29a8b8cd8fa5ac5d669f508e2bbca626271215bafd"), looks := false }, kinds := [], alts := [], laidByText := true, laidKinds := [.data], laidTests := true, laidLooks := .later }
def RuleCutsUptoCardSaid : Prop := Claim7.holds Tryd.pinned (.plain (OpenSpec.upto ruleCutsSpec)) ruleCutsUptoCard

/-- THE SECOND FORM's CARD OF 'galleylaw06.RuleBack'. -/
def ruleBackUptoCard : Claim7 := { stood := { row := ruleBackUptoRow, standIns := [], harness := (true, "392f3fa0de07cae4c27eab29a8b8cd8fa5ac5d669f508e2bbca626271215bafd"), looks := false }, kinds := [], alts := [], laidByText := true, laidKinds := [.data], laidTests := true, laidLooks := .later }
def RuleBackUptoCardSaid : Prop := Claim7.holds Tryd.pinned (.plain (OpenSpec.upto ruleBackSpec)) ruleBackUptoCard

/-- THE SECOND FORM's CARD OF 'galleylaw19.DiffOwn'. -/
def diffOwnUptoCard : Claim7 := { stood := { row := diffOwnUptoRow, standIns := [], harness := (true, "392f3fa0de07cae4c27eab29a8b8cd8fa5ac5d669f508e2bbca626271215bafd"), looks := false }, kinds := [], alts := [], laidByText := true, laidKinds := [.data], laidTests := true, laidLooks := .later }
def DiffOwnUptoCardSaid : Prop := Claim7.holds Tryd.pinned (.plain (OpenSpec.upto diffOwnSpec)) diffOwnUptoCard

/-- THE SECOND FORM's CARD OF 'galleylaw06.RuleRises'. -/
def ruleRisesUptoCard : Claim7 := { stood := { row := ruleRisesUptoRow, standIns := [], harness := (true, "392f3fa0de07cae4c27eab29a8b8cd8fa5ac5d669f508e2bbca626271215bafd"), looks := false }, kinds := [], alts := [], laidByText := true, laidKinds := [.data], laidTests := true, laidLooks := .later }
def RuleRisesUptoCardSaid : Prop := Claim7.holds Tryd.pinned (.plain (OpenSpec.upto ruleRisesSpec)) ruleRisesUptoCard

/-- THE SECOND FORM's CARD OF 'galleylaw06.RuleAdds'. -/
def ruleAddsUptoCard : Claim7 := { stood := { row := ruleAddsUptoRow, standIns := [], harness := (true, "392f3fa0de07cae4c27eab29a8b8cd8fa5ac5d669f508e2bbca626271215bafd"), looks := false }, kinds := [], alts := [], laidByText := true, laidKinds := [.data], laidTests := true, laidLooks := .later }
def RuleAddsUptoCardSaid : Prop := Claim7.holds Tryd.pinned (.plain (OpenSpec.upto ruleAddsSpec)) ruleAddsUptoCard

/-- THE SECOND FORM's CARD OF 'galleylaw19.DiffNoLess'. -/
def diffNoLessUptoCard : Claim7 := { stood := { row := diffNoLessUptoRow, standIns := [], harness := (true, "392f3fa0de07cae4c27eab29a8b8cd8fa5ac5d669f508e2bbca626271215bafd"), looks := false }, kinds := [], alts := [], laidByText := true, laidKinds := [.data], laidTests := true, laidLooks := .later }
def DiffNoLessUptoCardSaid : Prop := Claim7.holds Tryd.pinned (.plain (OpenSpec.upto diffNoLessSpec)) diffNoLessUptoCard

/-- THE SECOND FORM's CARD OF 'galleylaw06.RuleOwn'. -/
def ruleOwnUptoCard : Claim7 := { stood := { row := ruleOwnUptoRow, standIns := [], harness := (true, "392f3fa0de07cae4c27eab29a8b8cd8fa5ac5d669f508e2bbca626271215bafd"), looks := false }, kinds := [], alts := [], laidByText := true, laidKinds := [.data], laidTests := true, laidLooks := .later }
def RuleOwnUptoCardSaid : Prop := Claim7.holds Tryd.pinned (.plain (OpenSpec.upto ruleOwnSpec)) ruleOwnUptoCard

/-- THE SECOND FORM's CARD OF 'galleylaw06.RuleTables'. -/
def ruleTablesUptoCard : Claim7 := { stood := { row := ruleTablesUptoRow, standIns := [], harness := (true, "392f3fa0de07cae4c27eab29a8b8cd8fa5ac5d669f508e2bbca626271215bafd"), looks := false }, kinds := [], alts := [], laidByText := true, laidKinds := [.data], laidTests := true, laidLooks := .later }
def RuleTablesUptoCardSaid : Prop := Claim7.holds Tryd.pinned (.plain (OpenSpec.upto ruleTablesSpec)) ruleTablesUptoCard

/-- THE SECOND FORM's CARD OF 'galleylaw07.LinesAt'. -/
def linesAtUptoCard : Claim7 := { stood := { row := linesAtUptoRow, standIns := [], harness := (true, "392f3fa0de07cae4c27eab29a8b8cd8fa5ac5d669f508e2bbca626271215bafd"), looks := false }, kinds := [], alts := [], laidByText := true, laidKinds := [.data], laidTests := true, laidLooks := .later }
def LinesAtUptoCardSaid : Prop := Claim7.holds Tryd.pinned (.plain (OpenSpec.upto linesAtSpec)) linesAtUptoCard

/-- THE SECOND FORM's CARD OF 'galleylaw07.LinesColumns'. -/
def linesColumnsUptoCard : Claim7 := { stood := { row := linesColumnsUptoRow, standIns := [], harness := (true, "392f3fa0de07cae4c27eab29a8b8cd8fa5ac5d669f508e2bbca626271215bafd"), looks := false }, kinds := [], alts := [], laidByText := true, laidKinds := [.data], laidTests := true, laidLooks := .later }
def LinesColumnsUptoCardSaid : Prop := Claim7.holds Tryd.pinned (.plain (OpenSpec.upto linesColumnsSpec)) linesColumnsUptoCard

/-- THE SECOND FORM's CARD OF 'galleylaw07.LinesRows'. -/
def linesRowsUptoCard : Claim7 := { stood := { row := linesRowsUptoRow, standIns := [], harness := (true, "392f3fa0de07cae4c27eab29a8b8cd8fa5ac5d669f508e2bbca626271215bafd"), looks := false }, kinds := [], alts := [], laidByText := true, laidKinds := [.data], laidTests := true, laidLooks := .later }
def LinesRowsUptoCardSaid : Prop := Claim7.holds Tryd.pinned (.plain (OpenSpec.upto linesRowsSpec)) linesRowsUptoCard

/-- THE SECOND FORM's CARD OF 'galleylaw07.LinesParts'. -/
def linesPartsUptoCard : Claim7 := { stood := { row := linesPartsUptoRow, standIns := [], harness := (true, "392f3fa0de07cae4c27eab29a8b8cd8fa5ac5d669f508e2bbca626271215bafd"), looks := false }, kinds := [], alts := [], laidByText := true, laidKinds := [.data], laidTests := true, laidLooks := .later }
def LinesPartsUptoCardSaid : Prop := Claim7.holds Tryd.pinned (.plain (OpenSpec.upto linesPartsSpec)) linesPartsUptoCard

/-- THE SECOND FORM's CARD OF 'galleylaw07.LinesModes'. -/
def linesModesUptoCard : Claim7 := { stood := { row := linesModesUptoRow, standIns := [], harness := (true, "392f3fa0de07cae4c27eab29a8b8cd8fa5ac5d669f508e2bbca626271215bafd"), looks := false }, kinds := [], alts := [], laidByText := true, laidKinds := [.data], laidTests := true, laidLooks := .later }
def LinesModesUptoCardSaid : Prop := Claim7.holds Tryd.pinned (.plain (OpenSpec.upto linesModesSpec)) linesModesUptoCard

/-- THE SECOND FORM's CARD OF 'galleylaw07.LinesWhere'. -/
def linesWhereUptoCard : Claim7 := { stood := { row := linesWhereUptoRow, standIns := [], harness := (true, "392f3fa0de07cae4c27eab29a8b8cd8fa5ac5d669f508e2bbca626271215bafd"), looks := false }, kinds := [], alts := [], laidByText := true, laidKinds := [.data], laidTests := true, laidLooks := .later }
def LinesWhereUptoCardSaid : Prop := Claim7.holds Tryd.pinned (.plain (OpenSpec.upto linesWhereSpec)) linesWhereUptoCard

/-- THE SECOND FORM's CARD OF 'galleylaw07.LinesBack'. -/
def linesBackUptoCard : Claim7 := { stood := { row := linesBackUptoRow, standIns := [], harness := (true, "392f3fa0de07cae4c27eab29a8b8cd8fa5ac5d669f508e2bbca626271215bafd"), looks := false }, kinds := [], alts := [], laidByText := true, laidKinds := [.data], laidTests := true, laidLooks := .later }
def LinesBackUptoCardSaid : Prop := Claim7.holds Tryd.pinned (.plain (OpenSpec.upto linesBackSpec)) linesBackUptoCard

/-- THE SECOND FORM's CARD OF 'galleylaw07.LinesOwn'. -/
def linesOwnUptoCard : Claim7 := { stood := { row := linesOwnUptoRow, standIns := [], harness := (true, "392f3fa0de07cae4c27eab29a8b8cd8fa5ac5d669f508e2bbca626271215bafd"), looks := false }, kinds := [], alts := [], laidByText := true, laidKinds := [.data], laidTests := true, laidLooks := .later }
def LinesOwnUptoCardSaid : Prop := Claim7.holds Tryd.pinned (.plain (OpenSpec.upto linesOwnSpec)) linesOwnUptoCard

/-- THE SECOND FORM's CARD OF 'galleylaw19.DiffDistance'. -/
def diffDistanceUptoCard : Claim7 := { stood := { row := diffDistanceUptoRow, standIns := [], harness := (true, "392f3fa0de07cae4c27eab29a8b8cd8fa5ac5d669f508e2bbca626271215bafd"), looks := false }, kinds := [], alts := [], laidByText := true, laidKinds := [.data], laidTests := true, laidLooks := .later }
def DiffDistanceUptoCardSaid : Prop := Claim7.holds Tryd.pinned (.plain (OpenSpec.upto diffDistanceSpec)) diffDistanceUptoCard

/-- THE SECOND FORM's CARD OF 'galleylaw19.DiffGreat'. -/
def diffGreatUptoCard : Claim7 := { stood := { row := diffGreatUptoRow, standIns := [], harness := (true, "392f3fa0de07cae4c27eab29a8b8cd8fa5ac5d669f508e2bbca626271215bafd"), looks := false }, kinds := [], alts := [], laidByText := true, laidKinds := [.data], laidTests := true, laidLooks := .later }
def DiffGreatUptoCardSaid : Prop := Claim7.holds Tryd.pinned (.plain (OpenSpec.upto diffGreatSpec)) diffGreatUptoCard

/-- THE SECOND FORM's CARD OF 'galleylaw19.DiffLeast'. -/
def diffLeastUptoCard : Claim7 := { stood := { row := diffLeastUptoRow, standIns := [], harness := (true, "392f3fa0de07cae4c27eab29a8b8cd8fa5ac5d669f508e2bbca626271215bafd"), looks := false }, kinds := [], alts := [], laidByText := true, laidKinds := [.data], laidTests := true, laidLooks := .later }
def DiffLeastUptoCardSaid : Prop := Claim7.holds Tryd.pinned (.plain (OpenSpec.upto diffLeastSpec)) diffLeastUptoCard

/-- THE SECOND FORM's CARD OF 'galleylaw19.DiffLines'. -/
def diffLinesUptoCard : Claim7 := { stood := { row := diffLinesUptoRow, standIns := [], harness := (true, "392f3fa0de07cae4c27eab29a8b8cd8fa5ac5d669f508e2bbca626271215bafd"), looks := false }, kinds := [], alts := [], laidByText := true, laidKinds := [.data], laidTests := true, laidLooks := .later }
def DiffLinesUptoCardSaid : Prop := Claim7.holds Tryd.pinned (.plain (OpenSpec.upto diffLinesSpec)) diffLinesUptoCard

/-- THE SECOND FORM's CARD OF 'galleylaw19.DiffCosts'. -/
def diffCostsUptoCard : Claim7 := { stood := { row := diffCostsUptoRow, standIns := [], harness := (true, "392f3fa0de07cae4c27eab29a8b8cd8fa5ac5d669f508e2bbca626271215bafd"), looks := false }, kinds := [], alts := [], laidByText := true, laidKinds := [.data], laidTests := true, laidLooks := .later }
def DiffCostsUptoCardSaid : Prop := Claim7.holds Tryd.pinned (.plain (OpenSpec.upto diffCostsSpec)) diffCostsUptoCard

/-- THE SECOND FORM's CARD OF 'galleylaw19.DiffMetric'. -/
def diffMetricUptoCard : Claim7 := { stood := { row := diffMetricUptoRow, standIns := [], harness := (true, "392f3fa0de07cae4c27eab29a8b8cd8fa5ac5d669f508e2bbca626271215bafd"), looks := false }, kinds := [], alts := [], laidByText := true, laidKinds := [.data], laidTests := true, laidLooks := .later }
def DiffMetricUptoCardSaid : Prop := Claim7.holds Tryd.pinned (.plain (OpenSpec.upto diffMetricSpec)) diffMetricUptoCard
end Rows
end Go.Proofs.YtbomhpfckplgaaaDoor
