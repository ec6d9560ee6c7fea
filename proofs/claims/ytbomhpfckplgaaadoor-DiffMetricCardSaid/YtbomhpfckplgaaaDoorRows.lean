/-
  NARROWER THAN 'FOR EVERY INPUT', by the rows' own cells (each row's printed sentence says how): RuleSizes: laid · RuleTo: laid · RuleCuts: laid · RuleBack: laid · DiffOwn: laid · RuleRises: laid · RuleAdds: laid · DiffNoLess: laid · RuleOwn: laid · RuleTables: laid · LinesAt: laid · LinesColumns: laid · LinesRows: laid · LinesParts: laid · LinesModes: laid · LinesWhere: laid · LinesBack: laid · LinesOwn: laid · DiffDistance: laid · DiffGreat: laid · DiffLeast: laid · DiffLines: laid · DiffCosts: laid · DiffMetric: laid.
  DERIVED. THE GIVEN ROWS OF THIS SEAT. 24 by the template 'for every input the law returns true; each argument reads behind the call as it read before'; 0 by the template 'total and deterministic' (their statements: YtbomhpfckplgaaaDoorTotals.lean).
  GIVEN WITH THE SEED: the statements are not yours to turn. If you find one false, say at which input.
  Laid BY PROGRAM, IN A SANDBOX (cutbox-rows.mjs): the forced cells as the released guide's own fill.sh prints them over the translation 0fbd7cc557bf40d9… (all of the seat's roots in one cut). By AI agents, Wed Nov 11 2026. No macro, syntax, notation, axiom, sorry.
-/
import Derived.Test.YtbomhpfckplgaaaDoorChecked
import GoSem.Claim
import GoSem.ClaimJoined
import GoSem.ClaimMapViews
import Derived.JoinedTies
import Derived.KernelRfl
namespace Go.Proofs.YtbomhpfckplgaaaDoor
/- THE CELL 'sum', in the pinned program and in every row, IS THE sha256 OF THE DUMP (.gsa) THAT YtbomhpfckplgaaaDoorProg.lean LOADS. Nothing in Lean hashes anything: it is a label: what it is worth is what the hold of that sum in a sandbox is worth. -/
noncomputable def Tryd.pinned : Pinned := { name := "ytbomhpfckplgaaadoor", sum := "0fbd7cc557bf40d9ecfa9dad68fe3b01a0b71f9b8155e63c8358f57aaa1e67ab", checked := Tryd.checked }
namespace Rows
def none {H : Type} : Left H := { results := [], args := [] }

/- WHAT THE LISTED PACKAGE-LEVEL VARIABLES READ AS WHEN THE CALL BEGINS. Each datum BY PROGRAM (the guide's laid-datum.mjs) off the statement by which the dump's own 'gosem.cut.vars' lays the variable. In a bare row this is a premise. The card (YtbomhpfckplgaaaDoorCards.lean) ties it to the program's text. -/
def laid_galley_step_bad {H : Type} : DataW H := .agg [.lit (.int .i32 65533), .lit (.int .i64 1), .lit (.bool false)]

/-- 'galleylaw06.RuleSizes': WHATEVER THE INPUT: true; the input reads as it did. -/
def ruleSizesSpec : ChangeSpec := { name := "ruleSizes", fn := fun _ => fun
  | [d1, d2, d3] => { results := [.lit (.bool true)], args := [d1, d2, d3] }
  | _ => none }
def ruleSizesRow : OpenClaim := { program := "ytbomhpfckplgaaadoor", sum := "0fbd7cc557bf40d9ecfa9dad68fe3b01a0b71f9b8155e63c8358f57aaa1e67ab", func := "galley/galleylaw06.RuleSizes", spec := "ruleSizes", unfollowed := true, recurses := true, named := ["galley/step.bad"], apart := false, laid := [("galley/step.bad", laid_galley_step_bad)] }
def RuleSizesSaid : Prop := ruleSizesRow.holds Tryd.pinned (OpenSpec.ofChange ruleSizesSpec)

/-- ITS FALSE NEIGHBOUR: 'it returns false'. Refute it at one input. -/
def ruleSizesWrong : ChangeSpec := { name := "ruleSizes", fn := fun _ => fun
  | [d1, d2, d3] => { results := [.lit (.bool false)], args := [d1, d2, d3] }
  | _ => none }
def RuleSizesWrongFalsely : Prop := ruleSizesRow.holds Tryd.pinned (OpenSpec.ofChange ruleSizesWrong)

/-- 'galleylaw06.RuleTo': WHATEVER THE INPUT: true; the input reads as it did. -/
def ruleToSpec : ChangeSpec := { name := "ruleTo", fn := fun _ => fun
  | [d1, d2, d3] => { results := [.lit (.bool true)], args := [d1, d2, d3] }
  | _ => none }
def ruleToRow : OpenClaim := { program := "ytbomhpfckplgaaadoor", sum := "0fbd7cc557bf40d9ecfa9dad68fe3b01a0b71f9b8155e63c8358f57aaa1e67ab", func := "galley/galleylaw06.RuleTo", spec := "ruleTo", unfollowed := true, recurses := true, named := ["galley/step.bad"], apart := false, laid := [("galley/step.bad", laid_galley_step_bad)] }
def RuleToSaid : Prop := ruleToRow.holds Tryd.pinned (OpenSpec.ofChange ruleToSpec)

/-- ITS FALSE NEIGHBOUR: 'it returns false'. Refute it at one input. -/
def ruleToWrong : ChangeSpec := { name := "ruleTo", fn := fun _ => fun
  | [d1, d2, d3] => { results := [.lit (.bool false)], args := [d1, d2, d3] }
  | _ => none }
def RuleToWrongFalsely : Prop := ruleToRow.holds Tryd.pinned (OpenSpec.ofChange ruleToWrong)

/-- 'galleylaw06.RuleCuts': WHATEVER THE INPUT: true; the input reads as it did. -/
def ruleCutsSpec : ChangeSpec := { name := "ruleCuts", fn := fun _ => fun
  | [d1, d2, d3] => { results := [.lit (.bool true)], args := [d1, d2, d3] }
  | _ => none }
def ruleCutsRow : OpenClaim := { program := "ytbomhpfckplgaaadoor", sum := "0fbd7cc557bf40d9ecfa9dad68fe3b01a0b71f9b8155e63c8358f57aaa1e67ab", func := "galley/galleylaw06.RuleCuts", spec := "ruleCuts", unfollowed := true, recurses := true, named := ["galley/step.bad"], apart := false, laid := [("galley/step.bad", laid_galley_step_bad)] }
def RuleCutsSaid : Prop := ruleCutsRow.holds Tryd.pinned (OpenSpec.ofChange ruleCutsSpec)

/-- ITS FALSE NEIGHBOUR: 'it returns false'. Refute it at one input. -/
def ruleCutsWrong : ChangeSpec := { name := "ruleCuts", fn := fun _ => fun
  | [d1, d2, d3] => { results := [.lit (.bool false)], args := [d1, d2, d3] }
  | _ => none }
def RuleCutsWrongFalsely : Prop := ruleCutsRow.holds Tryd.pinned (OpenSpec.ofChange ruleCutsWrong)

/-- 'galleylaw06.RuleBack': WHATEVER THE INPUT: true; the input reads as it did. -/
def ruleBackSpec : ChangeSpec := { name := "ruleBack", fn := fun _ => fun
  | [d1, d2, d3] => { results := [.lit (.bool true)], args := [d1, d2, d3] }
  | _ => none }
def ruleBackRow : OpenClaim := { program := "ytbomhpfckplgaaadoor", sum := "0fbd7cc557bf40d9ecfa9dad68fe3b01a0b71f9b8155e63c8358f57aaa1e67ab", func := "galley/galleylaw06.RuleBack", spec := "ruleBack", unfollowed := true, recurses := true, named := ["galley/step.bad"], apart := false, laid := [("galley/step.bad", laid_galley_step_bad)] }
def RuleBackSaid : Prop := ruleBackRow.holds Tryd.pinned (OpenSpec.ofChange ruleBackSpec)

/-- ITS FALSE NEIGHBOUR: 'it returns false'. Refute it at one input. -/
def ruleBackWrong : ChangeSpec := { name := "ruleBack", fn := fun _ => fun
  | [d1, d2, d3] => { results := [.lit (.bool false)], args := [d1, d2, d3] }
  | _ => none }
def RuleBackWrongFalsely : Prop := ruleBackRow.holds Tryd.pinned (OpenSpec.ofChange ruleBackWrong)

/-- 'galleylaw19.DiffOwn': WHATEVER THE INPUT: true; the input reads as it did. -/
def diffOwnSpec : ChangeSpec := { name := "diffOwn", fn := fun _ => fun
  | [d1, d2] => { results := [.lit (.bool true)], args := [d1, d2] }
  | _ => none }
def diffOwnRow : OpenClaim := { program := "ytbomhpfckplgaaadoor", sum := "0fbd7cc557bf40d9ecfa9dad68fe3b01a0b71f9b8155e63c8358f57aaa1e67ab", func := "galley/galleylaw19.DiffOwn", spec := "diffOwn", unfollowed := true, recurses := true, named := ["galley/step.bad"], apart := false, laid := [("galley/step.bad", laid_galley_step_bad)] }
def DiffOwnSaid : Prop := diffOwnRow.holds Tryd.pinned (OpenSpec.ofChange diffOwnSpec)

/-- ITS FALSE NEIGHBOUR: 'it returns false'. Refute it at one input. -/
def diffOwnWrong : ChangeSpec := { name := "diffOwn", fn := fun _ => fun
  | [d1, d2] => { results := [.lit (.bool false)], args := [d1, d2] }
  | _ => none }
def DiffOwnWrongFalsely : Prop := diffOwnRow.holds Tryd.pinned (OpenSpec.ofChange diffOwnWrong)

/-- 'galleylaw06.RuleRises': WHATEVER THE INPUT: true; the input reads as it did. -/
def ruleRisesSpec : ChangeSpec := { name := "ruleRises", fn := fun _ => fun
  | [d1, d2, d3] => { results := [.lit (.bool true)], args := [d1, d2, d3] }
  | _ => none }
def ruleRisesRow : OpenClaim := { program := "ytbomhpfckplgaaadoor", sum := "0fbd7cc557bf40d9ecfa9dad68fe3b01a0b71f9b8155e63c8358f57aaa1e67ab", func := "galley/galleylaw06.RuleRises", spec := "ruleRises", unfollowed := true, recurses := true, named := ["galley/step.bad"], apart := false, laid := [("galley/step.bad", laid_galley_step_bad)] }
def RuleRisesSaid : Prop := ruleRisesRow.holds Tryd.pinned (OpenSpec.ofChange ruleRisesSpec)

/-- ITS FALSE NEIGHBOUR: 'it returns false'. Refute it at one input. -/
def ruleRisesWrong : ChangeSpec := { name := "ruleRises", fn := fun _ => fun
  | [d1, d2, d3] => { results := [.lit (.bool false)], args := [d1, d2, d3] }
  | _ => none }
def RuleRisesWrongFalsely : Prop := ruleRisesRow.holds Tryd.pinned (OpenSpec.ofChange ruleRisesWrong)

/-- 'galleylaw06.RuleAdds': WHATEVER THE INPUT: true; the input reads as it did. -/
def ruleAddsSpec : ChangeSpec := { name := "ruleAdds", fn := fun _ => fun
  | [d1, d2, d3] => { results := [.lit (.bool true)], args := [d1, d2, d3] }
  | _ => none }
def ruleAddsRow : OpenClaim := { program := "ytbomhpfckplgaaadoor", sum := "0fbd7cc557bf40d9ecfa9dad68fe3b01a0b71f9b8155e63c8358f57aaa1e67ab", func := "galley/galleylaw06.RuleAdds", spec := "ruleAdds", unfollowed := true, recurses := true, named := ["galley/step.bad"], apart := false, laid := [("galley/step.bad", laid_galley_step_bad)] }
def RuleAddsSaid : Prop := ruleAddsRow.holds Tryd.pinned (OpenSpec.ofChange ruleAddsSpec)

/-- ITS FALSE NEIGHBOUR: 'it returns false'. Refute it at one input. -/
def ruleAddsWrong : ChangeSpec := { name := "ruleAdds", fn := fun _ => fun
  | [d1, d2, d3] => { results := [.lit (.bool false)], args := [d1, d2, d3] }
  | _ => none }
def RuleAddsWrongFalsely : Prop := ruleAddsRow.holds Tryd.pinned (OpenSpec.ofChange ruleAddsWrong)

/-- 'galleylaw19.DiffNoLess': WHATEVER THE INPUT: true; the input reads as it did. -/
def diffNoLessSpec : ChangeSpec := { name := "diffNoLess", fn := fun _ => fun
  | [d1, d2] => { results := [.lit (.bool true)], args := [d1, d2] }
  | _ => none }
def diffNoLessRow : OpenClaim := { program := "ytbomhpfckplgaaadoor", sum := "0fbd7cc557bf40d9ecfa9dad68fe3b01a0b71f9b8155e63c8358f57aaa1e67ab", func := "galley/galleylaw19.DiffNoLess", spec := "diffNoLess", unfollowed := true, recurses := true, named := ["galley/step.bad"], apart := false, laid := [("galley/step.bad", laid_galley_step_bad)] }
def DiffNoLessSaid : Prop := diffNoLessRow.holds Tryd.pinned (OpenSpec.ofChange diffNoLessSpec)

/-- ITS FALSE NEIGHBOUR: 'it returns false'. Refute it at one input. -/
def diffNoLessWrong : ChangeSpec := { name := "diffNoLess", fn := fun _ => fun
  | [d1, d2] => { results := [.lit (.bool false)], args := [d1, d2] }
  | _ => none }
def DiffNoLessWrongFalsely : Prop := diffNoLessRow.holds Tryd.pinned (OpenSpec.ofChange diffNoLessWrong)

/-- 'galleylaw06.RuleOwn': WHATEVER THE INPUT: true; the input reads as it did. -/
def ruleOwnSpec : ChangeSpec := { name := "ruleOwn", fn := fun _ => fun
  | [d1, d2, d3] => { results := [.lit (.bool true)], args := [d1, d2, d3] }
  | _ => none }
def ruleOwnRow : OpenClaim := { program := "ytbomhpfckplgaaadoor", sum := "0fbd7cc557bf40d9ecfa9dad68fe3b01a0b71f9b8155e63c8358f57aaa1e67ab", func := "galley/galleylaw06.RuleOwn", spec := "ruleOwn", unfollowed := true, recurses := true, named := ["galley/step.bad"], apart := false, laid := [("galley/step.bad", laid_galley_step_bad)] }
def RuleOwnSaid : Prop := ruleOwnRow.holds Tryd.pinned (OpenSpec.ofChange ruleOwnSpec)

/-- ITS FALSE NEIGHBOUR: 'it returns false'. Refute it at one input. -/
def ruleOwnWrong : ChangeSpec := { name := "ruleOwn", fn := fun _ => fun
  | [d1, d2, d3] => { results := [.lit (.bool false)], args := [d1, d2, d3] }
  | _ => none }
def RuleOwnWrongFalsely : Prop := ruleOwnRow.holds Tryd.pinned (OpenSpec.ofChange ruleOwnWrong)

/-- 'galleylaw06.RuleTables': WHATEVER THE INPUT: true; the input reads as it did. -/
def ruleTablesSpec : ChangeSpec := { name := "ruleTables", fn := fun _ => fun
  | [d] => { results := [.lit (.bool true)], args := [d] }
  | _ => none }
def ruleTablesRow : OpenClaim := { program := "ytbomhpfckplgaaadoor", sum := "0fbd7cc557bf40d9ecfa9dad68fe3b01a0b71f9b8155e63c8358f57aaa1e67ab", func := "galley/galleylaw06.RuleTables", spec := "ruleTables", unfollowed := true, recurses := true, named := ["galley/step.bad"], apart := false, laid := [("galley/step.bad", laid_galley_step_bad)] }
def RuleTablesSaid : Prop := ruleTablesRow.holds Tryd.pinned (OpenSpec.ofChange ruleTablesSpec)

/-- ITS FALSE NEIGHBOUR: 'it returns false'. Refute it at one input. -/
def ruleTablesWrong : ChangeSpec := { name := "ruleTables", fn := fun _ => fun
  | [d] => { results := [.lit (.bool false)], args := [d] }
  | _ => none }
def RuleTablesWrongFalsely : Prop := ruleTablesRow.holds Tryd.pinned (OpenSpec.ofChange ruleTablesWrong)

/-- 'galleylaw07.LinesAt': WHATEVER THE INPUT: true; the input reads as it did. -/
def linesAtSpec : ChangeSpec := { name := "linesAt", fn := fun _ => fun
  | [d1, d2] => { results := [.lit (.bool true)], args := [d1, d2] }
  | _ => none }
def linesAtRow : OpenClaim := { program := "ytbomhpfckplgaaadoor", sum := "0fbd7cc557bf40d9ecfa9dad68fe3b01a0b71f9b8155e63c8358f57aaa1e67ab", func := "galley/galleylaw07.LinesAt", spec := "linesAt", unfollowed := true, recurses := true, named := ["galley/step.bad"], apart := false, laid := [("galley/step.bad", laid_galley_step_bad)] }
def LinesAtSaid : Prop := linesAtRow.holds Tryd.pinned (OpenSpec.ofChange linesAtSpec)

/-- ITS FALSE NEIGHBOUR: 'it returns false'. Refute it at one input. -/
def linesAtWrong : ChangeSpec := { name := "linesAt", fn := fun _ => fun
  | [d1, d2] => { results := [.lit (.bool false)], args := [d1, d2] }
  | _ => none }
def LinesAtWrongFalsely : Prop := linesAtRow.holds Tryd.pinned (OpenSpec.ofChange linesAtWrong)

/-- 'galleylaw07.LinesColumns': WHATEVER THE INPUT: true; the input reads as it did. -/
def linesColumnsSpec : ChangeSpec := { name := "linesColumns", fn := fun _ => fun
  | [d] => { results := [.lit (.bool true)], args := [d] }
  | _ => none }
def linesColumnsRow : OpenClaim := { program := "ytbomhpfckplgaaadoor", sum := "0fbd7cc557bf40d9ecfa9dad68fe3b01a0b71f9b8155e63c8358f57aaa1e67ab", func := "galley/galleylaw07.LinesColumns", spec := "linesColumns", unfollowed := true, recurses := true, named := ["galley/step.bad"], apart := false, laid := [("galley/step.bad", laid_galley_step_bad)] }
def LinesColumnsSaid : Prop := linesColumnsRow.holds Tryd.pinned (OpenSpec.ofChange linesColumnsSpec)

/-- ITS FALSE NEIGHBOUR: 'it returns false'. Refute it at one input. -/
def linesColumnsWrong : ChangeSpec := { name := "linesColumns", fn := fun _ => fun
  | [d] => { results := [.lit (.bool false)], args := [d] }
  | _ => none }
def LinesColumnsWrongFalsely : Prop := linesColumnsRow.holds Tryd.pinned (OpenSpec.ofChange linesColumnsWrong)

/-- 'galleylaw07.LinesRows': WHATEVER THE INPUT: true; the input reads as it did. -/
def linesRowsSpec : ChangeSpec := { name := "linesRows", fn := fun _ => fun
  | [d1, d2] => { results := [.lit (.bool true)], args := [d1, d2] }
  | _ => none }
def linesRowsRow : OpenClaim := { program := "ytbomhpfckplgaaadoor", sum := "0fbd7cc557bf40d9ecfa9dad68fe3b01a0b71f9b8155e63c8358f57aaa1e67ab", func := "galley/galleylaw07.LinesRows", spec := "linesRows", unfollowed := true, recurses := true, named := ["galley/step.bad"], apart := false, laid := [("galley/step.bad", laid_galley_step_bad)] }
def LinesRowsSaid : Prop := linesRowsRow.holds Tryd.pinned (OpenSpec.ofChange linesRowsSpec)

/-- ITS FALSE NEIGHBOUR: 'it returns false'. Refute it at one input. -/
def linesRowsWrong : ChangeSpec := { name := "linesRows", fn := fun _ => fun
  | [d1, d2] => { results := [.lit (.bool false)], args := [d1, d2] }
  | _ => none }
def LinesRowsWrongFalsely : Prop := linesRowsRow.holds Tryd.pinned (OpenSpec.ofChange linesRowsWrong)

/-- 'galleylaw07.LinesParts': WHATEVER THE INPUT: true; the input reads as it did. -/
def linesPartsSpec : ChangeSpec := { name := "linesParts", fn := fun _ => fun
  | [d] => { results := [.lit (.bool true)], args := [d] }
  | _ => none }
def linesPartsRow : OpenClaim := { program := "ytbomhpfckplgaaadoor", sum := "0fbd7cc557bf40d9ecfa9dad68fe3b01a0b71f9b8155e63c8358f57aaa1e67ab", func := "galley/galleylaw07.LinesParts", spec := "linesParts", unfollowed := true, recurses := true, named := ["galley/step.bad"], apart := false, laid := [("galley/step.bad", laid_galley_step_bad)] }
def LinesPartsSaid : Prop := linesPartsRow.holds Tryd.pinned (OpenSpec.ofChange linesPartsSpec)

/-- ITS FALSE NEIGHBOUR: 'it returns false'. Refute it at one input. -/
def linesPartsWrong : ChangeSpec := { name := "linesParts", fn := fun _ => fun
  | [d] => { results := [.lit (.bool false)], args := [d] }
  | _ => none }
def LinesPartsWrongFalsely : Prop := linesPartsRow.holds Tryd.pinned (OpenSpec.ofChange linesPartsWrong)

/-- 'galleylaw07.LinesModes': WHATEVER THE INPUT: true; the input reads as it did. -/
def linesModesSpec : ChangeSpec := { name := "linesModes", fn := fun _ => fun
  | [d1, d2, d3] => { results := [.lit (.bool true)], args := [d1, d2, d3] }
  | _ => none }
def linesModesRow : OpenClaim := { program := "ytbomhpfckplgaaadoor", sum := "0fbd7cc557bf40d9ecfa9dad68fe3b01a0b71f9b8155e63c8358f57aaa1e67ab", func := "galley/galleylaw07.LinesModes", spec := "linesModes", unfollowed := true, recurses := true, named := ["galley/step.bad"], apart := false, laid := [("galley/step.bad", laid_galley_step_bad)] }
def LinesModesSaid : Prop := linesModesRow.holds Tryd.pinned (OpenSpec.ofChange linesModesSpec)

/-- ITS FALSE NEIGHBOUR: 'it returns false'. Refute it at one input. -/
def linesModesWrong : ChangeSpec := { name := "linesModes", fn := fun _ => fun
  | [d1, d2, d3] => { results := [.lit (.bool false)], args := [d1, d2, d3] }
  | _ => none }
def LinesModesWrongFalsely : Prop := linesModesRow.holds Tryd.pinned (OpenSpec.ofChange linesModesWrong)

/-- 'galleylaw07.LinesWhere': WHATEVER THE INPUT: true; the input reads as it did. -/
def linesWhereSpec : ChangeSpec := { name := "linesWhere", fn := fun _ => fun
  | [d1, d2, d3] => { results := [.lit (.bool true)], args := [d1, d2, d3] }
  | _ => none }
def linesWhereRow : OpenClaim := { program := "ytbomhpfckplgaaadoor", sum := "0fbd7cc557bf40d9ecfa9dad68fe3b01a0b71f9b8155e63c8358f57aaa1e67ab", func := "galley/galleylaw07.LinesWhere", spec := "linesWhere", unfollowed := true, recurses := true, named := ["galley/step.bad"], apart := false, laid := [("galley/step.bad", laid_galley_step_bad)] }
def LinesWhereSaid : Prop := linesWhereRow.holds Tryd.pinned (OpenSpec.ofChange linesWhereSpec)

/-- ITS FALSE NEIGHBOUR: 'it returns false'. Refute it at one input. -/
def linesWhereWrong : ChangeSpec := { name := "linesWhere", fn := fun _ => fun
  | [d1, d2, d3] => { results := [.lit (.bool false)], args := [d1, d2, d3] }
  | _ => none }
def LinesWhereWrongFalsely : Prop := linesWhereRow.holds Tryd.pinned (OpenSpec.ofChange linesWhereWrong)

/-- 'galleylaw07.LinesBack': WHATEVER THE INPUT: true; the input reads as it did. -/
def linesBackSpec : ChangeSpec := { name := "linesBack", fn := fun _ => fun
  | [d1, d2] => { results := [.lit (.bool true)], args := [d1, d2] }
  | _ => none }
def linesBackRow : OpenClaim := { program := "ytbomhpfckplgaaadoor", sum := "0fbd7cc557bf40d9ecfa9dad68fe3b01a0b71f9b8155e63c8358f57aaa1e67ab", func := "galley/galleylaw07.LinesBack", spec := "linesBack", unfollowed := true, recurses := true, named := ["galley/step.bad"], apart := false, laid := [("galley/step.bad", laid_galley_step_bad)] }
def LinesBackSaid : Prop := linesBackRow.holds Tryd.pinned (OpenSpec.ofChange linesBackSpec)

/-- ITS FALSE NEIGHBOUR: 'it returns false'. Refute it at one input. -/
def linesBackWrong : ChangeSpec := { name := "linesBack", fn := fun _ => fun
  | [d1, d2] => { results := [.lit (.bool false)], args := [d1, d2] }
  | _ => none }
def LinesBackWrongFalsely : Prop := linesBackRow.holds Tryd.pinned (OpenSpec.ofChange linesBackWrong)

/-- 'galleylaw07.LinesOwn': WHATEVER THE INPUT: true; the input reads as it did. -/
def linesOwnSpec : ChangeSpec := { name := "linesOwn", fn := fun _ => fun
  | [d1, d2, d3] => { results := [.lit (.bool true)], args := [d1, d2, d3] }
  | _ => none }
def linesOwnRow : OpenClaim := { program := "ytbomhpfckplgaaadoor", sum := "0fbd7cc557bf40d9ecfa9dad68fe3b01a0b71f9b8155e63c8358f57aaa1e67ab", func := "galley/galleylaw07.LinesOwn", spec := "linesOwn", unfollowed := true, recurses := true, named := ["galley/step.bad"], apart := false, laid := [("galley/step.bad", laid_galley_step_bad)] }
def LinesOwnSaid : Prop := linesOwnRow.holds Tryd.pinned (OpenSpec.ofChange linesOwnSpec)

/-- ITS FALSE NEIGHBOUR: 'it returns false'. Refute it at one input. -/
def linesOwnWrong : ChangeSpec := { name := "linesOwn", fn := fun _ => fun
  | [d1, d2, d3] => { results := [.lit (.bool false)], args := [d1, d2, d3] }
  | _ => none }
def LinesOwnWrongFalsely : Prop := linesOwnRow.holds Tryd.pinned (OpenSpec.ofChange linesOwnWrong)

/-- 'galleylaw19.DiffDistance': WHATEVER THE INPUT: true; the input reads as it did. -/
def diffDistanceSpec : ChangeSpec := { name := "diffDistance", fn := fun _ => fun
  | [d1, d2] => { results := [.lit (.bool true)], args := [d1, d2] }
  | _ => none }
def diffDistanceRow : OpenClaim := { program := "ytbomhpfckplgaaadoor", sum := "0fbd7cc557bf40d9ecfa9dad68fe3b01a0b71f9b8155e63c8358f57aaa1e67ab", func := "galley/galleylaw19.DiffDistance", spec := "diffDistance", unfollowed := true, recurses := true, named := ["galley/step.bad"], apart := false, laid := [("galley/step.bad", laid_galley_step_bad)] }
def DiffDistanceSaid : Prop := diffDistanceRow.holds Tryd.pinned (OpenSpec.ofChange diffDistanceSpec)

/-- ITS FALSE NEIGHBOUR: 'it returns false'. Refute it at one input. -/
def diffDistanceWrong : ChangeSpec := { name := "diffDistance", fn := fun _ => fun
  | [d1, d2] => { results := [.lit (.bool false)], args := [d1, d2] }
  | _ => none }
def DiffDistanceWrongFalsely : Prop := diffDistanceRow.holds Tryd.pinned (OpenSpec.ofChange diffDistanceWrong)

/-- 'galleylaw19.DiffGreat': WHATEVER THE INPUT: true; the input reads as it did. -/
def diffGreatSpec : ChangeSpec := { name := "diffGreat", fn := fun _ => fun
  | [d1, d2] => { results := [.lit (.bool true)], args := [d1, d2] }
  | _ => none }
def diffGreatRow : OpenClaim := { program := "ytbomhpfckplgaaadoor", sum := "0fbd7cc557bf40d9ecfa9dad68fe3b01a0b71f9b8155e63c8358f57aaa1e67ab", func := "galley/galleylaw19.DiffGreat", spec := "diffGreat", unfollowed := true, recurses := true, named := ["galley/step.bad"], apart := false, laid := [("galley/step.bad", laid_galley_step_bad)] }
def DiffGreatSaid : Prop := diffGreatRow.holds Tryd.pinned (OpenSpec.ofChange diffGreatSpec)

/-- ITS FALSE NEIGHBOUR: 'it returns false'. Refute it at one input. -/
def diffGreatWrong : ChangeSpec := { name := "diffGreat", fn := fun _ => fun
  | [d1, d2] => { results := [.lit (.bool false)], args := [d1, d2] }
  | _ => none }
def DiffGreatWrongFalsely : Prop := diffGreatRow.holds Tryd.pinned (OpenSpec.ofChange diffGreatWrong)

/-- 'galleylaw19.DiffLeast': WHATEVER THE INPUT: true; the input reads as it did. -/
def diffLeastSpec : ChangeSpec := { name := "diffLeast", fn := fun _ => fun
  | [d1, d2] => { results := [.lit (.bool true)], args := [d1, d2] }
  | _ => none }
def diffLeastRow : OpenClaim := { program := "ytbomhpfckplgaaadoor", sum := "0fbd7cc557bf40d9ecfa9dad68fe3b01a0b71f9b8155e63c8358f57aaa1e67ab", func := "galley/galleylaw19.DiffLeast", spec := "diffLeast", unfollowed := true, recurses := true, named := ["galley/step.bad"], apart := false, laid := [("galley/step.bad", laid_galley_step_bad)] }
def DiffLeastSaid : Prop := diffLeastRow.holds Tryd.pinned (OpenSpec.ofChange diffLeastSpec)

/-- ITS FALSE NEIGHBOUR: 'it returns false'. Refute it at one input. -/
def diffLeastWrong : ChangeSpec := { name := "diffLeast", fn := fun _ => fun
  | [d1, d2] => { results := [.lit (.bool false)], args := [d1, d2] }
  | _ => none }
def DiffLeastWrongFalsely : Prop := diffLeastRow.holds Tryd.pinned (OpenSpec.ofChange diffLeastWrong)

/-- 'galleylaw19.DiffLines': WHATEVER THE INPUT: true; the input reads as it did. -/
def diffLinesSpec : ChangeSpec := { name := "diffLines", fn := fun _ => fun
  | [d1, d2] => { results := [.lit (.bool true)], args := [d1, d2] }
  | _ => none }
def diffLinesRow : OpenClaim := { program := "ytbomhpfckplgaaadoor", sum := "0fbd7cc557bf40d9ecfa9dad68fe3b01a0b71f9b8155e63c8358f57aaa1e67ab", func := "galley/galleylaw19.DiffLines", spec := "diffLines", unfollowed := true, recurses := true, named := ["galley/step.bad"], apart := false, laid := [("galley/step.bad", laid_galley_step_bad)] }
def DiffLinesSaid : Prop := diffLinesRow.holds Tryd.pinned (OpenSpec.ofChange diffLinesSpec)

/-- ITS FALSE NEIGHBOUR: 'it returns false'. Refute it at one input. -/
def diffLinesWrong : ChangeSpec := { name := "diffLines", fn := fun _ => fun
  | [d1, d2] => { results := [.lit (.bool false)], args := [d1, d2] }
  | _ => none }
def DiffLinesWrongFalsely : Prop := diffLinesRow.holds Tryd.pinned (OpenSpec.ofChange diffLinesWrong)

/-- 'galleylaw19.DiffCosts': WHATEVER THE INPUT: true; the input reads as it did. -/
def diffCostsSpec : ChangeSpec := { name := "diffCosts", fn := fun _ => fun
  | [d1, d2] => { results := [.lit (.bool true)], args := [d1, d2] }
  | _ => none }
def diffCostsRow : OpenClaim := { program := "ytbomhpfckplgaaadoor", sum := "0fbd7cc557bf40d9ecfa9dad68fe3b01a0b71f9b8155e63c8358f57aaa1e67ab", func := "galley/galleylaw19.DiffCosts", spec := "diffCosts", unfollowed := true, recurses := true, named := ["galley/step.bad"], apart := false, laid := [("galley/step.bad", laid_galley_step_bad)] }
def DiffCostsSaid : Prop := diffCostsRow.holds Tryd.pinned (OpenSpec.ofChange diffCostsSpec)

/-- ITS FALSE NEIGHBOUR: 'it returns false'. Refute it at one input. -/
def diffCostsWrong : ChangeSpec := { name := "diffCosts", fn := fun _ => fun
  | [d1, d2] => { results := [.lit (.bool false)], args := [d1, d2] }
  | _ => none }
def DiffCostsWrongFalsely : Prop := diffCostsRow.holds Tryd.pinned (OpenSpec.ofChange diffCostsWrong)

/-- 'galleylaw19.DiffMetric': WHATEVER THE INPUT: true; the input reads as it did. -/
def diffMetricSpec : ChangeSpec := { name := "diffMetric", fn := fun _ => fun
  | [d1, d2, d3] => { results := [.lit (.bool true)], args := [d1, d2, d3] }
  | _ => none }
def diffMetricRow : OpenClaim := { program := "ytbomhpfckplgaaadoor", sum := "0fbd7cc557bf40d9ecfa9dad68fe3b01a0b71f9b8155e63c8358f57aaa1e67ab", func := "galley/galleylaw19.DiffMetric", spec := "diffMetric", unfollowed := true, recurses := true, named := ["galley/step.bad"], apart := false, laid := [("galley/step.bad", laid_galley_step_bad)] }
def DiffMetricSaid : Prop := diffMetricRow.holds Tryd.pinned (OpenSpec.ofChange diffMetricSpec)

/-- ITS FALSE NEIGHBOUR: 'it returns false'. Refute it at one input. -/
def diffMetricWrong : ChangeSpec := { name := "diffMetric", fn := fun _ => fun
  | [d1, d2, d3] => { results := [.lit (.bool false)], args := [d1, d2, d3] }
  | _ => none }
def DiffMetricWrongFalsely : Prop := diffMetricRow.holds Tryd.pinned (OpenSpec.ofChange diffMetricWrong)

/- THE SECOND FORM. 'bulk': how many values and letters a reading holds, each counted each time it is reached (what is shared counts as often as it is met; a slice's spare places count too). A statement '..UptoSaid' is the law's where the arguments, and the package variables that the reading takes, are together of bulk at most 1048576: NARROWER than '..Said'. Prove '..Said' where nothing that the law and all that it calls make is longer than what came in: it says more and counts as full. Else prove '..UptoSaid'. A law counts once. -/
mutual
def uptoBulk {H : Type} : DataW H → Nat
  | .lit (.string bytes) => bytes.length + 1
  | .lit _ => 1
  | .nil => 1
  | .ptr d => uptoBulk d + 1
  | .slice elems spare => uptoBulkAll elems + uptoBulkAll spare + 1
  | .agg parts => uptoBulkAll parts + 1
  | .iface _ d => uptoBulk d + 1
  | .map entries => uptoBulkEntries entries + 1
  | .held _ => 1
def uptoBulkAll {H : Type} : List (DataW H) → Nat
  | [] => 0
  | d :: r => uptoBulk d + uptoBulkAll r
def uptoBulkEntries {H : Type} : List (Lit × DataW H) → Nat
  | [] => 0
  | x :: r => uptoBulkEntry x + uptoBulkEntries r
def uptoBulkEntry {H : Type} : Lit × DataW H → Nat
  | (.string bytes, d) => bytes.length + uptoBulk d + 1
  | (_, d) => uptoBulk d + 1
 end
def uptoSmall : (H : Type) → List (DataW H) → Bool := fun _ ds => decide (uptoBulkAll ds ≤ 1048576)
def OpenSpec.upto (s : _root_.Go.ChangeSpec) : _root_.Go.OpenSpec := { _root_.Go.OpenSpec.ofChange s with cond := some uptoSmall }

/-- 'galleylaw06.RuleSizes', WHERE WHAT IT READS IS OF BULK AT MOST 1048576: true; the input reads as it did. -/
def ruleSizesUptoRow : OpenClaim := { program := "ytbomhpfckplgaaadoor", sum := "0fbd7cc557bf40d9ecfa9dad68fe3b01a0b71f9b8155e63c8358f57aaa1e67ab", func := "galley/galleylaw06.RuleSizes", spec := "ruleSizes", unfollowed := true, recurses := true, named := ["galley/step.bad"], apart := false, laid := [("galley/step.bad", laid_galley_step_bad)], narrowed := true }
def RuleSizesUptoSaid : Prop := ruleSizesUptoRow.holds Tryd.pinned (OpenSpec.upto ruleSizesSpec)

/-- 'galleylaw06.RuleTo', WHERE WHAT IT READS IS OF BULK AT MOST 1048576: true; the input reads as it did. -/
def ruleToUptoRow : OpenClaim := { program := "ytbomhpfckplgaaadoor", sum := "0fbd7cc557bf40d9ecfa9dad68fe3b01a0b71f9b8155e63c8358f57aaa1e67ab", func := "galley/galleylaw06.RuleTo", spec := "ruleTo", unfollowed := true, recurses := true, named := ["galley/step.bad"], apart := false, laid := [("galley/step.bad", laid_galley_step_bad)], narrowed := true }
def RuleToUptoSaid : Prop := ruleToUptoRow.holds Tryd.pinned (OpenSpec.upto ruleToSpec)

/-- 'galleylaw06.RuleCuts', WHERE WHAT IT READS IS OF BULK AT MOST 1048576: true; the input reads as it did. -/
def ruleCutsUptoRow : OpenClaim := { program := "ytbomhpfckplgaaadoor", sum := "0fbd7cc557bf40d9ecfa9dad68fe3b01a0b71f9b8155e63c8358f57aaa1e67ab", func := "galley/galleylaw06.RuleCuts", spec := "ruleCuts", unfollowed := true, recurses := true, named := ["galley/step.bad"], apart := false, laid := [("galley/step.bad", laid_galley_step_bad)], narrowed := true }
def RuleCutsUptoSaid : Prop := ruleCutsUptoRow.holds Tryd.pinned (OpenSpec.upto ruleCutsSpec)

/-- 'galleylaw06.RuleBack', WHERE WHAT IT READS IS OF BULK AT MOST 1048576: true; the input reads as it did. -/
def ruleBackUptoRow : OpenClaim := { program := "ytbomhpfckplgaaadoor", sum := "0fbd7cc557bf40d9ecfa9dad68fe3b01a0b71f9b8155e63c8358f57aaa1e67ab", func := "galley/galleylaw06.RuleBack", spec := "ruleBack", unfollowed := true, recurses := true, named := ["galley/step.bad"], apart := false, laid := [("galley/step.bad", laid_galley_step_bad)], narrowed := true }
def RuleBackUptoSaid : Prop := ruleBackUptoRow.holds Tryd.pinned (OpenSpec.upto ruleBackSpec)

/-- 'galleylaw19.DiffOwn', WHERE WHAT IT READS IS OF BULK AT MOST 1048576: true; the input reads as it did. -/
def diffOwnUptoRow : OpenClaim := { program := "ytbomhpfckplgaaadoor", sum := "0fbd7cc557bf40d9ecfa9dad68fe3b01a0b71f9b8155e63c8358f57aaa1e67ab", func := "galley/galleylaw19.DiffOwn", spec := "diffOwn", unfollowed := true, recurses := true, named := ["galley/step.bad"], apart := false, laid := [("galley/step.bad", laid_galley_step_bad)], narrowed := true }
def DiffOwnUptoSaid : Prop := diffOwnUptoRow.holds Tryd.pinned (OpenSpec.upto diffOwnSpec)

/-- 'galleylaw06.RuleRises', WHERE WHAT IT READS IS OF BULK AT MOST 1048576: true; the input reads as it did. -/
def ruleRisesUptoRow : OpenClaim := { program := "ytbomhpfckplgaaadoor", sum := "0fbd7cc557bf40d9ecfa9dad68fe3b01a0b71f9b8155e63c8358f57aaa1e67ab", func := "galley/galleylaw06.RuleRises", spec := "ruleRises", unfollowed := true, recurses := true, named := ["galley/step.bad"], apart := false, laid := [("galley/step.bad", laid_galley_step_bad)], narrowed := true }
def RuleRisesUptoSaid : Prop := ruleRisesUptoRow.holds Tryd.pinned (OpenSpec.upto ruleRisesSpec)

/-- 'galleylaw06.RuleAdds', WHERE WHAT IT READS IS OF BULK AT MOST 1048576: true; the input reads as it did. -/
def ruleAddsUptoRow : OpenClaim := { program := "ytbomhpfckplgaaadoor", sum := "0fbd7cc557bf40d9ecfa9dad68fe3b01a0b71f9b8155e63c8358f57aaa1e67ab", func := "galley/galleylaw06.RuleAdds", spec := "ruleAdds", unfollowed := true, recurses := true, named := ["galley/step.bad"], apart := false, laid := [("galley/step.bad", laid_galley_step_bad)], narrowed := true }
def RuleAddsUptoSaid : Prop := ruleAddsUptoRow.holds Tryd.pinned (OpenSpec.upto ruleAddsSpec)

/-- 'galleylaw19.DiffNoLess', WHERE WHAT IT READS IS OF BULK AT MOST 1048576: true; the input reads as it did. -/
def diffNoLessUptoRow : OpenClaim := { program := "ytbomhpfckplgaaadoor", sum := "0fbd7cc557bf40d9ecfa9dad68fe3b01a0b71f9b8155e63c8358f57aaa1e67ab", func := "galley/galleylaw19.DiffNoLess", spec := "diffNoLess", unfollowed := true, recurses := true, named := ["galley/step.bad"], apart := false, laid := [("galley/step.bad", laid_galley_step_bad)], narrowed := true }
def DiffNoLessUptoSaid : Prop := diffNoLessUptoRow.holds Tryd.pinned (OpenSpec.upto diffNoLessSpec)

/-- 'galleylaw06.RuleOwn', WHERE WHAT IT READS IS OF BULK AT MOST 1048576: true; the input reads as it did. -/
def ruleOwnUptoRow : OpenClaim := { program := "ytbomhpfckplgaaadoor", sum := "0fbd7cc557bf40d9ecfa9dad68fe3b01a0b71f9b8155e63c8358f57aaa1e67ab", func := "galley/galleylaw06.RuleOwn", spec := "ruleOwn", unfollowed := true, recurses := true, named := ["galley/step.bad"], apart := false, laid := [("galley/step.bad", laid_galley_step_bad)], narrowed := true }
def RuleOwnUptoSaid : Prop := ruleOwnUptoRow.holds Tryd.pinned (OpenSpec.upto ruleOwnSpec)

/-- 'galleylaw06.RuleTables', WHERE WHAT IT READS IS OF BULK AT MOST 1048576: true; the input reads as it did. -/
def ruleTablesUptoRow : OpenClaim := { program := "ytbomhpfckplgaaadoor", sum := "0fbd7cc557bf40d9ecfa9dad68fe3b01a0b71f9b8155e63c8358f57aaa1e67ab", func := "galley/galleylaw06.RuleTables", spec := "ruleTables", unfollowed := true, recurses := true, named := ["galley/step.bad"], apart := false, laid := [("galley/step.bad", laid_galley_step_bad)], narrowed := true }
def RuleTablesUptoSaid : Prop := ruleTablesUptoRow.holds Tryd.pinned (OpenSpec.upto ruleTablesSpec)

/-- 'galleylaw07.LinesAt', WHERE WHAT IT READS IS OF BULK AT MOST 1048576: true; the input reads as it did. -/
def linesAtUptoRow : OpenClaim := { program := "ytbomhpfckplgaaadoor", sum := "0fbd7cc557bf40d9ecfa9dad68fe3b01a0b71f9b8155e63c8358f57aaa1e67ab", func := "galley/galleylaw07.LinesAt", spec := "linesAt", unfollowed := true, recurses := true, named := ["galley/step.bad"], apart := false, laid := [("galley/step.bad", laid_galley_step_bad)], narrowed := true }
def LinesAtUptoSaid : Prop := linesAtUptoRow.holds Tryd.pinned (OpenSpec.upto linesAtSpec)

/-- 'galleylaw07.LinesColumns', WHERE WHAT IT READS IS OF BULK AT MOST 1048576: true; the input reads as it did. -/
def linesColumnsUptoRow : OpenClaim := { program := "ytbomhpfckplgaaadoor", sum := "0fbd7cc557bf40d9ecfa9dad68fe3b01a0b71f9b8155e63c8358f57aaa1e67ab", func := "galley/galleylaw07.LinesColumns", spec := "linesColumns", unfollowed := true, recurses := true, named := ["galley/step.bad"], apart := false, laid := [("galley/step.bad", laid_galley_step_bad)], narrowed := true }
def LinesColumnsUptoSaid : Prop := linesColumnsUptoRow.holds Tryd.pinned (OpenSpec.upto linesColumnsSpec)

/-- 'galleylaw07.LinesRows', WHERE WHAT IT READS IS OF BULK AT MOST 1048576: true; the input reads as it did. -/
def linesRowsUptoRow : OpenClaim := { program := "ytbomhpfckplgaaadoor", sum := "0fbd7cc557bf40d9ecfa9dad68fe3b01a0b71f9b8155e63c8358f57aaa1e67ab", func := "galley/galleylaw07.LinesRows", spec := "linesRows", unfollowed := true, recurses := true, named := ["galley/step.bad"], apart := false, laid := [("galley/step.bad", laid_galley_step_bad)], narrowed := true }
def LinesRowsUptoSaid : Prop := linesRowsUptoRow.holds Tryd.pinned (OpenSpec.upto linesRowsSpec)

/-- 'galleylaw07.LinesParts', WHERE WHAT IT READS IS OF BULK AT MOST 1048576: true; the input reads as it did. -/
def linesPartsUptoRow : OpenClaim := { program := "ytbomhpfckplgaaadoor", sum := "0fbd7cc557bf40d9ecfa9dad68fe3b01a0b71f9b8155e63c8358f57aaa1e67ab", func := "galley/galleylaw07.LinesParts", spec := "linesParts", unfollowed := true, recurses := true, named := ["galley/step.bad"], apart := false, laid := [("galley/step.bad", laid_galley_step_bad)], narrowed := true }
def LinesPartsUptoSaid : Prop := linesPartsUptoRow.holds Tryd.pinned (OpenSpec.upto linesPartsSpec)

/-- 'galleylaw07.LinesModes', WHERE WHAT IT READS IS OF BULK AT MOST 1048576: true; the input reads as it did. -/
def linesModesUptoRow : OpenClaim := { program := "ytbomhpfckplgaaadoor", sum := "0fbd7cc557bf40d9ecfa9dad68fe3b01a0b71f9b8155e63c8358f57aaa1e67ab", func := "galley/galleylaw07.LinesModes", spec := "linesModes", unfollowed := true, recurses := true, named := ["galley/step.bad"], apart := false, laid := [("galley/step.bad", laid_galley_step_bad)], narrowed := true }
def LinesModesUptoSaid : Prop := linesModesUptoRow.holds Tryd.pinned (OpenSpec.upto linesModesSpec)

/-- 'galleylaw07.LinesWhere', WHERE WHAT IT READS IS OF BULK AT MOST 1048576: true; the input reads as it did. -/
def linesWhereUptoRow : OpenClaim := { program := "ytbomhpfckplgaaadoor", sum := "0fbd7cc557bf40d9ecfa9dad68fe3b01a0b71f9b8155e63c8358f57aaa1e67ab", func := "galley/galleylaw07.LinesWhere", spec := "linesWhere", unfollowed := true, recurses := true, named := ["galley/step.bad"], apart := false, laid := [("galley/step.bad", laid_galley_step_bad)], narrowed := true }
def LinesWhereUptoSaid : Prop := linesWhereUptoRow.holds Tryd.pinned (OpenSpec.upto linesWhereSpec)

/-- 'galleylaw07.LinesBack', WHERE WHAT IT READS IS OF BULK AT MOST 1048576: true; the input reads as it did. -/
def linesBackUptoRow : OpenClaim := { program := "ytbomhpfckplgaaadoor", sum := "0fbd7cc557bf40d9ecfa9dad68fe3b01a0b71f9b8155e63c8358f57aaa1e67ab", func := "galley/galleylaw07.LinesBack", spec := "linesBack", unfollowed := true, recurses := true, named := ["galley/step.bad"], apart := false, laid := [("galley/step.bad", laid_galley_step_bad)], narrowed := true }
def LinesBackUptoSaid : Prop := linesBackUptoRow.holds Tryd.pinned (OpenSpec.upto linesBackSpec)

/-- 'galleylaw07.LinesOwn', WHERE WHAT IT READS IS OF BULK AT MOST 1048576: true; the input reads as it did. -/
def linesOwnUptoRow : OpenClaim := { program := "ytbomhpfckplgaaadoor", sum := "0fbd7cc557bf40d9ecfa9dad68fe3b01a0b71f9b8155e63c8358f57aaa1e67ab", func := "galley/galleylaw07.LinesOwn", spec := "linesOwn", unfollowed := true, recurses := true, named := ["galley/step.bad"], apart := false, laid := [("galley/step.bad", laid_galley_step_bad)], narrowed := true }
def LinesOwnUptoSaid : Prop := linesOwnUptoRow.holds Tryd.pinned (OpenSpec.upto linesOwnSpec)

/-- 'galleylaw19.DiffDistance', WHERE WHAT IT READS IS OF BULK AT MOST 1048576: true; the input reads as it did. -/
def diffDistanceUptoRow : OpenClaim := { program := "ytbomhpfckplgaaadoor", sum := "0fbd7cc557bf40d9ecfa9dad68fe3b01a0b71f9b8155e63c8358f57aaa1e67ab", func := "galley/galleylaw19.DiffDistance", spec := "diffDistance", unfollowed := true, recurses := true, named := ["galley/step.bad"], apart := false, laid := [("galley/step.bad", laid_galley_step_bad)], narrowed := true }
def DiffDistanceUptoSaid : Prop := diffDistanceUptoRow.holds Tryd.pinned (OpenSpec.upto diffDistanceSpec)

/-- 'galleylaw19.DiffGreat', WHERE WHAT IT READS IS OF BULK AT MOST 1048576: true; the input reads as it did. -/
def diffGreatUptoRow : OpenClaim := { program := "ytbomhpfckplgaaadoor", sum := "0fbd7cc557bf40d9ecfa9dad68fe3b01a0b71f9b8155e63c8358f57aaa1e67ab", func := "galley/galleylaw19.DiffGreat", spec := "diffGreat", unfollowed := true, recurses := true, named := ["galley/step.bad"], apart := false, laid := [("galley/step.bad", laid_galley_step_bad)], narrowed := true }
def DiffGreatUptoSaid : Prop := diffGreatUptoRow.holds Tryd.pinned (OpenSpec.upto diffGreatSpec)

/-- 'galleylaw19.DiffLeast', WHERE WHAT IT READS IS OF BULK AT MOST 1048576: true; the input reads as it did. -/
def diffLeastUptoRow : OpenClaim := { program := "ytbomhpfckplgaaadoor", sum := "0fbd7cc557bf40d9ecfa9dad68fe3b01a0b71f9b8155e63c8358f57aaa1e67ab", func := "galley/galleylaw19.DiffLeast", spec := "diffLeast", unfollowed := true, recurses := true, named := ["galley/step.bad"], apart := false, laid := [("galley/step.bad", laid_galley_step_bad)], narrowed := true }
def DiffLeastUptoSaid : Prop := diffLeastUptoRow.holds Tryd.pinned (OpenSpec.upto diffLeastSpec)

/-- 'galleylaw19.DiffLines', WHERE WHAT IT READS IS OF BULK AT MOST 1048576: true; the input reads as it did. -/
def diffLinesUptoRow : OpenClaim := { program := "ytbomhpfckplgaaadoor", sum := "0fbd7cc557bf40d9ecfa9dad68fe3b01a0b71f9b8155e63c8358f57aaa1e67ab", func := "galley/galleylaw19.DiffLines", spec := "diffLines", unfollowed := true, recurses := true, named := ["galley/step.bad"], apart := false, laid := [("galley/step.bad", laid_galley_step_bad)], narrowed := true }
def DiffLinesUptoSaid : Prop := diffLinesUptoRow.holds Tryd.pinned (OpenSpec.upto diffLinesSpec)

/-- 'galleylaw19.DiffCosts', WHERE WHAT IT READS IS OF BULK AT MOST 1048576: true; the input reads as it did. -/
def diffCostsUptoRow : OpenClaim := { program := "ytbomhpfckplgaaadoor", sum := "0fbd7cc557bf40d9ecfa9dad68fe3b01a0b71f9b8155e63c8358f57aaa1e67ab", func := "galley/galleylaw19.DiffCosts", spec := "diffCosts", unfollowed := true, recurses := true, named := ["galley/step.bad"], apart := false, laid := [("galley/step.bad", laid_galley_step_bad)], narrowed := true }
def DiffCostsUptoSaid : Prop := diffCostsUptoRow.holds Tryd.pinned (OpenSpec.upto diffCostsSpec)

/-- 'galleylaw19.DiffMetric', WHERE WHAT IT READS IS OF BULK AT MOST 1048576: true; the input reads as it did. -/
def diffMetricUptoRow : OpenClaim := { program := "ytbomhpfckplgaaadoor", sum := "0fbd7cc557bf40d9ecfa9dad68fe3b01a0b71f9b8155e63c8358f57aaa1e67ab", func := "galley/galleylaw19.DiffMetric", spec := "diffMetric", unfollowed := true, recurses := true, named := ["galley/step.bad"], apart := false, laid := [("galley/step.bad", laid_galley_step_bad)], narrowed := true }
def DiffMetricUptoSaid : Prop := diffMetricUptoRow.holds Tryd.pinned (OpenSpec.upto diffMetricSpec)

end Rows
end Go.Proofs.YtbomhpfckplgaaaDoor
