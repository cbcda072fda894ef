/-
  NARROWER THAN 'FOR EVERY INPUT', by the rows' own cells (each row's printed sentence says how): OrdVals: loops.
  DERIVED. THE GIVEN ROWS OF THIS SEAT. 8 by the template 'for every input the law returns true; each argument reads behind the call as it read before'; 0 by the template 'total and deterministic' (their statements: YtlphmahlchgafaaTotals.lean).
  GIVEN WITH THE SEED: the statements are not yours to turn. If you find one false, say at which input.
  Laid BY PROGRAM, IN A SANDBOX (cutbox-rows.mjs): the forced cells as the released guide's own fill.sh prints them over the translation c015562415027dae… (all of the seat's roots in one cut). By AI agents, Wed Nov 11 2026. No macro, syntax, notation, axiom, sorry.
-/
import Derived.Test.YtlphmahlchgafaaChecked
import GoSem.Claim
import GoSem.ClaimJoined
import GoSem.ClaimMapViews
import Derived.JoinedTies
import Derived.KernelRfl
namespace Go.Proofs.Ytlphmahlchgafaa
/- THE CELL 'sum', in the pinned program and in every row, IS THE sha256 OF THE DUMP (.gsa) THAT YtlphmahlchgafaaProg.lean LOADS. Nothing in Lean hashes anything: it is a label: what it is worth is what the hold of that sum in a sandbox is worth. -/
noncomputable def Try.pinned : Pinned := { name := "ytlphmahlchgafaa", sum := "c015562415027daec31387c5184359e0431f64119d2e4f61614ce3e2bd9a308f", checked := Try.checked }
namespace Rows
def none {H : Type} : Left H := { results := [], args := [] }

/-- 'mailbaglaw03.OrdTexts': WHATEVER THE INPUT: true; the input reads as it did. -/
def ordTextsSpec : ChangeSpec := { name := "ordTexts", fn := fun _ => fun
  | [d1, d2, d3, d4] => { results := [.lit (.bool true)], args := [d1, d2, d3, d4] }
  | _ => none }
def ordTextsRow : OpenClaim := { program := "ytlphmahlchgafaa", sum := "c015562415027daec31387c5184359e0431f64119d2e4f61614ce3e2bd9a308f", func := "mailbag/mailbaglaw03.OrdTexts", spec := "ordTexts", apart := false }
def OrdTextsSaid : Prop := ordTextsRow.holds Try.pinned (OpenSpec.ofChange ordTextsSpec)

/-- ITS FALSE NEIGHBOUR: 'it returns false'. Refute it at one input. -/
def ordTextsWrong : ChangeSpec := { name := "ordTexts", fn := fun _ => fun
  | [d1, d2, d3, d4] => { results := [.lit (.bool false)], args := [d1, d2, d3, d4] }
  | _ => none }
def OrdTextsWrongFalsely : Prop := ordTextsRow.holds Try.pinned (OpenSpec.ofChange ordTextsWrong)

/-- 'mailbaglaw03.OrdNumbers': WHATEVER THE INPUT: true; the input reads as it did. -/
def ordNumbersSpec : ChangeSpec := { name := "ordNumbers", fn := fun _ => fun
  | [d1, d2, d3, d4, d5] => { results := [.lit (.bool true)], args := [d1, d2, d3, d4, d5] }
  | _ => none }
def ordNumbersRow : OpenClaim := { program := "ytlphmahlchgafaa", sum := "c015562415027daec31387c5184359e0431f64119d2e4f61614ce3e2bd9a308f", func := "mailbag/mailbaglaw03.OrdNumbers", spec := "ordNumbers", apart := false }
def OrdNumbersSaid : Prop := ordNumbersRow.holds Try.pinned (OpenSpec.ofChange ordNumbersSpec)

/-- ITS FALSE NEIGHBOUR: 'it returns false'. Refute it at one input. -/
def ordNumbersWrong : ChangeSpec := { name := "ordNumbers", fn := fun _ => fun
  | [d1, d2, d3, d4, d5] => { results := [.lit (.bool false)], args := [d1, d2, d3, d4, d5] }
  | _ => none }
def OrdNumbersWrongFalsely : Prop := ordNumbersRow.holds Try.pinned (OpenSpec.ofChange ordNumbersWrong)

/-- 'mailbaglaw03.OrdAfters': WHATEVER THE INPUT: true; the input reads as it did. -/
def ordAftersSpec : ChangeSpec := { name := "ordAfters", fn := fun _ => fun
  | [d1, d2] => { results := [.lit (.bool true)], args := [d1, d2] }
  | _ => none }
def ordAftersRow : OpenClaim := { program := "ytlphmahlchgafaa", sum := "c015562415027daec31387c5184359e0431f64119d2e4f61614ce3e2bd9a308f", func := "mailbag/mailbaglaw03.OrdAfters", spec := "ordAfters", apart := false }
def OrdAftersSaid : Prop := ordAftersRow.holds Try.pinned (OpenSpec.ofChange ordAftersSpec)

/-- ITS FALSE NEIGHBOUR: 'it returns false'. Refute it at one input. -/
def ordAftersWrong : ChangeSpec := { name := "ordAfters", fn := fun _ => fun
  | [d1, d2] => { results := [.lit (.bool false)], args := [d1, d2] }
  | _ => none }
def OrdAftersWrongFalsely : Prop := ordAftersRow.holds Try.pinned (OpenSpec.ofChange ordAftersWrong)

/-- 'mailbaglaw03.OrdBelow': WHATEVER THE INPUT: true; the input reads as it did. -/
def ordBelowSpec : ChangeSpec := { name := "ordBelow", fn := fun _ => fun
  | [d1, d2] => { results := [.lit (.bool true)], args := [d1, d2] }
  | _ => none }
def ordBelowRow : OpenClaim := { program := "ytlphmahlchgafaa", sum := "c015562415027daec31387c5184359e0431f64119d2e4f61614ce3e2bd9a308f", func := "mailbag/mailbaglaw03.OrdBelow", spec := "ordBelow", apart := false }
def OrdBelowSaid : Prop := ordBelowRow.holds Try.pinned (OpenSpec.ofChange ordBelowSpec)

/-- ITS FALSE NEIGHBOUR: 'it returns false'. Refute it at one input. -/
def ordBelowWrong : ChangeSpec := { name := "ordBelow", fn := fun _ => fun
  | [d1, d2] => { results := [.lit (.bool false)], args := [d1, d2] }
  | _ => none }
def OrdBelowWrongFalsely : Prop := ordBelowRow.holds Try.pinned (OpenSpec.ofChange ordBelowWrong)

/-- 'mailbaglaw03.OrdInts': WHATEVER THE INPUT: true; the input reads as it did. -/
def ordIntsSpec : ChangeSpec := { name := "ordInts", fn := fun _ => fun
  | [d1, d2, d3] => { results := [.lit (.bool true)], args := [d1, d2, d3] }
  | _ => none }
def ordIntsRow : OpenClaim := { program := "ytlphmahlchgafaa", sum := "c015562415027daec31387c5184359e0431f64119d2e4f61614ce3e2bd9a308f", func := "mailbag/mailbaglaw03.OrdInts", spec := "ordInts", apart := false }
def OrdIntsSaid : Prop := ordIntsRow.holds Try.pinned (OpenSpec.ofChange ordIntsSpec)

/-- ITS FALSE NEIGHBOUR: 'it returns false'. Refute it at one input. -/
def ordIntsWrong : ChangeSpec := { name := "ordInts", fn := fun _ => fun
  | [d1, d2, d3] => { results := [.lit (.bool false)], args := [d1, d2, d3] }
  | _ => none }
def OrdIntsWrongFalsely : Prop := ordIntsRow.holds Try.pinned (OpenSpec.ofChange ordIntsWrong)

/-- 'mailbaglaw03.OrdKeys': WHATEVER THE INPUT: true; the input reads as it did. -/
def ordKeysSpec : ChangeSpec := { name := "ordKeys", fn := fun _ => fun
  | [d1, d2] => { results := [.lit (.bool true)], args := [d1, d2] }
  | _ => none }
def ordKeysRow : OpenClaim := { program := "ytlphmahlchgafaa", sum := "c015562415027daec31387c5184359e0431f64119d2e4f61614ce3e2bd9a308f", func := "mailbag/mailbaglaw03.OrdKeys", spec := "ordKeys", inPlace := ["internal/abi.NoEscape"], apart := false }
def OrdKeysSaid : Prop := ordKeysRow.holds Try.pinned (OpenSpec.ofChange ordKeysSpec)

/-- ITS FALSE NEIGHBOUR: 'it returns false'. Refute it at one input. -/
def ordKeysWrong : ChangeSpec := { name := "ordKeys", fn := fun _ => fun
  | [d1, d2] => { results := [.lit (.bool false)], args := [d1, d2] }
  | _ => none }
def OrdKeysWrongFalsely : Prop := ordKeysRow.holds Try.pinned (OpenSpec.ofChange ordKeysWrong)

/-- 'mailbaglaw03.OrdCuts': WHATEVER THE INPUT: true; the input reads as it did. -/
def ordCutsSpec : ChangeSpec := { name := "ordCuts", fn := fun _ => fun
  | [d] => { results := [.lit (.bool true)], args := [d] }
  | _ => none }
def ordCutsRow : OpenClaim := { program := "ytlphmahlchgafaa", sum := "c015562415027daec31387c5184359e0431f64119d2e4f61614ce3e2bd9a308f", func := "mailbag/mailbaglaw03.OrdCuts", spec := "ordCuts", inPlace := ["internal/abi.NoEscape"], apart := false }
def OrdCutsSaid : Prop := ordCutsRow.holds Try.pinned (OpenSpec.ofChange ordCutsSpec)

/-- ITS FALSE NEIGHBOUR: 'it returns false'. Refute it at one input. -/
def ordCutsWrong : ChangeSpec := { name := "ordCuts", fn := fun _ => fun
  | [d] => { results := [.lit (.bool false)], args := [d] }
  | _ => none }
def OrdCutsWrongFalsely : Prop := ordCutsRow.holds Try.pinned (OpenSpec.ofChange ordCutsWrong)

/-- 'mailbaglaw03.OrdVals': WHATEVER THE INPUT: true; the input reads as it did. -/
def ordValsSpec : ChangeSpec := { name := "ordVals", fn := fun _ => fun
  | [d1, d2, d3] => { results := [.lit (.bool true)], args := [d1, d2, d3] }
  | _ => none }
def ordValsRow : OpenClaim := { program := "ytlphmahlchgafaa", sum := "c015562415027daec31387c5184359e0431f64119d2e4f61614ce3e2bd9a308f", func := "mailbag/mailbaglaw03.OrdVals", spec := "ordVals", inPlace := ["internal/bytealg.abigen_runtime_cmpstring", "slices.overlaps[mailbag/val.Field]"], unfollowed := true, recurses := true, loops := true, apart := false }
def OrdValsSaid : Prop := ordValsRow.holds Try.pinned (OpenSpec.ofChange ordValsSpec)

/-- ITS FALSE NEIGHBOUR: 'it returns false'. Refute it at one input. -/
def ordValsWrong : ChangeSpec := { name := "ordVals", fn := fun _ => fun
  | [d1, d2, d3] => { results := [.lit (.bool false)], args := [d1, d2, d3] }
  | _ => none }
def OrdValsWrongFalsely : Prop := ordValsRow.holds Try.pinned (OpenSpec.ofChange ordValsWrong)

/- THE SECOND FORM. 'bulk': how many values and letters a reading holds, each counted each time it is reached (what is shared counts as often as it is met; a slice's spare places count too). A statement '..UptoSaid' is the law's where the arguments, and the package variables that the reading takes, are together of bulk at most 1048576: NARROWER than '..Said'. Prove '..Said' where nothing that the law and all that it calls make is longer than what came in: it says more and counts as full. Else prove '..UptoSaid'. A law counts once. -/
mutual
def uptoBulk {H : Type} : DataW H → Nat
  | .lit (.string bytes) => bytes.length + 1
  | .lit _ => 1
  | .nil => 1
  | .ptr d => uptoBulk d + 1
  | .slice elems spare => uptoBulkAll elems + uptoBulkAll spare + 1
  | .agg parts => uptoBulkAll parts + 1
  | .iface _ d => uptoBulk d + 1
  | .map entries => uptoBulkEntries entries + 1
  | .held _ => 1
def uptoBulkAll {H : Type} : List (DataW H) → Nat
  | [] => 0
  | d :: r => uptoBulk d + uptoBulkAll r
def uptoBulkEntries {H : Type} : List (Lit × DataW H) → Nat
  | [] => 0
  | x :: r => uptoBulkEntry x + uptoBulkEntries r
def uptoBulkEntry {H : Type} : Lit × DataW H → Nat
  | (.string bytes, d) => bytes.length + uptoBulk d + 1
  | (_, d) => uptoBulk d + 1
 end
def uptoSmall : (H : Type) → List (DataW H) → Bool := fun _ ds => decide (uptoBulkAll ds ≤ 1048576)
def OpenSpec.upto (s : _root_.Go.ChangeSpec) : _root_.Go.OpenSpec := { _root_.Go.OpenSpec.ofChange s with cond := some uptoSmall }

/-- 'mailbaglaw03.OrdTexts', WHERE WHAT IT READS IS OF BULK AT MOST 1048576: true; the input reads as it did. -/
def ordTextsUptoRow : OpenClaim := { program := "ytlphmahlchgafaa", sum := "c015562415027daec31387c5184359e0431f64119d2e4f61614ce3e2bd9a308f", func := "mailbag/mailbaglaw03.OrdTexts", spec := "ordTexts", apart := false, narrowed := true }
def OrdTextsUptoSaid : Prop := ordTextsUptoRow.holds Try.pinned (OpenSpec.upto ordTextsSpec)

/-- 'mailbaglaw03.OrdNumbers', WHERE WHAT IT READS IS OF BULK AT MOST 1048576: true; the input reads as it did. -/
def ordNumbersUptoRow : OpenClaim := { program := "ytlphmahlchgafaa", sum := "c015562415027daec31387c5184359e0431f64119d2e4f61614ce3e2bd9a308f", func := "mailbag/mailbaglaw03.OrdNumbers", spec := "ordNumbers", apart := false, narrowed := true }
def OrdNumbersUptoSaid : Prop := ordNumbersUptoRow.holds Try.pinned (OpenSpec.upto ordNumbersSpec)

/-- 'mailbaglaw03.OrdAfters', WHERE WHAT IT READS IS OF BULK AT MOST 1048576: true; the input reads as it did. -/
def ordAftersUptoRow : OpenClaim := { program := "ytlphmahlchgafaa", sum := "c015562415027daec31387c5184359e0431f64119d2e4f61614ce3e2bd9a308f", func := "mailbag/mailbaglaw03.OrdAfters", spec := "ordAfters", apart := false, narrowed := true }
def OrdAftersUptoSaid : Prop := ordAftersUptoRow.holds Try.pinned (OpenSpec.upto ordAftersSpec)

/-- 'mailbaglaw03.OrdBelow', WHERE WHAT IT READS IS OF BULK AT MOST 1048576: true; the input reads as it did. -/
def ordBelowUptoRow : OpenClaim := { program := "ytlphmahlchgafaa", sum := "c015562415027daec31387c5184359e0431f64119d2e4f61614ce3e2bd9a308f", func := "mailbag/mailbaglaw03.OrdBelow", spec := "ordBelow", apart := false, narrowed := true }
def OrdBelowUptoSaid : Prop := ordBelowUptoRow.holds Try.pinned (OpenSpec.upto ordBelowSpec)

/-- 'mailbaglaw03.OrdInts', WHERE WHAT IT READS IS OF BULK AT MOST 1048576: true; the input reads as it did. -/
def ordIntsUptoRow : OpenClaim := { program := "ytlphmahlchgafaa", sum := "c015562415027daec31387c5184359e0431f64119d2e4f61614ce3e2bd9a308f", func := "mailbag/mailbaglaw03.OrdInts", spec := "ordInts", apart := false, narrowed := true }
def OrdIntsUptoSaid : Prop := ordIntsUptoRow.holds Try.pinned (OpenSpec.upto ordIntsSpec)

/-- 'mailbaglaw03.OrdKeys', WHERE WHAT IT READS IS OF BULK AT MOST 1048576: true; the input reads as it did. -/
def ordKeysUptoRow : OpenClaim := { program := "ytlphmahlchgafaa", sum := "c015562415027daec31387c5184359e0431f64119d2e4f61614ce3e2bd9a308f", func := "mailbag/mailbaglaw03.OrdKeys", spec := "ordKeys", inPlace := ["internal/abi.NoEscape"], apart := false, narrowed := true }
def OrdKeysUptoSaid : Prop := ordKeysUptoRow.holds Try.pinned (OpenSpec.upto ordKeysSpec)

/-- 'mailbaglaw03.OrdCuts', WHERE WHAT IT READS IS OF BULK AT MOST 1048576: true; the input reads as it did. -/
def ordCutsUptoRow : OpenClaim := { program := "ytlphmahlchgafaa", sum := "c015562415027daec31387c5184359e0431f64119d2e4f61614ce3e2bd9a308f", func := "mailbag/mailbaglaw03.OrdCuts", spec := "ordCuts", inPlace := ["internal/abi.NoEscape"], apart := false, narrowed := true }
def OrdCutsUptoSaid : Prop := ordCutsUptoRow.holds Try.pinned (OpenSpec.upto ordCutsSpec)

/-- 'mailbaglaw03.OrdVals', WHERE WHAT IT READS IS OF BULK AT MOST 1048576: true; the input reads as it did. -/
def ordValsUptoRow : OpenClaim := { program := "ytlphmahlchgafaa", sum := "c015562415027daec31387c5184359e0431f64119d2e4f61614ce3e2bd9a308f", func := "mailbag/mailbaglaw03.OrdVals", spec := "ordVals", inPlace := ["internal/bytealg.abigen_runtime_cmpstring", "slices.overlaps[mailbag/val.Field]"], unfollowed := true, recurses := true, loops := true, apart := false, narrowed := true }
def OrdValsUptoSaid : Prop := ordValsUptoRow.holds Try.pinned (OpenSpec.upto ordValsSpec)

end Rows
end Go.Proofs.Ytlphmahlchgafaa
