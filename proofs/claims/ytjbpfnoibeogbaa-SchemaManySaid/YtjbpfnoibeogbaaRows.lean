/-
  NARROWER THAN 'FOR EVERY INPUT', by the rows' own cells (each row's printed sentence says how): ValFields: loops.
  DERIVED. THE GIVEN ROWS OF THIS SEAT. 6 by the template 'for every input the law returns true; each argument reads behind the call as it read before'; 0 by the template 'total and deterministic' (their statements: YtjbpfnoibeogbaaTotals.lean).
  GIVEN WITH THE SEED: the statements are not yours to turn. If you find one false, say at which input.
  Laid BY PROGRAM, IN A SANDBOX (cutbox-rows.mjs): the forced cells as the released guide's own fill.sh prints them over the translation e6a3f765ce7deb05… (all of the seat's roots in one cut). By AI agents, Wed Nov 11 2026. No macro, syntax, notation, axiom, sorry.
-/
import Derived.Test.YtjbpfnoibeogbaaChecked
import GoSem.Claim
import GoSem.ClaimJoined
import GoSem.ClaimMapViews
import Derived.JoinedTies
import Derived.KernelRfl
namespace Go.Proofs.Ytjbpfnoibeogbaa
/- THE CELL 'sum', in the pinned program and in every row, IS THE sha256 OF THE DUMP (.gsa) THAT YtjbpfnoibeogbaaProg.lean LOADS. Nothing in Lean hashes anything: it is a label: what it is worth is what the hold of that sum in a sandbox is worth. -/
noncomputable def Try.pinned : Pinned := { name := "ytjbpfnoibeogbaa", sum := "e6a3f765ce7deb05968c44d408cfac0398e1c41879417801697dbab01c2b52e3", checked := Try.checked }
namespace Rows
def none {H : Type} : Left H := { results := [], args := [] }

/-- 'mailbaglaw02.ValFields': WHATEVER THE INPUT: true; the input reads as it did. -/
def valFieldsSpec : ChangeSpec := { name := "valFields", fn := fun _ => fun
  | [d1, d2, d3] => { results := [.lit (.bool true)], args := [d1, d2, d3] }
  | _ => none }
def valFieldsRow : OpenClaim := { program := "ytjbpfnoibeogbaa", sum := "e6a3f765ce7deb05968c44d408cfac0398e1c41879417801697dbab01c2b52e3", func := "mailbag/mailbaglaw02.ValFields", spec := "valFields", inPlace := ["internal/bytealg.abigen_runtime_cmpstring", "slices.overlaps[mailbag/val.Field]"], unfollowed := true, recurses := true, loops := true, apart := false }
def ValFieldsSaid : Prop := valFieldsRow.holds Try.pinned (OpenSpec.ofChange valFieldsSpec)

/-- ITS FALSE NEIGHBOUR: 'it returns false'. Refute it at one input. -/
def valFieldsWrong : ChangeSpec := { name := "valFields", fn := fun _ => fun
  | [d1, d2, d3] => { results := [.lit (.bool false)], args := [d1, d2, d3] }
  | _ => none }
def ValFieldsWrongFalsely : Prop := valFieldsRow.holds Try.pinned (OpenSpec.ofChange valFieldsWrong)

/-- 'mailbaglaw20.HistEvents': WHATEVER THE INPUT: true; the input reads as it did. -/
def histEventsSpec : ChangeSpec := { name := "histEvents", fn := fun _ => fun
  | [d] => { results := [.lit (.bool true)], args := [d] }
  | _ => none }
def histEventsRow : OpenClaim := { program := "ytjbpfnoibeogbaa", sum := "e6a3f765ce7deb05968c44d408cfac0398e1c41879417801697dbab01c2b52e3", func := "mailbag/mailbaglaw20.HistEvents", spec := "histEvents", inPlace := ["maps.clone", "internal/abi.NoEscape"], recurses := true, apart := false }
def HistEventsSaid : Prop := histEventsRow.holds Try.pinned (OpenSpec.ofChange histEventsSpec)

/-- ITS FALSE NEIGHBOUR: 'it returns false'. Refute it at one input. -/
def histEventsWrong : ChangeSpec := { name := "histEvents", fn := fun _ => fun
  | [d] => { results := [.lit (.bool false)], args := [d] }
  | _ => none }
def HistEventsWrongFalsely : Prop := histEventsRow.holds Try.pinned (OpenSpec.ofChange histEventsWrong)

/-- 'mailbaglaw20.HistJoins': WHATEVER THE INPUT: true; the input reads as it did. -/
def histJoinsSpec : ChangeSpec := { name := "histJoins", fn := fun _ => fun
  | [d1, d2] => { results := [.lit (.bool true)], args := [d1, d2] }
  | _ => none }
def histJoinsRow : OpenClaim := { program := "ytjbpfnoibeogbaa", sum := "e6a3f765ce7deb05968c44d408cfac0398e1c41879417801697dbab01c2b52e3", func := "mailbag/mailbaglaw20.HistJoins", spec := "histJoins", inPlace := ["maps.clone", "internal/abi.NoEscape"], recurses := true, apart := false }
def HistJoinsSaid : Prop := histJoinsRow.holds Try.pinned (OpenSpec.ofChange histJoinsSpec)

/-- ITS FALSE NEIGHBOUR: 'it returns false'. Refute it at one input. -/
def histJoinsWrong : ChangeSpec := { name := "histJoins", fn := fun _ => fun
  | [d1, d2] => { results := [.lit (.bool false)], args := [d1, d2] }
  | _ => none }
def HistJoinsWrongFalsely : Prop := histJoinsRow.holds Try.pinned (OpenSpec.ofChange histJoinsWrong)

/-- 'mailbaglaw20.HistOther': WHATEVER THE INPUT: true; the input reads as it did. -/
def histOtherSpec : ChangeSpec := { name := "histOther", fn := fun _ => fun
  | [d1, d2] => { results := [.lit (.bool true)], args := [d1, d2] }
  | _ => none }
def histOtherRow : OpenClaim := { program := "ytjbpfnoibeogbaa", sum := "e6a3f765ce7deb05968c44d408cfac0398e1c41879417801697dbab01c2b52e3", func := "mailbag/mailbaglaw20.HistOther", spec := "histOther", inPlace := ["maps.clone", "internal/abi.NoEscape"], recurses := true, apart := false }
def HistOtherSaid : Prop := histOtherRow.holds Try.pinned (OpenSpec.ofChange histOtherSpec)

/-- ITS FALSE NEIGHBOUR: 'it returns false'. Refute it at one input. -/
def histOtherWrong : ChangeSpec := { name := "histOther", fn := fun _ => fun
  | [d1, d2] => { results := [.lit (.bool false)], args := [d1, d2] }
  | _ => none }
def HistOtherWrongFalsely : Prop := histOtherRow.holds Try.pinned (OpenSpec.ofChange histOtherWrong)

/-- 'mailbaglaw13.SchemaMany': WHATEVER THE INPUT: true; the input reads as it did. -/
def schemaManySpec : ChangeSpec := { name := "schemaMany", fn := fun _ => fun
  | [d] => { results := [.lit (.bool true)], args := [d] }
  | _ => none }
def schemaManyRow : OpenClaim := { program := "ytjbpfnoibeogbaa", sum := "e6a3f765ce7deb05968c44d408cfac0398e1c41879417801697dbab01c2b52e3", func := "mailbag/mailbaglaw13.SchemaMany", spec := "schemaMany", inPlace := ["internal/bytealg.abigen_runtime_cmpstring", "slices.overlaps[mailbag/tree.item[mailbag/chain.Chain]]", "slices.overlaps[[]mailbag/tree.item[mailbag/chain.Chain]]", "slices.overlaps[mailbag/tree.item[mailbag/api.Write]]", "slices.overlaps[[]mailbag/tree.item[mailbag/api.Write]]"], unfollowed := true, recurses := true, apart := false }
def SchemaManySaid : Prop := schemaManyRow.holds Try.pinned (OpenSpec.ofChange schemaManySpec)

/-- ITS FALSE NEIGHBOUR: 'it returns false'. Refute it at one input. -/
def schemaManyWrong : ChangeSpec := { name := "schemaMany", fn := fun _ => fun
  | [d] => { results := [.lit (.bool false)], args := [d] }
  | _ => none }
def SchemaManyWrongFalsely : Prop := schemaManyRow.holds Try.pinned (OpenSpec.ofChange schemaManyWrong)

/-- 'mailbaglaw13.SchemaBytes': WHATEVER THE INPUT: true; the input reads as it did. -/
def schemaBytesSpec : ChangeSpec := { name := "schemaBytes", fn := fun _ => fun
  | [d1, d2] => { results := [.lit (.bool true)], args := [d1, d2] }
  | _ => none }
def schemaBytesRow : OpenClaim := { program := "ytjbpfnoibeogbaa", sum := "e6a3f765ce7deb05968c44d408cfac0398e1c41879417801697dbab01c2b52e3", func := "mailbag/mailbaglaw13.SchemaBytes", spec := "schemaBytes", inPlace := ["internal/bytealg.abigen_runtime_cmpstring", "slices.overlaps[mailbag/tree.item[mailbag/chain.Chain]]", "slices.overlaps[[]mailbag/tree.item[mailbag/chain.Chain]]", "slices.overlaps[mailbag/tree.item[mailbag/api.Write]]", "slices.overlaps[[]mailbag/tree.item[mailbag/api.Write]]"], unfollowed := true, recurses := true, apart := false }
def SchemaBytesSaid : Prop := schemaBytesRow.holds Try.pinned (OpenSpec.ofChange schemaBytesSpec)

/-- ITS FALSE NEIGHBOUR: 'it returns false'. Refute it at one input. -/
def schemaBytesWrong : ChangeSpec := { name := "schemaBytes", fn := fun _ => fun
  | [d1, d2] => { results := [.lit (.bool false)], args := [d1, d2] }
  | _ => none }
def SchemaBytesWrongFalsely : Prop := schemaBytesRow.holds Try.pinned (OpenSpec.ofChange schemaBytesWrong)

/- THE SECOND FORM. 'bulk': how many values and letters a reading holds, each counted each time it is reached (what is shared counts as often as it is met; a slice's spare places count too). A statement '..UptoSaid' is the law's where the arguments, and the package variables that the reading takes, are together of bulk at most 1048576: NARROWER than '..Said'. Prove '..Said' where nothing that the law and all that it calls make is longer than what came in: it says more and counts as full. Else prove '..UptoSaid'. A law counts once. -/
mutual
def uptoBulk {H : Type} : DataW H → Nat
  | .lit (.string bytes) => bytes.length + 1
  | .lit _ => 1
  | .nil => 1
  | .ptr d => uptoBulk d + 1
  | .slice elems spare => uptoBulkAll elems + uptoBulkAll spare + 1
  | .agg parts => uptoBulkAll parts + 1
  | .iface _ d => uptoBulk d + 1
  | .map entries => uptoBulkEntries entries + 1
  | .held _ => 1
def uptoBulkAll {H : Type} : List (DataW H) → Nat
  | [] => 0
  | d :: r => uptoBulk d + uptoBulkAll r
def uptoBulkEntries {H : Type} : List (Lit × DataW H) → Nat
  | [] => 0
  | x :: r => uptoBulkEntry x + uptoBulkEntries r
def uptoBulkEntry {H : Type} : Lit × DataW H → Nat
  | (.string bytes, d) => bytes.length + uptoBulk d + 1
  | (_, d) => uptoBulk d + 1
 end
def uptoSmall : (H : Type) → List (DataW H) → Bool := fun _ ds => decide (uptoBulkAll ds ≤ 1048576)
def OpenSpec.upto (s : _root_.Go.ChangeSpec) : _root_.Go.OpenSpec := { _root_.Go.OpenSpec.ofChange s with cond := some uptoSmall }

/-- 'mailbaglaw02.ValFields', WHERE WHAT IT READS IS OF BULK AT MOST 1048576: true; the input reads as it did. -/
def valFieldsUptoRow : OpenClaim := { program := "ytjbpfnoibeogbaa", sum := "e6a3f765ce7deb05968c44d408cfac0398e1c41879417801697dbab01c2b52e3", func := "mailbag/mailbaglaw02.ValFields", spec := "valFields", inPlace := ["internal/bytealg.abigen_runtime_cmpstring", "slices.overlaps[mailbag/val.Field]"], unfollowed := true, recurses := true, loops := true, apart := false, narrowed := true }
def ValFieldsUptoSaid : Prop := valFieldsUptoRow.holds Try.pinned (OpenSpec.upto valFieldsSpec)

/-- 'mailbaglaw20.HistEvents', WHERE WHAT IT READS IS OF BULK AT MOST 1048576: true; the input reads as it did. -/
def histEventsUptoRow : OpenClaim := { program := "ytjbpfnoibeogbaa", sum := "e6a3f765ce7deb05968c44d408cfac0398e1c41879417801697dbab01c2b52e3", func := "mailbag/mailbaglaw20.HistEvents", spec := "histEvents", inPlace := ["maps.clone", "internal/abi.NoEscape"], recurses := true, apart := false, narrowed := true }
def HistEventsUptoSaid : Prop := histEventsUptoRow.holds Try.pinned (OpenSpec.upto histEventsSpec)

/-- 'mailbaglaw20.HistJoins', WHERE WHAT IT READS IS OF BULK AT MOST 1048576: true; the input reads as it did. -/
def histJoinsUptoRow : OpenClaim := { program := "ytjbpfnoibeogbaa", sum := "e6a3f765ce7deb05968c44d408cfac0398e1c41879417801697dbab01c2b52e3", func := "mailbag/mailbaglaw20.HistJoins", spec := "histJoins", inPlace := ["maps.clone", "internal/abi.NoEscape"], recurses := true, apart := false, narrowed := true }
def HistJoinsUptoSaid : Prop := histJoinsUptoRow.holds Try.pinned (OpenSpec.upto histJoinsSpec)

/-- 'mailbaglaw20.HistOther', WHERE WHAT IT READS IS OF BULK AT MOST 1048576: true; the input reads as it did. -/
def histOtherUptoRow : OpenClaim := { program := "ytjbpfnoibeogbaa", sum := "e6a3f765ce7deb05968c44d408cfac0398e1c41879417801697dbab01c2b52e3", func := "mailbag/mailbaglaw20.HistOther", spec := "histOther", inPlace := ["maps.clone", "internal/abi.NoEscape"], recurses := true, apart := false, narrowed := true }
def HistOtherUptoSaid : Prop := histOtherUptoRow.holds Try.pinned (OpenSpec.upto histOtherSpec)

/-- 'mailbaglaw13.SchemaMany', WHERE WHAT IT READS IS OF BULK AT MOST 1048576: true; the input reads as it did. -/
def schemaManyUptoRow : OpenClaim := { program := "ytjbpfnoibeogbaa", sum := "e6a3f765ce7deb05968c44d408cfac0398e1c41879417801697dbab01c2b52e3", func := "mailbag/mailbaglaw13.SchemaMany", spec := "schemaMany", inPlace := ["internal/bytealg.abigen_runtime_cmpstring", "slices.overlaps[mailbag/tree.item[mailbag/chain.Chain]]", "slices.overlaps[[]mailbag/tree.item[mailbag/chain.Chain]]", "slices.overlaps[mailbag/tree.item[mailbag/api.Write]]", "slices.overlaps[[]mailbag/tree.item[mailbag/api.Write]]"], unfollowed := true, recurses := true, apart := false, narrowed := true }
def SchemaManyUptoSaid : Prop := schemaManyUptoRow.holds Try.pinned (OpenSpec.upto schemaManySpec)

/-- 'mailbaglaw13.SchemaBytes', WHERE WHAT IT READS IS OF BULK AT MOST 1048576: true; the input reads as it did. -/
def schemaBytesUptoRow : OpenClaim := { program := "ytjbpfnoibeogbaa", sum := "e6a3f765ce7deb05968c44d408cfac0398e1c41879417801697dbab01c2b52e3", func := "mailbag/mailbaglaw13.SchemaBytes", spec := "schemaBytes", inPlace := ["internal/bytealg.abigen_runtime_cmpstring", "slices.overlaps[mailbag/tree.item[mailbag/chain.Chain]]", "slices.overlaps[[]mailbag/tree.item[mailbag/chain.Chain]]", "slices.overlaps[mailbag/tree.item[mailbag/api.Write]]", "slices.overlaps[[]mailbag/tree.item[mailbag/api.Write]]"], unfollowed := true, recurses := true, apart := false, narrowed := true }
def SchemaBytesUptoSaid : Prop := schemaBytesUptoRow.holds Try.pinned (OpenSpec.upto schemaBytesSpec)

end Rows
end Go.Proofs.Ytjbpfnoibeogbaa
