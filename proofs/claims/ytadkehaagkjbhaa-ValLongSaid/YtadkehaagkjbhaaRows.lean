/-
  NARROWER THAN 'FOR EVERY INPUT', by the rows' own cells (each row's printed sentence says how): SchemaParts: loops · SchemaKeys: loops · ValBytes: loops · ValOrders: loops · ValApart: loops.
  DERIVED. THE GIVEN ROWS OF THIS SEAT. 12 by the template 'for every input the law returns true; each argument reads behind the call as it read before'; 0 by the template 'total and deterministic' (their statements: YtadkehaagkjbhaaTotals.lean).
  GIVEN WITH THE SEED: the statements are not yours to turn. If you find one false, say at which input.
  Laid BY PROGRAM, IN A SANDBOX (cutbox-rows.mjs): the forced cells as the released guide's own fill.sh prints them over the translation d6a4060edb39bb8e… (all of the seat's roots in one cut). By AI agents, Wed Nov 11 2026. No macro, syntax, notation, axiom, sorry.
-/
import Derived.Test.YtadkehaagkjbhaaChecked
import GoSem.Claim
import GoSem.ClaimJoined
import GoSem.ClaimMapViews
import Derived.JoinedTies
import Derived.KernelRfl
namespace Go.Proofs.Ytadkehaagkjbhaa
/- THE CELL 'sum', in the pinned program and in every row, IS THE sha256 OF THE DUMP (.gsa) THAT YtadkehaagkjbhaaProg.lean LOADS. Nothing in Lean hashes anything: it is a label: what it is worth is what the hold of that sum in a sandbox is worth. -/
noncomputable def Try.pinned : Pinned := { name := "ytadkehaagkjbhaa", sum := "d6a4060edb39bb8ea739d4d4a8d41ecde8151c3b7644acb28c0db44041448e6b", checked := Try.checked }
namespace Rows
def none {H : Type} : Left H := { results := [], args := [] }

/-- 'mailbaglaw13.SchemaReads': WHATEVER THE INPUT: true; the input reads as it did. -/
def schemaReadsSpec : ChangeSpec := { name := "schemaReads", fn := fun _ => fun
  | [d1, d2] => { results := [.lit (.bool true)], args := [d1, d2] }
  | _ => none }
def schemaReadsRow : OpenClaim := { program := "ytadkehaagkjbhaa", sum := "d6a4060edb39bb8ea739d4d4a8d41ecde8151c3b7644acb28c0db44041448e6b", func := "mailbag/mailbaglaw13.SchemaReads", spec := "schemaReads", unfollowed := true, recurses := true, apart := false }
def SchemaReadsSaid : Prop := schemaReadsRow.holds Try.pinned (OpenSpec.ofChange schemaReadsSpec)

/-- ITS FALSE NEIGHBOUR: 'it returns false'. Refute it at one input. -/
def schemaReadsWrong : ChangeSpec := { name := "schemaReads", fn := fun _ => fun
  | [d1, d2] => { results := [.lit (.bool false)], args := [d1, d2] }
  | _ => none }
def SchemaReadsWrongFalsely : Prop := schemaReadsRow.holds Try.pinned (OpenSpec.ofChange schemaReadsWrong)

/-- 'mailbaglaw13.SchemaParts': WHATEVER THE INPUT: true; the input reads as it did. -/
def schemaPartsSpec : ChangeSpec := { name := "schemaParts", fn := fun _ => fun
  | [d1, d2, d3, d4, d5, d6, d7] => { results := [.lit (.bool true)], args := [d1, d2, d3, d4, d5, d6, d7] }
  | _ => none }
def schemaPartsRow : OpenClaim := { program := "ytadkehaagkjbhaa", sum := "d6a4060edb39bb8ea739d4d4a8d41ecde8151c3b7644acb28c0db44041448e6b", func := "mailbag/mailbaglaw13.SchemaParts", spec := "schemaParts", inPlace := ["internal/bytealg.abigen_runtime_cmpstring", "slices.overlaps[mailbag/val.Field]"], unfollowed := true, recurses := true, loops := true, apart := false }
def SchemaPartsSaid : Prop := schemaPartsRow.holds Try.pinned (OpenSpec.ofChange schemaPartsSpec)

/-- ITS FALSE NEIGHBOUR: 'it returns false'. Refute it at one input. -/
def schemaPartsWrong : ChangeSpec := { name := "schemaParts", fn := fun _ => fun
  | [d1, d2, d3, d4, d5, d6, d7] => { results := [.lit (.bool false)], args := [d1, d2, d3, d4, d5, d6, d7] }
  | _ => none }
def SchemaPartsWrongFalsely : Prop := schemaPartsRow.holds Try.pinned (OpenSpec.ofChange schemaPartsWrong)

/-- 'mailbaglaw13.SchemaKeys': WHATEVER THE INPUT: true; the input reads as it did. -/
def schemaKeysSpec : ChangeSpec := { name := "schemaKeys", fn := fun _ => fun
  | [d1, d2, d3, d4, d5, d6] => { results := [.lit (.bool true)], args := [d1, d2, d3, d4, d5, d6] }
  | _ => none }
def schemaKeysRow : OpenClaim := { program := "ytadkehaagkjbhaa", sum := "d6a4060edb39bb8ea739d4d4a8d41ecde8151c3b7644acb28c0db44041448e6b", func := "mailbag/mailbaglaw13.SchemaKeys", spec := "schemaKeys", inPlace := ["internal/bytealg.abigen_runtime_cmpstring", "slices.overlaps[mailbag/val.Field]", "internal/abi.NoEscape"], unfollowed := true, recurses := true, loops := true, apart := false }
def SchemaKeysSaid : Prop := schemaKeysRow.holds Try.pinned (OpenSpec.ofChange schemaKeysSpec)

/-- ITS FALSE NEIGHBOUR: 'it returns false'. Refute it at one input. -/
def schemaKeysWrong : ChangeSpec := { name := "schemaKeys", fn := fun _ => fun
  | [d1, d2, d3, d4, d5, d6] => { results := [.lit (.bool false)], args := [d1, d2, d3, d4, d5, d6] }
  | _ => none }
def SchemaKeysWrongFalsely : Prop := schemaKeysRow.holds Try.pinned (OpenSpec.ofChange schemaKeysWrong)

/-- 'mailbaglaw13.SchemaMany': WHATEVER THE INPUT: true; the input reads as it did. -/
def schemaManySpec : ChangeSpec := { name := "schemaMany", fn := fun _ => fun
  | [d] => { results := [.lit (.bool true)], args := [d] }
  | _ => none }
def schemaManyRow : OpenClaim := { program := "ytadkehaagkjbhaa", sum := "d6a4060edb39bb8ea739d4d4a8d41ecde8151c3b7644acb28c0db44041448e6b", func := "mailbag/mailbaglaw13.SchemaMany", spec := "schemaMany", inPlace := ["internal/bytealg.abigen_runtime_cmpstring", "slices.overlaps[mailbag/tree.item[mailbag/chain.Chain]]", "slices.overlaps[[]mailbag/tree.item[mailbag/chain.Chain]]", "slices.overlaps[mailbag/tree.item[mailbag/api.Write]]", "slices.overlaps[[]mailbag/tree.item[mailbag/api.Write]]"], unfollowed := true, recurses := true, apart := false }
def SchemaManySaid : Prop := schemaManyRow.holds Try.pinned (OpenSpec.ofChange schemaManySpec)

/-- ITS FALSE NEIGHBOUR: 'it returns false'. Refute it at one input. -/
def schemaManyWrong : ChangeSpec := { name := "schemaMany", fn := fun _ => fun
  | [d] => { results := [.lit (.bool false)], args := [d] }
  | _ => none }
def SchemaManyWrongFalsely : Prop := schemaManyRow.holds Try.pinned (OpenSpec.ofChange schemaManyWrong)

/-- 'mailbaglaw13.SchemaBytes': WHATEVER THE INPUT: true; the input reads as it did. -/
def schemaBytesSpec : ChangeSpec := { name := "schemaBytes", fn := fun _ => fun
  | [d1, d2] => { results := [.lit (.bool true)], args := [d1, d2] }
  | _ => none }
def schemaBytesRow : OpenClaim := { program := "ytadkehaagkjbhaa", sum := "d6a4060edb39bb8ea739d4d4a8d41ecde8151c3b7644acb28c0db44041448e6b", func := "mailbag/mailbaglaw13.SchemaBytes", spec := "schemaBytes", inPlace := ["internal/bytealg.abigen_runtime_cmpstring", "slices.overlaps[mailbag/tree.item[mailbag/chain.Chain]]", "slices.overlaps[[]mailbag/tree.item[mailbag/chain.Chain]]", "slices.overlaps[mailbag/tree.item[mailbag/api.Write]]", "slices.overlaps[[]mailbag/tree.item[mailbag/api.Write]]"], unfollowed := true, recurses := true, apart := false }
def SchemaBytesSaid : Prop := schemaBytesRow.holds Try.pinned (OpenSpec.ofChange schemaBytesSpec)

/-- ITS FALSE NEIGHBOUR: 'it returns false'. Refute it at one input. -/
def schemaBytesWrong : ChangeSpec := { name := "schemaBytes", fn := fun _ => fun
  | [d1, d2] => { results := [.lit (.bool false)], args := [d1, d2] }
  | _ => none }
def SchemaBytesWrongFalsely : Prop := schemaBytesRow.holds Try.pinned (OpenSpec.ofChange schemaBytesWrong)

/-- 'mailbaglaw02.ValBytes': WHATEVER THE INPUT: true; the input reads as it did. -/
def valBytesSpec : ChangeSpec := { name := "valBytes", fn := fun _ => fun
  | [d] => { results := [.lit (.bool true)], args := [d] }
  | _ => none }
def valBytesRow : OpenClaim := { program := "ytadkehaagkjbhaa", sum := "d6a4060edb39bb8ea739d4d4a8d41ecde8151c3b7644acb28c0db44041448e6b", func := "mailbag/mailbaglaw02.ValBytes", spec := "valBytes", inPlace := ["internal/bytealg.abigen_runtime_cmpstring"], unfollowed := true, recurses := true, loops := true, apart := false }
def ValBytesSaid : Prop := valBytesRow.holds Try.pinned (OpenSpec.ofChange valBytesSpec)

/-- ITS FALSE NEIGHBOUR: 'it returns false'. Refute it at one input. -/
def valBytesWrong : ChangeSpec := { name := "valBytes", fn := fun _ => fun
  | [d] => { results := [.lit (.bool false)], args := [d] }
  | _ => none }
def ValBytesWrongFalsely : Prop := valBytesRow.holds Try.pinned (OpenSpec.ofChange valBytesWrong)

/-- 'mailbaglaw02.ValReads': WHATEVER THE INPUT: true; the input reads as it did. -/
def valReadsSpec : ChangeSpec := { name := "valReads", fn := fun _ => fun
  | [d] => { results := [.lit (.bool true)], args := [d] }
  | _ => none }
def valReadsRow : OpenClaim := { program := "ytadkehaagkjbhaa", sum := "d6a4060edb39bb8ea739d4d4a8d41ecde8151c3b7644acb28c0db44041448e6b", func := "mailbag/mailbaglaw02.ValReads", spec := "valReads", inPlace := ["internal/bytealg.abigen_runtime_cmpstring"], unfollowed := true, recurses := true, apart := false }
def ValReadsSaid : Prop := valReadsRow.holds Try.pinned (OpenSpec.ofChange valReadsSpec)

/-- ITS FALSE NEIGHBOUR: 'it returns false'. Refute it at one input. -/
def valReadsWrong : ChangeSpec := { name := "valReads", fn := fun _ => fun
  | [d] => { results := [.lit (.bool false)], args := [d] }
  | _ => none }
def ValReadsWrongFalsely : Prop := valReadsRow.holds Try.pinned (OpenSpec.ofChange valReadsWrong)

/-- 'mailbaglaw02.ValDeep': WHATEVER THE INPUT: true; the input reads as it did. -/
def valDeepSpec : ChangeSpec := { name := "valDeep", fn := fun _ => fun
  | [d] => { results := [.lit (.bool true)], args := [d] }
  | _ => none }
def valDeepRow : OpenClaim := { program := "ytadkehaagkjbhaa", sum := "d6a4060edb39bb8ea739d4d4a8d41ecde8151c3b7644acb28c0db44041448e6b", func := "mailbag/mailbaglaw02.ValDeep", spec := "valDeep", inPlace := ["internal/bytealg.abigen_runtime_cmpstring"], unfollowed := true, recurses := true, apart := false }
def ValDeepSaid : Prop := valDeepRow.holds Try.pinned (OpenSpec.ofChange valDeepSpec)

/-- ITS FALSE NEIGHBOUR: 'it returns false'. Refute it at one input. -/
def valDeepWrong : ChangeSpec := { name := "valDeep", fn := fun _ => fun
  | [d] => { results := [.lit (.bool false)], args := [d] }
  | _ => none }
def ValDeepWrongFalsely : Prop := valDeepRow.holds Try.pinned (OpenSpec.ofChange valDeepWrong)

/-- 'mailbaglaw02.ValLists': WHATEVER THE INPUT: true; the input reads as it did. -/
def valListsSpec : ChangeSpec := { name := "valLists", fn := fun _ => fun
  | [d1, d2] => { results := [.lit (.bool true)], args := [d1, d2] }
  | _ => none }
def valListsRow : OpenClaim := { program := "ytadkehaagkjbhaa", sum := "d6a4060edb39bb8ea739d4d4a8d41ecde8151c3b7644acb28c0db44041448e6b", func := "mailbag/mailbaglaw02.ValLists", spec := "valLists", inPlace := ["internal/bytealg.abigen_runtime_cmpstring"], unfollowed := true, recurses := true, apart := false }
def ValListsSaid : Prop := valListsRow.holds Try.pinned (OpenSpec.ofChange valListsSpec)

/-- ITS FALSE NEIGHBOUR: 'it returns false'. Refute it at one input. -/
def valListsWrong : ChangeSpec := { name := "valLists", fn := fun _ => fun
  | [d1, d2] => { results := [.lit (.bool false)], args := [d1, d2] }
  | _ => none }
def ValListsWrongFalsely : Prop := valListsRow.holds Try.pinned (OpenSpec.ofChange valListsWrong)

/-- 'mailbaglaw02.ValOrders': WHATEVER THE INPUT: true; the input reads as it did. -/
def valOrdersSpec : ChangeSpec := { name := "valOrders", fn := fun _ => fun
  | [d1, d2, d3] => { results := [.lit (.bool true)], args := [d1, d2, d3] }
  | _ => none }
def valOrdersRow : OpenClaim := { program := "ytadkehaagkjbhaa", sum := "d6a4060edb39bb8ea739d4d4a8d41ecde8151c3b7644acb28c0db44041448e6b", func := "mailbag/mailbaglaw02.ValOrders", spec := "valOrders", inPlace := ["internal/bytealg.abigen_runtime_cmpstring", "slices.overlaps[mailbag/val.Field]"], unfollowed := true, recurses := true, loops := true, apart := false }
def ValOrdersSaid : Prop := valOrdersRow.holds Try.pinned (OpenSpec.ofChange valOrdersSpec)

/-- ITS FALSE NEIGHBOUR: 'it returns false'. Refute it at one input. -/
def valOrdersWrong : ChangeSpec := { name := "valOrders", fn := fun _ => fun
  | [d1, d2, d3] => { results := [.lit (.bool false)], args := [d1, d2, d3] }
  | _ => none }
def ValOrdersWrongFalsely : Prop := valOrdersRow.holds Try.pinned (OpenSpec.ofChange valOrdersWrong)

/-- 'mailbaglaw02.ValApart': WHATEVER THE INPUT: true; the input reads as it did. -/
def valApartSpec : ChangeSpec := { name := "valApart", fn := fun _ => fun
  | [d1, d2] => { results := [.lit (.bool true)], args := [d1, d2] }
  | _ => none }
def valApartRow : OpenClaim := { program := "ytadkehaagkjbhaa", sum := "d6a4060edb39bb8ea739d4d4a8d41ecde8151c3b7644acb28c0db44041448e6b", func := "mailbag/mailbaglaw02.ValApart", spec := "valApart", inPlace := ["internal/bytealg.abigen_runtime_cmpstring", "slices.overlaps[mailbag/val.Field]"], unfollowed := true, recurses := true, loops := true, apart := false }
def ValApartSaid : Prop := valApartRow.holds Try.pinned (OpenSpec.ofChange valApartSpec)

/-- ITS FALSE NEIGHBOUR: 'it returns false'. Refute it at one input. -/
def valApartWrong : ChangeSpec := { name := "valApart", fn := fun _ => fun
  | [d1, d2] => { results := [.lit (.bool false)], args := [d1, d2] }
  | _ => none }
def ValApartWrongFalsely : Prop := valApartRow.holds Try.pinned (OpenSpec.ofChange valApartWrong)

/-- 'mailbaglaw02.ValLong': WHATEVER THE INPUT: true; the input reads as it did. -/
def valLongSpec : ChangeSpec := { name := "valLong", fn := fun _ => fun
  | [d1, d2] => { results := [.lit (.bool true)], args := [d1, d2] }
  | _ => none }
def valLongRow : OpenClaim := { program := "ytadkehaagkjbhaa", sum := "d6a4060edb39bb8ea739d4d4a8d41ecde8151c3b7644acb28c0db44041448e6b", func := "mailbag/mailbaglaw02.ValLong", spec := "valLong", inPlace := ["internal/bytealg.abigen_runtime_cmpstring", "slices.overlaps[mailbag/val.Field]"], unfollowed := true, recurses := true, apart := false }
def ValLongSaid : Prop := valLongRow.holds Try.pinned (OpenSpec.ofChange valLongSpec)

/-- ITS FALSE NEIGHBOUR: 'it returns false'. Refute it at one input. -/
def valLongWrong : ChangeSpec := { name := "valLong", fn := fun _ => fun
  | [d1, d2] => { results := [.lit (.bool false)], args := [d1, d2] }
  | _ => none }
def ValLongWrongFalsely : Prop := valLongRow.holds Try.pinned (OpenSpec.ofChange valLongWrong)

/- THE SECOND FORM. 'bulk': how many values and letters a reading holds, each counted each time it is reached (what is shared counts as often as it is met; a slice's spare places count too). A statement '..UptoSaid' is the law's where the arguments, and the package variables that the reading takes, are together of bulk at most 1048576: NARROWER than '..Said'. Prove '..Said' where nothing that the law and all that it calls make is longer than what came in: it says more and counts as full. Else prove '..UptoSaid'. A law counts once. -/
mutual
def uptoBulk {H : Type} : DataW H → Nat
  | .lit (.string bytes) => bytes.length + 1
  | .lit _ => 1
  | .nil => 1
  | .ptr d => uptoBulk d + 1
  | .slice elems spare => uptoBulkAll elems + uptoBulkAll spare + 1
  | .agg parts => uptoBulkAll parts + 1
  | .iface _ d => uptoBulk d + 1
  | .map entries => uptoBulkEntries entries + 1
  | .held _ => 1
def uptoBulkAll {H : Type} : List (DataW H) → Nat
  | [] => 0
  | d :: r => uptoBulk d + uptoBulkAll r
def uptoBulkEntries {H : Type} : List (Lit × DataW H) → Nat
  | [] => 0
  | x :: r => uptoBulkEntry x + uptoBulkEntries r
def uptoBulkEntry {H : Type} : Lit × DataW H → Nat
  | (.string bytes, d) => bytes.length + uptoBulk d + 1
  | (_, d) => uptoBulk d + 1
 end
def uptoSmall : (H : Type) → List (DataW H) → Bool := fun _ ds => decide (uptoBulkAll ds ≤ 1048576)
def OpenSpec.upto (s : _root_.Go.ChangeSpec) : _root_.Go.OpenSpec := { _root_.Go.OpenSpec.ofChange s with cond := some uptoSmall }

/-- 'mailbaglaw13.SchemaReads', WHERE WHAT IT READS IS OF BULK AT MOST 1048576: true; the input reads as it did. -/
def schemaReadsUptoRow : OpenClaim := { program := "ytadkehaagkjbhaa", sum := "d6a4060edb39bb8ea739d4d4a8d41ecde8151c3b7644acb28c0db44041448e6b", func := "mailbag/mailbaglaw13.SchemaReads", spec := "schemaReads", unfollowed := true, recurses := true, apart := false, narrowed := true }
def SchemaReadsUptoSaid : Prop := schemaReadsUptoRow.holds Try.pinned (OpenSpec.upto schemaReadsSpec)

/-- 'mailbaglaw13.SchemaParts', WHERE WHAT IT READS IS OF BULK AT MOST 1048576: true; the input reads as it did. -/
def schemaPartsUptoRow : OpenClaim := { program := "ytadkehaagkjbhaa", sum := "d6a4060edb39bb8ea739d4d4a8d41ecde8151c3b7644acb28c0db44041448e6b", func := "mailbag/mailbaglaw13.SchemaParts", spec := "schemaParts", inPlace := ["internal/bytealg.abigen_runtime_cmpstring", "slices.overlaps[mailbag/val.Field]"], unfollowed := true, recurses := true, loops := true, apart := false, narrowed := true }
def SchemaPartsUptoSaid : Prop := schemaPartsUptoRow.holds Try.pinned (OpenSpec.upto schemaPartsSpec)

/-- 'mailbaglaw13.SchemaKeys', WHERE WHAT IT READS IS OF BULK AT MOST 1048576: true; the input reads as it did. -/
def schemaKeysUptoRow : OpenClaim := { program := "ytadkehaagkjbhaa", sum := "d6a4060edb39bb8ea739d4d4a8d41ecde8151c3b7644acb28c0db44041448e6b", func := "mailbag/mailbaglaw13.SchemaKeys", spec := "schemaKeys", inPlace := ["internal/bytealg.abigen_runtime_cmpstring", "slices.overlaps[mailbag/val.Field]", "internal/abi.NoEscape"], unfollowed := true, recurses := true, loops := true, apart := false, narrowed := true }
def SchemaKeysUptoSaid : Prop := schemaKeysUptoRow.holds Try.pinned (OpenSpec.upto schemaKeysSpec)

/-- 'mailbaglaw13.SchemaMany', WHERE WHAT IT READS IS OF BULK AT MOST 1048576: true; the input reads as it did. -/
def schemaManyUptoRow : OpenClaim := { program := "ytadkehaagkjbhaa", sum := "d6a4060edb39bb8ea739d4d4a8d41ecde8151c3b7644acb28c0db44041448e6b", func := "mailbag/mailbaglaw13.SchemaMany", spec := "schemaMany", inPlace := ["internal/bytealg.abigen_runtime_cmpstring", "slices.overlaps[mailbag/tree.item[mailbag/chain.Chain]]", "slices.overlaps[[]mailbag/tree.item[mailbag/chain.Chain]]", "slices.overlaps[mailbag/tree.item[mailbag/api.Write]]", "slices.overlaps[[]mailbag/tree.item[mailbag/api.Write]]"], unfollowed := true, recurses := true, apart := false, narrowed := true }
def SchemaManyUptoSaid : Prop := schemaManyUptoRow.holds Try.pinned (OpenSpec.upto schemaManySpec)

/-- 'mailbaglaw13.SchemaBytes', WHERE WHAT IT READS IS OF BULK AT MOST 1048576: true; the input reads as it did. -/
def schemaBytesUptoRow : OpenClaim := { program := "ytadkehaagkjbhaa", sum := "d6a4060edb39bb8ea739d4d4a8d41ecde8151c3b7644acb28c0db44041448e6b", func := "mailbag/mailbaglaw13.SchemaBytes", spec := "schemaBytes", inPlace := ["internal/bytealg.abigen_runtime_cmpstring", "slices.overlaps[mailbag/tree.item[mailbag/chain.Chain]]", "slices.overlaps[[]mailbag/tree.item[mailbag/chain.Chain]]", "slices.overlaps[mailbag/tree.item[mailbag/api.Write]]", "slices.overlaps[[]mailbag/tree.item[mailbag/api.Write]]"], unfollowed := true, recurses := true, apart := false, narrowed := true }
def SchemaBytesUptoSaid : Prop := schemaBytesUptoRow.holds Try.pinned (OpenSpec.upto schemaBytesSpec)

/-- 'mailbaglaw02.ValBytes', WHERE WHAT IT READS IS OF BULK AT MOST 1048576: true; the input reads as it did. -/
def valBytesUptoRow : OpenClaim := { program := "ytadkehaagkjbhaa", sum := "d6a4060edb39bb8ea739d4d4a8d41ecde8151c3b7644acb28c0db44041448e6b", func := "mailbag/mailbaglaw02.ValBytes", spec := "valBytes", inPlace := ["internal/bytealg.abigen_runtime_cmpstring"], unfollowed := true, recurses := true, loops := true, apart := false, narrowed := true }
def ValBytesUptoSaid : Prop := valBytesUptoRow.holds Try.pinned (OpenSpec.upto valBytesSpec)

/-- 'mailbaglaw02.ValReads', WHERE WHAT IT READS IS OF BULK AT MOST 1048576: true; the input reads as it did. -/
def valReadsUptoRow : OpenClaim := { program := "ytadkehaagkjbhaa", sum := "d6a4060edb39bb8ea739d4d4a8d41ecde8151c3b7644acb28c0db44041448e6b", func := "mailbag/mailbaglaw02.ValReads", spec := "valReads", inPlace := ["internal/bytealg.abigen_runtime_cmpstring"], unfollowed := true, recurses := true, apart := false, narrowed := true }
def ValReadsUptoSaid : Prop := valReadsUptoRow.holds Try.pinned (OpenSpec.upto valReadsSpec)

/-- 'mailbaglaw02.ValDeep', WHERE WHAT IT READS IS OF BULK AT MOST 1048576: true; the input reads as it did. -/
def valDeepUptoRow : OpenClaim := { program := "ytadkehaagkjbhaa", sum := "d6a4060edb39bb8ea739d4d4a8d41ecde8151c3b7644acb28c0db44041448e6b", func := "mailbag/mailbaglaw02.ValDeep", spec := "valDeep", inPlace := ["internal/bytealg.abigen_runtime_cmpstring"], unfollowed := true, recurses := true, apart := false, narrowed := true }
def ValDeepUptoSaid : Prop := valDeepUptoRow.holds Try.pinned (OpenSpec.upto valDeepSpec)

/-- 'mailbaglaw02.ValLists', WHERE WHAT IT READS IS OF BULK AT MOST 1048576: true; the input reads as it did. -/
def valListsUptoRow : OpenClaim := { program := "ytadkehaagkjbhaa", sum := "d6a4060edb39bb8ea739d4d4a8d41ecde8151c3b7644acb28c0db44041448e6b", func := "mailbag/mailbaglaw02.ValLists", spec := "valLists", inPlace := ["internal/bytealg.abigen_runtime_cmpstring"], unfollowed := true, recurses := true, apart := false, narrowed := true }
def ValListsUptoSaid : Prop := valListsUptoRow.holds Try.pinned (OpenSpec.upto valListsSpec)

/-- 'mailbaglaw02.ValOrders', WHERE WHAT IT READS IS OF BULK AT MOST 1048576: true; the input reads as it did. -/
def valOrdersUptoRow : OpenClaim := { program := "ytadkehaagkjbhaa", sum := "d6a4060edb39bb8ea739d4d4a8d41ecde8151c3b7644acb28c0db44041448e6b", func := "mailbag/mailbaglaw02.ValOrders", spec := "valOrders", inPlace := ["internal/bytealg.abigen_runtime_cmpstring", "slices.overlaps[mailbag/val.Field]"], unfollowed := true, recurses := true, loops := true, apart := false, narrowed := true }
def ValOrdersUptoSaid : Prop := valOrdersUptoRow.holds Try.pinned (OpenSpec.upto valOrdersSpec)

/-- 'mailbaglaw02.ValApart', WHERE WHAT IT READS IS OF BULK AT MOST 1048576: true; the input reads as it did. -/
def valApartUptoRow : OpenClaim := { program := "ytadkehaagkjbhaa", sum := "d6a4060edb39bb8ea739d4d4a8d41ecde8151c3b7644acb28c0db44041448e6b", func := "mailbag/mailbaglaw02.ValApart", spec := "valApart", inPlace := ["internal/bytealg.abigen_runtime_cmpstring", "slices.overlaps[mailbag/val.Field]"], unfollowed := true, recurses := true, loops := true, apart := false, narrowed := true }
def ValApartUptoSaid : Prop := valApartUptoRow.holds Try.pinned (OpenSpec.upto valApartSpec)

/-- 'mailbaglaw02.ValLong', WHERE WHAT IT READS IS OF BULK AT MOST 1048576: true; the input reads as it did. -/
def valLongUptoRow : OpenClaim := { program := "ytadkehaagkjbhaa", sum := "d6a4060edb39bb8ea739d4d4a8d41ecde8151c3b7644acb28c0db44041448e6b", func := "mailbag/mailbaglaw02.ValLong", spec := "valLong", inPlace := ["internal/bytealg.abigen_runtime_cmpstring", "slices.overlaps[mailbag/val.Field]"], unfollowed := true, recurses := true, apart := false, narrowed := true }
def ValLongUptoSaid : Prop := valLongUptoRow.holds Try.pinned (OpenSpec.upto valLongSpec)

end Rows
end Go.Proofs.Ytadkehaagkjbhaa
