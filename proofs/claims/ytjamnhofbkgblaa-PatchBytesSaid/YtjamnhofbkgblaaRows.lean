/-
  NARROWER THAN 'FOR EVERY INPUT', by the rows' own cells (each row's printed sentence says how): PatchTwice: loops · PatchOrders: loops · PatchApplies: loops · PatchBytes: loops.
  DERIVED. THE GIVEN ROWS OF THIS SEAT. 6 by the template 'for every input the law returns true; each argument reads behind the call as it read before'; 0 by the template 'total and deterministic' (their statements: YtjamnhofbkgblaaTotals.lean).
  GIVEN WITH THE SEED: the statements are not yours to turn. If you find one false, say at which input.
  Laid BY PROGRAM, IN A SANDBOX (cutbox-rows.mjs): the forced cells as the released guide's own fill.sh prints them over the translation f412f2fe885cd2ed… (all of the seat's roots in one cut). By AI agents, Wed Nov 11 2026. No macro, syntax, notation, axiom, sorry.
-/
import Derived.Test.YtjamnhofbkgblaaChecked
import GoSem.Claim
import GoSem.ClaimJoined
import GoSem.ClaimMapViews
import Derived.JoinedTies
import Derived.KernelRfl
namespace Go.Proofs.Ytjamnhofbkgblaa
/- THE CELL 'sum', in the pinned program and in every row, IS THE sha256 OF THE DUMP (.gsa) THAT YtjamnhofbkgblaaProg.lean LOADS. Nothing in Lean hashes anything: it is a label: what it is worth is what the hold of that sum in a sandbox is worth. -/
noncomputable def Try.pinned : Pinned := { name := "ytjamnhofbkgblaa", sum := "f412f2fe885cd2ed003c4caf2b95f0a57894802d96b7a5672b8ed02dbe7e7e55", checked := Try.checked }
namespace Rows
def none {H : Type} : Left H := { results := [], args := [] }

/-- 'mailbaglaw08.PatchTwice': WHATEVER THE INPUT: true; the input reads as it did. -/
def patchTwiceSpec : ChangeSpec := { name := "patchTwice", fn := fun _ => fun
  | [d1, d2, d3] => { results := [.lit (.bool true)], args := [d1, d2, d3] }
  | _ => none }
def patchTwiceRow : OpenClaim := { program := "ytjamnhofbkgblaa", sum := "f412f2fe885cd2ed003c4caf2b95f0a57894802d96b7a5672b8ed02dbe7e7e55", func := "mailbag/mailbaglaw08.PatchTwice", spec := "patchTwice", inPlace := ["internal/bytealg.abigen_runtime_cmpstring", "slices.overlaps[mailbag/val.Field]"], unfollowed := true, recurses := true, loops := true, apart := false }
def PatchTwiceSaid : Prop := patchTwiceRow.holds Try.pinned (OpenSpec.ofChange patchTwiceSpec)

/-- ITS FALSE NEIGHBOUR: 'it returns false'. Refute it at one input. -/
def patchTwiceWrong : ChangeSpec := { name := "patchTwice", fn := fun _ => fun
  | [d1, d2, d3] => { results := [.lit (.bool false)], args := [d1, d2, d3] }
  | _ => none }
def PatchTwiceWrongFalsely : Prop := patchTwiceRow.holds Try.pinned (OpenSpec.ofChange patchTwiceWrong)

/-- 'mailbaglaw08.PatchOrders': WHATEVER THE INPUT: true; the input reads as it did. -/
def patchOrdersSpec : ChangeSpec := { name := "patchOrders", fn := fun _ => fun
  | [d1, d2, d3] => { results := [.lit (.bool true)], args := [d1, d2, d3] }
  | _ => none }
def patchOrdersRow : OpenClaim := { program := "ytjamnhofbkgblaa", sum := "f412f2fe885cd2ed003c4caf2b95f0a57894802d96b7a5672b8ed02dbe7e7e55", func := "mailbag/mailbaglaw08.PatchOrders", spec := "patchOrders", inPlace := ["internal/bytealg.abigen_runtime_cmpstring", "slices.overlaps[mailbag/val.Field]"], unfollowed := true, recurses := true, loops := true, apart := false }
def PatchOrdersSaid : Prop := patchOrdersRow.holds Try.pinned (OpenSpec.ofChange patchOrdersSpec)

/-- ITS FALSE NEIGHBOUR: 'it returns false'. Refute it at one input. -/
def patchOrdersWrong : ChangeSpec := { name := "patchOrders", fn := fun _ => fun
  | [d1, d2, d3] => { results := [.lit (.bool false)], args := [d1, d2, d3] }
  | _ => none }
def PatchOrdersWrongFalsely : Prop := patchOrdersRow.holds Try.pinned (OpenSpec.ofChange patchOrdersWrong)

/-- 'mailbaglaw08.PatchPaths': WHATEVER THE INPUT: true; the input reads as it did. -/
def patchPathsSpec : ChangeSpec := { name := "patchPaths", fn := fun _ => fun
  | [d1, d2] => { results := [.lit (.bool true)], args := [d1, d2] }
  | _ => none }
def patchPathsRow : OpenClaim := { program := "ytjamnhofbkgblaa", sum := "f412f2fe885cd2ed003c4caf2b95f0a57894802d96b7a5672b8ed02dbe7e7e55", func := "mailbag/mailbaglaw08.PatchPaths", spec := "patchPaths", inPlace := ["internal/bytealg.abigen_runtime_cmpstring", "slices.overlaps[mailbag/val.Field]"], unfollowed := true, recurses := true, apart := false }
def PatchPathsSaid : Prop := patchPathsRow.holds Try.pinned (OpenSpec.ofChange patchPathsSpec)

/-- ITS FALSE NEIGHBOUR: 'it returns false'. Refute it at one input. -/
def patchPathsWrong : ChangeSpec := { name := "patchPaths", fn := fun _ => fun
  | [d1, d2] => { results := [.lit (.bool false)], args := [d1, d2] }
  | _ => none }
def PatchPathsWrongFalsely : Prop := patchPathsRow.holds Try.pinned (OpenSpec.ofChange patchPathsWrong)

/-- 'mailbaglaw08.PatchApplies': WHATEVER THE INPUT: true; the input reads as it did. -/
def patchAppliesSpec : ChangeSpec := { name := "patchApplies", fn := fun _ => fun
  | [d1, d2] => { results := [.lit (.bool true)], args := [d1, d2] }
  | _ => none }
def patchAppliesRow : OpenClaim := { program := "ytjamnhofbkgblaa", sum := "f412f2fe885cd2ed003c4caf2b95f0a57894802d96b7a5672b8ed02dbe7e7e55", func := "mailbag/mailbaglaw08.PatchApplies", spec := "patchApplies", inPlace := ["internal/bytealg.abigen_runtime_cmpstring", "slices.overlaps[mailbag/val.Field]"], unfollowed := true, recurses := true, loops := true, apart := false }
def PatchAppliesSaid : Prop := patchAppliesRow.holds Try.pinned (OpenSpec.ofChange patchAppliesSpec)

/-- ITS FALSE NEIGHBOUR: 'it returns false'. Refute it at one input. -/
def patchAppliesWrong : ChangeSpec := { name := "patchApplies", fn := fun _ => fun
  | [d1, d2] => { results := [.lit (.bool false)], args := [d1, d2] }
  | _ => none }
def PatchAppliesWrongFalsely : Prop := patchAppliesRow.holds Try.pinned (OpenSpec.ofChange patchAppliesWrong)

/-- 'mailbaglaw08.PatchMany': WHATEVER THE INPUT: true; the input reads as it did. -/
def patchManySpec : ChangeSpec := { name := "patchMany", fn := fun _ => fun
  | [d1, d2] => { results := [.lit (.bool true)], args := [d1, d2] }
  | _ => none }
def patchManyRow : OpenClaim := { program := "ytjamnhofbkgblaa", sum := "f412f2fe885cd2ed003c4caf2b95f0a57894802d96b7a5672b8ed02dbe7e7e55", func := "mailbag/mailbaglaw08.PatchMany", spec := "patchMany", inPlace := ["internal/bytealg.abigen_runtime_cmpstring", "slices.overlaps[mailbag/val.Field]"], unfollowed := true, recurses := true, apart := false }
def PatchManySaid : Prop := patchManyRow.holds Try.pinned (OpenSpec.ofChange patchManySpec)

/-- ITS FALSE NEIGHBOUR: 'it returns false'. Refute it at one input. -/
def patchManyWrong : ChangeSpec := { name := "patchMany", fn := fun _ => fun
  | [d1, d2] => { results := [.lit (.bool false)], args := [d1, d2] }
  | _ => none }
def PatchManyWrongFalsely : Prop := patchManyRow.holds Try.pinned (OpenSpec.ofChange patchManyWrong)

/-- 'mailbaglaw08.PatchBytes': WHATEVER THE INPUT: true; the input reads as it did. -/
def patchBytesSpec : ChangeSpec := { name := "patchBytes", fn := fun _ => fun
  | [d1, d2] => { results := [.lit (.bool true)], args := [d1, d2] }
  | _ => none }
def patchBytesRow : OpenClaim := { program := "ytjamnhofbkgblaa", sum := "f412f2fe885cd2ed003c4caf2b95f0a57894802d96b7a5672b8ed02dbe7e7e55", func := "mailbag/mailbaglaw08.PatchBytes", spec := "patchBytes", inPlace := ["internal/bytealg.abigen_runtime_cmpstring", "slices.overlaps[mailbag/val.Field]"], unfollowed := true, recurses := true, loops := true, apart := false }
def PatchBytesSaid : Prop := patchBytesRow.holds Try.pinned (OpenSpec.ofChange patchBytesSpec)

/-- ITS FALSE NEIGHBOUR: 'it returns false'. Refute it at one input. -/
def patchBytesWrong : ChangeSpec := { name := "patchBytes", fn := fun _ => fun
  | [d1, d2] => { results := [.lit (.bool false)], args := [d1, d2] }
  | _ => none }
def PatchBytesWrongFalsely : Prop := patchBytesRow.holds Try.pinned (OpenSpec.ofChange patchBytesWrong)

/- THE SECOND FORM. 'bulk': how many values and letters a reading holds, each counted each time it is reached (what is shared counts as often as it is met; a slice's spare places count too). A statement '..UptoSaid' is the law's where the arguments, and the package variables that the reading takes, are together of bulk at most 1048576: NARROWER than '..Said'. Prove '..Said' where nothing that the law and all that it calls make is longer than what came in: it says more and counts as full. Else prove '..UptoSaid'. A law counts once. -/
mutual
def uptoBulk {H : Type} : DataW H → Nat
  | .lit (.string bytes) => bytes.length + 1
  | .lit _ => 1
  | .nil => 1
  | .ptr d => uptoBulk d + 1
  | .slice elems spare => uptoBulkAll elems + uptoBulkAll spare + 1
  | .agg parts => uptoBulkAll parts + 1
  | .iface _ d => uptoBulk d + 1
  | .map entries => uptoBulkEntries entries + 1
  | .held _ => 1
def uptoBulkAll {H : Type} : List (DataW H) → Nat
  | [] => 0
  | d :: r => uptoBulk d + uptoBulkAll r
def uptoBulkEntries {H : Type} : List (Lit × DataW H) → Nat
  | [] => 0
  | x :: r => uptoBulkEntry x + uptoBulkEntries r
def uptoBulkEntry {H : Type} : Lit × DataW H → Nat
  | (.string bytes, d) => bytes.length + uptoBulk d + 1
  | (_, d) => uptoBulk d + 1
 end
def uptoSmall : (H : Type) → List (DataW H) → Bool := fun _ ds => decide (uptoBulkAll ds ≤ 1048576)
def OpenSpec.upto (s : _root_.Go.ChangeSpec) : _root_.Go.OpenSpec := { _root_.Go.OpenSpec.ofChange s with cond := some uptoSmall }

/-- 'mailbaglaw08.PatchTwice', WHERE WHAT IT READS IS OF BULK AT MOST 1048576: true; the input reads as it did. -/
def patchTwiceUptoRow : OpenClaim := { program := "ytjamnhofbkgblaa", sum := "f412f2fe885cd2ed003c4caf2b95f0a57894802d96b7a5672b8ed02dbe7e7e55", func := "mailbag/mailbaglaw08.PatchTwice", spec := "patchTwice", inPlace := ["internal/bytealg.abigen_runtime_cmpstring", "slices.overlaps[mailbag/val.Field]"], unfollowed := true, recurses := true, loops := true, apart := false, narrowed := true }
def PatchTwiceUptoSaid : Prop := patchTwiceUptoRow.holds Try.pinned (OpenSpec.upto patchTwiceSpec)

/-- 'mailbaglaw08.PatchOrders', WHERE WHAT IT READS IS OF BULK AT MOST 1048576: true; the input reads as it did. -/
def patchOrdersUptoRow : OpenClaim := { program := "ytjamnhofbkgblaa", sum := "f412f2fe885cd2ed003c4caf2b95f0a57894802d96b7a5672b8ed02dbe7e7e55", func := "mailbag/mailbaglaw08.PatchOrders", spec := "patchOrders", inPlace := ["internal/bytealg.abigen_runtime_cmpstring", "slices.overlaps[mailbag/val.Field]"], unfollowed := true, recurses := true, loops := true, apart := false, narrowed := true }
def PatchOrdersUptoSaid : Prop := patchOrdersUptoRow.holds Try.pinned (OpenSpec.upto patchOrdersSpec)

/-- 'mailbaglaw08.PatchPaths', WHERE WHAT IT READS IS OF BULK AT MOST 1048576: true; the input reads as it did. -/
def patchPathsUptoRow : OpenClaim := { program := "ytjamnhofbkgblaa", sum := "f412f2fe885cd2ed003c4caf2b95f0a57894802d96b7a5672b8ed02dbe7e7e55", func := "mailbag/mailbaglaw08.PatchPaths", spec := "patchPaths", inPlace := ["internal/bytealg.abigen_runtime_cmpstring", "slices.overlaps[mailbag/val.Field]"], unfollowed := true, recurses := true, apart := false, narrowed := true }
def PatchPathsUptoSaid : Prop := patchPathsUptoRow.holds Try.pinned (OpenSpec.upto patchPathsSpec)

/-- 'mailbaglaw08.PatchApplies', WHERE WHAT IT READS IS OF BULK AT MOST 1048576: true; the input reads as it did. -/
def patchAppliesUptoRow : OpenClaim := { program := "ytjamnhofbkgblaa", sum := "f412f2fe885cd2ed003c4caf2b95f0a57894802d96b7a5672b8ed02dbe7e7e55", func := "mailbag/mailbaglaw08.PatchApplies", spec := "patchApplies", inPlace := ["internal/bytealg.abigen_runtime_cmpstring", "slices.overlaps[mailbag/val.Field]"], unfollowed := true, recurses := true, loops := true, apart := false, narrowed := true }
def PatchAppliesUptoSaid : Prop := patchAppliesUptoRow.holds Try.pinned (OpenSpec.upto patchAppliesSpec)

/-- 'mailbaglaw08.PatchMany', WHERE WHAT IT READS IS OF BULK AT MOST 1048576: true; the input reads as it did. -/
def patchManyUptoRow : OpenClaim := { program := "ytjamnhofbkgblaa", sum := "f412f2fe885cd2ed003c4caf2b95f0a57894802d96b7a5672b8ed02dbe7e7e55", func := "mailbag/mailbaglaw08.PatchMany", spec := "patchMany", inPlace := ["internal/bytealg.abigen_runtime_cmpstring", "slices.overlaps[mailbag/val.Field]"], unfollowed := true, recurses := true, apart := false, narrowed := true }
def PatchManyUptoSaid : Prop := patchManyUptoRow.holds Try.pinned (OpenSpec.upto patchManySpec)

/-- 'mailbaglaw08.PatchBytes', WHERE WHAT IT READS IS OF BULK AT MOST 1048576: true; the input reads as it did. -/
def patchBytesUptoRow : OpenClaim := { program := "ytjamnhofbkgblaa", sum := "f412f2fe885cd2ed003c4caf2b95f0a57894802d96b7a5672b8ed02dbe7e7e55", func := "mailbag/mailbaglaw08.PatchBytes", spec := "patchBytes", inPlace := ["internal/bytealg.abigen_runtime_cmpstring", "slices.overlaps[mailbag/val.Field]"], unfollowed := true, recurses := true, loops := true, apart := false, narrowed := true }
def PatchBytesUptoSaid : Prop := patchBytesUptoRow.holds Try.pinned (OpenSpec.upto patchBytesSpec)

end Rows
end Go.Proofs.Ytjamnhofbkgblaa
