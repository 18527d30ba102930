/-
  No cell of these rows narrows 'for every input' (looked for: loops, veiled, ifaces, maps, wideKeys, modest, calm, conditions, laid).
  DERIVED. THE GIVEN ROWS OF THIS SEAT. 9 by the template 'for every input the law returns true; each argument reads behind the call as it read before'; 0 by the template 'total and deterministic' (their statements: YthnbpbmbpggadaaTotals.lean).
  GIVEN WITH THE SEED: the statements are not yours to turn. If you find one false, say at which input.
  Laid BY PROGRAM, IN A SANDBOX (cutbox-rows.mjs): the forced cells as the released guide's own fill.sh prints them over the translation 47aeb7c405da7138… (all of the seat's roots in one cut). By AI agents, Wed Nov 11 2026. No macro, syntax, notation, axiom, sorry.
-/
import Derived.Test.YthnbpbmbpggadaaChecked
import GoSem.Claim
import GoSem.ClaimJoined
import GoSem.ClaimMapViews
import Derived.JoinedTies
import Derived.KernelRfl
namespace Go.Proofs.Ythnbpbmbpggadaa
/- THE CELL 'sum', in the pinned program and in every row, IS THE sha256 OF THE DUMP (.gsa) THAT YthnbpbmbpggadaaProg.lean LOADS. Nothing in Lean hashes anything: it is a label: what it is worth is what the hold of that sum in a sandbox is worth. -/
noncomputable def Try.pinned : Pinned := { name := "ythnbpbmbpggadaa", sum := "47aeb7c405da7138223772f4b7721cf728b4877a78d58df94f6f8acb43e9bd45", checked := Try.checked }
namespace Rows
def none {H : Type} : Left H := { results := [], args := [] }

/-- 'carapacelaw12.AsmLeads': WHATEVER THE INPUT: true; the input reads as it did. -/
def asmLeadsSpec : ChangeSpec := { name := "asmLeads", fn := fun _ => fun
  | [d] => { results := [.lit (.bool true)], args := [d] }
  | _ => none }
def asmLeadsRow : OpenClaim := { program := "ythnbpbmbpggadaa", sum := "47aeb7c405da7138223772f4b7721cf728b4877a78d58df94f6f8acb43e9bd45", func := "carapace/carapacelaw12.AsmLeads", spec := "asmLeads", inPlace := ["internal/bytealg.IndexByteString"], unfollowed := true, recurses := true, apart := false }
def AsmLeadsSaid : Prop := asmLeadsRow.holds Try.pinned (OpenSpec.ofChange asmLeadsSpec)

/-- ITS FALSE NEIGHBOUR: 'it returns false'. Refute it at one input. -/
def asmLeadsWrong : ChangeSpec := { name := "asmLeads", fn := fun _ => fun
  | [d] => { results := [.lit (.bool false)], args := [d] }
  | _ => none }
def AsmLeadsWrongFalsely : Prop := asmLeadsRow.holds Try.pinned (OpenSpec.ofChange asmLeadsWrong)

/-- 'carapacelaw17.ImageTells': WHATEVER THE INPUT: true; the input reads as it did. -/
def imageTellsSpec : ChangeSpec := { name := "imageTells", fn := fun _ => fun
  | [d1, d2, d3] => { results := [.lit (.bool true)], args := [d1, d2, d3] }
  | _ => none }
def imageTellsRow : OpenClaim := { program := "ythnbpbmbpggadaa", sum := "47aeb7c405da7138223772f4b7721cf728b4877a78d58df94f6f8acb43e9bd45", func := "carapace/carapacelaw17.ImageTells", spec := "imageTells", inPlace := ["internal/reflectlite.TypeOf"], unfollowed := true, recurses := true, apart := false }
def ImageTellsSaid : Prop := imageTellsRow.holds Try.pinned (OpenSpec.ofChange imageTellsSpec)

/-- ITS FALSE NEIGHBOUR: 'it returns false'. Refute it at one input. -/
def imageTellsWrong : ChangeSpec := { name := "imageTells", fn := fun _ => fun
  | [d1, d2, d3] => { results := [.lit (.bool false)], args := [d1, d2, d3] }
  | _ => none }
def ImageTellsWrongFalsely : Prop := imageTellsRow.holds Try.pinned (OpenSpec.ofChange imageTellsWrong)

/-- 'carapacelaw17.ImageBack': WHATEVER THE INPUT: true; the input reads as it did. -/
def imageBackSpec : ChangeSpec := { name := "imageBack", fn := fun _ => fun
  | [d1, d2, d3] => { results := [.lit (.bool true)], args := [d1, d2, d3] }
  | _ => none }
def imageBackRow : OpenClaim := { program := "ythnbpbmbpggadaa", sum := "47aeb7c405da7138223772f4b7721cf728b4877a78d58df94f6f8acb43e9bd45", func := "carapace/carapacelaw17.ImageBack", spec := "imageBack", inPlace := ["internal/reflectlite.TypeOf"], unfollowed := true, recurses := true, apart := false }
def ImageBackSaid : Prop := imageBackRow.holds Try.pinned (OpenSpec.ofChange imageBackSpec)

/-- ITS FALSE NEIGHBOUR: 'it returns false'. Refute it at one input. -/
def imageBackWrong : ChangeSpec := { name := "imageBack", fn := fun _ => fun
  | [d1, d2, d3] => { results := [.lit (.bool false)], args := [d1, d2, d3] }
  | _ => none }
def ImageBackWrongFalsely : Prop := imageBackRow.holds Try.pinned (OpenSpec.ofChange imageBackWrong)

/-- 'carapacelaw17.ImageTurned': WHATEVER THE INPUT: true; the input reads as it did. -/
def imageTurnedSpec : ChangeSpec := { name := "imageTurned", fn := fun _ => fun
  | [d1, d2, d3] => { results := [.lit (.bool true)], args := [d1, d2, d3] }
  | _ => none }
def imageTurnedRow : OpenClaim := { program := "ythnbpbmbpggadaa", sum := "47aeb7c405da7138223772f4b7721cf728b4877a78d58df94f6f8acb43e9bd45", func := "carapace/carapacelaw17.ImageTurned", spec := "imageTurned", inPlace := ["internal/reflectlite.TypeOf"], unfollowed := true, recurses := true, apart := false }
def ImageTurnedSaid : Prop := imageTurnedRow.holds Try.pinned (OpenSpec.ofChange imageTurnedSpec)

/-- ITS FALSE NEIGHBOUR: 'it returns false'. Refute it at one input. -/
def imageTurnedWrong : ChangeSpec := { name := "imageTurned", fn := fun _ => fun
  | [d1, d2, d3] => { results := [.lit (.bool false)], args := [d1, d2, d3] }
  | _ => none }
def ImageTurnedWrongFalsely : Prop := imageTurnedRow.holds Try.pinned (OpenSpec.ofChange imageTurnedWrong)

/-- 'carapacelaw11.CpuParts': WHATEVER THE INPUT: true; the input reads as it did. -/
def cpuPartsSpec : ChangeSpec := { name := "cpuParts", fn := fun _ => fun
  | [d1, d2, d3] => { results := [.lit (.bool true)], args := [d1, d2, d3] }
  | _ => none }
def cpuPartsRow : OpenClaim := { program := "ythnbpbmbpggadaa", sum := "47aeb7c405da7138223772f4b7721cf728b4877a78d58df94f6f8acb43e9bd45", func := "carapace/carapacelaw11.CpuParts", spec := "cpuParts", inPlace := ["internal/bytealg.IndexByteString"], unfollowed := true, recurses := true, apart := false }
def CpuPartsSaid : Prop := cpuPartsRow.holds Try.pinned (OpenSpec.ofChange cpuPartsSpec)

/-- ITS FALSE NEIGHBOUR: 'it returns false'. Refute it at one input. -/
def cpuPartsWrong : ChangeSpec := { name := "cpuParts", fn := fun _ => fun
  | [d1, d2, d3] => { results := [.lit (.bool false)], args := [d1, d2, d3] }
  | _ => none }
def CpuPartsWrongFalsely : Prop := cpuPartsRow.holds Try.pinned (OpenSpec.ofChange cpuPartsWrong)

/-- 'carapacelaw16.CodecTells': WHATEVER THE INPUT: true; the input reads as it did. -/
def codecTellsSpec : ChangeSpec := { name := "codecTells", fn := fun _ => fun
  | [d1, d2, d3] => { results := [.lit (.bool true)], args := [d1, d2, d3] }
  | _ => none }
def codecTellsRow : OpenClaim := { program := "ythnbpbmbpggadaa", sum := "47aeb7c405da7138223772f4b7721cf728b4877a78d58df94f6f8acb43e9bd45", func := "carapace/carapacelaw16.CodecTells", spec := "codecTells", unfollowed := true, recurses := true, apart := false }
def CodecTellsSaid : Prop := codecTellsRow.holds Try.pinned (OpenSpec.ofChange codecTellsSpec)

/-- ITS FALSE NEIGHBOUR: 'it returns false'. Refute it at one input. -/
def codecTellsWrong : ChangeSpec := { name := "codecTells", fn := fun _ => fun
  | [d1, d2, d3] => { results := [.lit (.bool false)], args := [d1, d2, d3] }
  | _ => none }
def CodecTellsWrongFalsely : Prop := codecTellsRow.holds Try.pinned (OpenSpec.ofChange codecTellsWrong)

/-- 'carapacelaw16.CodecBack': WHATEVER THE INPUT: true; the input reads as it did. -/
def codecBackSpec : ChangeSpec := { name := "codecBack", fn := fun _ => fun
  | [d1, d2, d3] => { results := [.lit (.bool true)], args := [d1, d2, d3] }
  | _ => none }
def codecBackRow : OpenClaim := { program := "ythnbpbmbpggadaa", sum := "47aeb7c405da7138223772f4b7721cf728b4877a78d58df94f6f8acb43e9bd45", func := "carapace/carapacelaw16.CodecBack", spec := "codecBack", unfollowed := true, recurses := true, apart := false }
def CodecBackSaid : Prop := codecBackRow.holds Try.pinned (OpenSpec.ofChange codecBackSpec)

/-- ITS FALSE NEIGHBOUR: 'it returns false'. Refute it at one input. -/
def codecBackWrong : ChangeSpec := { name := "codecBack", fn := fun _ => fun
  | [d1, d2, d3] => { results := [.lit (.bool false)], args := [d1, d2, d3] }
  | _ => none }
def CodecBackWrongFalsely : Prop := codecBackRow.holds Try.pinned (OpenSpec.ofChange codecBackWrong)

/-- 'carapacelaw16.CodecBounds': WHATEVER THE INPUT: true; the input reads as it did. -/
def codecBoundsSpec : ChangeSpec := { name := "codecBounds", fn := fun _ => fun
  | [d] => { results := [.lit (.bool true)], args := [d] }
  | _ => none }
def codecBoundsRow : OpenClaim := { program := "ythnbpbmbpggadaa", sum := "47aeb7c405da7138223772f4b7721cf728b4877a78d58df94f6f8acb43e9bd45", func := "carapace/carapacelaw16.CodecBounds", spec := "codecBounds", unfollowed := true, recurses := true, apart := false }
def CodecBoundsSaid : Prop := codecBoundsRow.holds Try.pinned (OpenSpec.ofChange codecBoundsSpec)

/-- ITS FALSE NEIGHBOUR: 'it returns false'. Refute it at one input. -/
def codecBoundsWrong : ChangeSpec := { name := "codecBounds", fn := fun _ => fun
  | [d] => { results := [.lit (.bool false)], args := [d] }
  | _ => none }
def CodecBoundsWrongFalsely : Prop := codecBoundsRow.holds Try.pinned (OpenSpec.ofChange codecBoundsWrong)

/-- 'carapacelaw18.StubStarts': WHATEVER THE INPUT: true; the input reads as it did. -/
def stubStartsSpec : ChangeSpec := { name := "stubStarts", fn := fun _ => fun
  | [d1, d2] => { results := [.lit (.bool true)], args := [d1, d2] }
  | _ => none }
def stubStartsRow : OpenClaim := { program := "ythnbpbmbpggadaa", sum := "47aeb7c405da7138223772f4b7721cf728b4877a78d58df94f6f8acb43e9bd45", func := "carapace/carapacelaw18.StubStarts", spec := "stubStarts", inPlace := ["internal/bytealg.IndexByteString"], unfollowed := true, recurses := true, apart := false }
def StubStartsSaid : Prop := stubStartsRow.holds Try.pinned (OpenSpec.ofChange stubStartsSpec)

/-- ITS FALSE NEIGHBOUR: 'it returns false'. Refute it at one input. -/
def stubStartsWrong : ChangeSpec := { name := "stubStarts", fn := fun _ => fun
  | [d1, d2] => { results := [.lit (.bool false)], args := [d1, d2] }
  | _ => none }
def StubStartsWrongFalsely : Prop := stubStartsRow.holds Try.pinned (OpenSpec.ofChange stubStartsWrong)

/- THE SECOND FORM. 'bulk': how many values and letters a reading holds, each counted each time it is reached (what is shared counts as often as it is met; a slice's spare places count too). A statement '..UptoSaid' is the law's where the arguments, and the package variables that the reading takes, are together of bulk at most 1048576: NARROWER than '..Said'. Prove '..Said' where nothing that the law and all that it calls make is longer than what came in: it says more and counts as full. Else prove '..UptoSaid'. A law counts once. -/
mutual
def uptoBulk {H : Type} : DataW H → Nat
  | .lit (.string bytes) => bytes.length + 1
  | .lit _ => 1
  | .nil => 1
  | .ptr d => uptoBulk d + 1
  | .slice elems spare => uptoBulkAll elems + uptoBulkAll spare + 1
  | .agg parts => uptoBulkAll parts + 1
  | .iface _ d => uptoBulk d + 1
  | .map entries => uptoBulkEntries entries + 1
  | .held _ => 1
def uptoBulkAll {H : Type} : List (DataW H) → Nat
  | [] => 0
  | d :: r => uptoBulk d + uptoBulkAll r
def uptoBulkEntries {H : Type} : List (Lit × DataW H) → Nat
  | [] => 0
  | x :: r => uptoBulkEntry x + uptoBulkEntries r
def uptoBulkEntry {H : Type} : Lit × DataW H → Nat
  | (.string bytes, d) => bytes.length + uptoBulk d + 1
  | (_, d) => uptoBulk d + 1
 end
def uptoSmall : (H : Type) → List (DataW H) → Bool := fun _ ds => decide (uptoBulkAll ds ≤ 1048576)
def OpenSpec.upto (s : _root_.Go.ChangeSpec) : _root_.Go.OpenSpec := { _root_.Go.OpenSpec.ofChange s with cond := some uptoSmall }

/-- 'carapacelaw12.AsmLeads', WHERE WHAT IT READS IS OF BULK AT MOST 1048576: true; the input reads as it did. -/
def asmLeadsUptoRow : OpenClaim := { program := "ythnbpbmbpggadaa", sum := "47aeb7c405da7138223772f4b7721cf728b4877a78d58df94f6f8acb43e9bd45", func := "carapace/carapacelaw12.AsmLeads", spec := "asmLeads", inPlace := ["internal/bytealg.IndexByteString"], unfollowed := true, recurses := true, apart := false, narrowed := true }
def AsmLeadsUptoSaid : Prop := asmLeadsUptoRow.holds Try.pinned (OpenSpec.upto asmLeadsSpec)

/-- 'carapacelaw17.ImageTells', WHERE WHAT IT READS IS OF BULK AT MOST 1048576: true; the input reads as it did. -/
def imageTellsUptoRow : OpenClaim := { program := "ythnbpbmbpggadaa", sum := "47aeb7c405da7138223772f4b7721cf728b4877a78d58df94f6f8acb43e9bd45", func := "carapace/carapacelaw17.ImageTells", spec := "imageTells", inPlace := ["internal/reflectlite.TypeOf"], unfollowed := true, recurses := true, apart := false, narrowed := true }
def ImageTellsUptoSaid : Prop := imageTellsUptoRow.holds Try.pinned (OpenSpec.upto imageTellsSpec)

/-- 'carapacelaw17.ImageBack', WHERE WHAT IT READS IS OF BULK AT MOST 1048576: true; the input reads as it did. -/
def imageBackUptoRow : OpenClaim := { program := "ythnbpbmbpggadaa", sum := "47aeb7c405da7138223772f4b7721cf728b4877a78d58df94f6f8acb43e9bd45", func := "carapace/carapacelaw17.ImageBack", spec := "imageBack", inPlace := ["internal/reflectlite.TypeOf"], unfollowed := true, recurses := true, apart := false, narrowed := true }
def ImageBackUptoSaid : Prop := imageBackUptoRow.holds Try.pinned (OpenSpec.upto imageBackSpec)

/-- 'carapacelaw17.ImageTurned', WHERE WHAT IT READS IS OF BULK AT MOST 1048576: true; the input reads as it did. -/
def imageTurnedUptoRow : OpenClaim := { program := "ythnbpbmbpggadaa", sum := "47aeb7c405da7138223772f4b7721cf728b4877a78d58df94f6f8acb43e9bd45", func := "carapace/carapacelaw17.ImageTurned", spec := "imageTurned", inPlace := ["internal/reflectlite.TypeOf"], unfollowed := true, recurses := true, apart := false, narrowed := true }
def ImageTurnedUptoSaid : Prop := imageTurnedUptoRow.holds Try.pinned (OpenSpec.upto imageTurnedSpec)

/-- 'carapacelaw11.CpuParts', WHERE WHAT IT READS IS OF BULK AT MOST 1048576: true; the input reads as it did. -/
def cpuPartsUptoRow : OpenClaim := { program := "ythnbpbmbpggadaa", sum := "47aeb7c405da7138223772f4b7721cf728b4877a78d58df94f6f8acb43e9bd45", func := "carapace/carapacelaw11.CpuParts", spec := "cpuParts", inPlace := ["internal/bytealg.IndexByteString"], unfollowed := true, recurses := true, apart := false, narrowed := true }
def CpuPartsUptoSaid : Prop := cpuPartsUptoRow.holds Try.pinned (OpenSpec.upto cpuPartsSpec)

/-- 'carapacelaw16.CodecTells', WHERE WHAT IT READS IS OF BULK AT MOST 1048576: true; the input reads as it did. -/
def codecTellsUptoRow : OpenClaim := { program := "ythnbpbmbpggadaa", sum := "47aeb7c405da7138223772f4b7721cf728b4877a78d58df94f6f8acb43e9bd45", func := "carapace/carapacelaw16.CodecTells", spec := "codecTells", unfollowed := true, recurses := true, apart := false, narrowed := true }
def CodecTellsUptoSaid : Prop := codecTellsUptoRow.holds Try.pinned (OpenSpec.upto codecTellsSpec)

/-- 'carapacelaw16.CodecBack', WHERE WHAT IT READS IS OF BULK AT MOST 1048576: true; the input reads as it did. -/
def codecBackUptoRow : OpenClaim := { program := "ythnbpbmbpggadaa", sum := "47aeb7c405da7138223772f4b7721cf728b4877a78d58df94f6f8acb43e9bd45", func := "carapace/carapacelaw16.CodecBack", spec := "codecBack", unfollowed := true, recurses := true, apart := false, narrowed := true }
def CodecBackUptoSaid : Prop := codecBackUptoRow.holds Try.pinned (OpenSpec.upto codecBackSpec)

/-- 'carapacelaw16.CodecBounds', WHERE WHAT IT READS IS OF BULK AT MOST 1048576: true; the input reads as it did. -/
def codecBoundsUptoRow : OpenClaim := { program := "ythnbpbmbpggadaa", sum := "47aeb7c405da7138223772f4b7721cf728b4877a78d58df94f6f8acb43e9bd45", func := "carapace/carapacelaw16.CodecBounds", spec := "codecBounds", unfollowed := true, recurses := true, apart := false, narrowed := true }
def CodecBoundsUptoSaid : Prop := codecBoundsUptoRow.holds Try.pinned (OpenSpec.upto codecBoundsSpec)

/-- 'carapacelaw18.StubStarts', WHERE WHAT IT READS IS OF BULK AT MOST 1048576: true; the input reads as it did. -/
def stubStartsUptoRow : OpenClaim := { program := "ythnbpbmbpggadaa", sum := "47aeb7c405da7138223772f4b7721cf728b4877a78d58df94f6f8acb43e9bd45", func := "carapace/carapacelaw18.StubStarts", spec := "stubStarts", inPlace := ["internal/bytealg.IndexByteString"], unfollowed := true, recurses := true, apart := false, narrowed := true }
def StubStartsUptoSaid : Prop := stubStartsUptoRow.holds Try.pinned (OpenSpec.upto stubStartsSpec)

end Rows
end Go.Proofs.Ythnbpbmbpggadaa
