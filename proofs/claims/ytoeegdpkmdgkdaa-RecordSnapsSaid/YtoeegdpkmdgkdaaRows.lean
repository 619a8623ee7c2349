/-
  No cell of these rows narrows 'for every input' (looked for: loops, veiled, ifaces, maps, wideKeys, modest, calm, conditions, laid).
  DERIVED. THE GIVEN ROWS OF THIS SEAT. 6 by the template 'for every input the law returns true; each argument reads behind the call as it read before'; 0 by the template 'total and deterministic' (their statements: YtoeegdpkmdgkdaaTotals.lean).
  GIVEN WITH THE SEED: the statements are not yours to turn. If you find one false, say at which input.
  Laid BY PROGRAM, IN A SANDBOX (cutbox-rows.mjs): the forced cells as the released guide's own fill.sh prints them over the translation 00d84965918ebf26… (all of the seat's roots in one cut). By AI agents, Wed Nov 11 2026. No macro, syntax, notation, axiom, sorry.
-/
import Derived.Test.YtoeegdpkmdgkdaaChecked
import GoSem.Claim
import GoSem.ClaimJoined
import GoSem.ClaimMapViews
import Derived.JoinedTies
import Derived.KernelRfl
namespace Go.Proofs.Ytoeegdpkmdgkdaa
/- THE CELL 'sum', in the pinned program and in every row, IS THE sha256 OF THE DUMP (.gsa) THAT YtoeegdpkmdgkdaaProg.lean LOADS. Nothing in Lean hashes anything: it is a label: what it is worth is what the hold of that sum in a sandbox is worth. -/
noncomputable def Try.pinned : Pinned := { name := "ytoeegdpkmdgkdaa", sum := "00d84965918ebf26afd46415ea623dfe8a87c4389eb8e1564f4fed150f92e886", checked := Try.checked }
namespace Rows
def none {H : Type} : Left H := { results := [], args := [] }

/-- 'aumbrylaw16.RecordNames': WHATEVER THE INPUT: true; the input reads as it did. -/
def recordNamesSpec : ChangeSpec := { name := "recordNames", fn := fun _ => fun
  | [] => { results := [.lit (.bool true)], args := [] }
  | _ => none }
def recordNamesRow : OpenClaim := { program := "ytoeegdpkmdgkdaa", sum := "00d84965918ebf26afd46415ea623dfe8a87c4389eb8e1564f4fed150f92e886", func := "aumbry/aumbrylaw16.RecordNames", spec := "recordNames", unfollowed := true, recurses := true, apart := false }
def RecordNamesSaid : Prop := recordNamesRow.holds Try.pinned (OpenSpec.ofChange recordNamesSpec)

/-- ITS FALSE NEIGHBOUR: 'it returns false'. Refute it at one input. -/
def recordNamesWrong : ChangeSpec := { name := "recordNames", fn := fun _ => fun
  | [] => { results := [.lit (.bool false)], args := [] }
  | _ => none }
def RecordNamesWrongFalsely : Prop := recordNamesRow.holds Try.pinned (OpenSpec.ofChange recordNamesWrong)

/-- 'aumbrylaw16.RecordTells': WHATEVER THE INPUT: true; the input reads as it did. -/
def recordTellsSpec : ChangeSpec := { name := "recordTells", fn := fun _ => fun
  | [d1, d2] => { results := [.lit (.bool true)], args := [d1, d2] }
  | _ => none }
def recordTellsRow : OpenClaim := { program := "ytoeegdpkmdgkdaa", sum := "00d84965918ebf26afd46415ea623dfe8a87c4389eb8e1564f4fed150f92e886", func := "aumbry/aumbrylaw16.RecordTells", spec := "recordTells", unfollowed := true, recurses := true, apart := false }
def RecordTellsSaid : Prop := recordTellsRow.holds Try.pinned (OpenSpec.ofChange recordTellsSpec)

/-- ITS FALSE NEIGHBOUR: 'it returns false'. Refute it at one input. -/
def recordTellsWrong : ChangeSpec := { name := "recordTells", fn := fun _ => fun
  | [d1, d2] => { results := [.lit (.bool false)], args := [d1, d2] }
  | _ => none }
def RecordTellsWrongFalsely : Prop := recordTellsRow.holds Try.pinned (OpenSpec.ofChange recordTellsWrong)

/-- 'aumbrylaw16.RecordBack': WHATEVER THE INPUT: true; the input reads as it did. -/
def recordBackSpec : ChangeSpec := { name := "recordBack", fn := fun _ => fun
  | [d1, d2] => { results := [.lit (.bool true)], args := [d1, d2] }
  | _ => none }
def recordBackRow : OpenClaim := { program := "ytoeegdpkmdgkdaa", sum := "00d84965918ebf26afd46415ea623dfe8a87c4389eb8e1564f4fed150f92e886", func := "aumbry/aumbrylaw16.RecordBack", spec := "recordBack", unfollowed := true, recurses := true, apart := false }
def RecordBackSaid : Prop := recordBackRow.holds Try.pinned (OpenSpec.ofChange recordBackSpec)

/-- ITS FALSE NEIGHBOUR: 'it returns false'. Refute it at one input. -/
def recordBackWrong : ChangeSpec := { name := "recordBack", fn := fun _ => fun
  | [d1, d2] => { results := [.lit (.bool false)], args := [d1, d2] }
  | _ => none }
def RecordBackWrongFalsely : Prop := recordBackRow.holds Try.pinned (OpenSpec.ofChange recordBackWrong)

/-- 'aumbrylaw16.RecordSnaps': WHATEVER THE INPUT: true; the input reads as it did. -/
def recordSnapsSpec : ChangeSpec := { name := "recordSnaps", fn := fun _ => fun
  | [d1, d2] => { results := [.lit (.bool true)], args := [d1, d2] }
  | _ => none }
def recordSnapsRow : OpenClaim := { program := "ytoeegdpkmdgkdaa", sum := "00d84965918ebf26afd46415ea623dfe8a87c4389eb8e1564f4fed150f92e886", func := "aumbry/aumbrylaw16.RecordSnaps", spec := "recordSnaps", unfollowed := true, recurses := true, apart := false }
def RecordSnapsSaid : Prop := recordSnapsRow.holds Try.pinned (OpenSpec.ofChange recordSnapsSpec)

/-- ITS FALSE NEIGHBOUR: 'it returns false'. Refute it at one input. -/
def recordSnapsWrong : ChangeSpec := { name := "recordSnaps", fn := fun _ => fun
  | [d1, d2] => { results := [.lit (.bool false)], args := [d1, d2] }
  | _ => none }
def RecordSnapsWrongFalsely : Prop := recordSnapsRow.holds Try.pinned (OpenSpec.ofChange recordSnapsWrong)

/-- 'aumbrylaw16.RecordSnapsBack': WHATEVER THE INPUT: true; the input reads as it did. -/
def recordSnapsBackSpec : ChangeSpec := { name := "recordSnapsBack", fn := fun _ => fun
  | [d1, d2] => { results := [.lit (.bool true)], args := [d1, d2] }
  | _ => none }
def recordSnapsBackRow : OpenClaim := { program := "ytoeegdpkmdgkdaa", sum := "00d84965918ebf26afd46415ea623dfe8a87c4389eb8e1564f4fed150f92e886", func := "aumbry/aumbrylaw16.RecordSnapsBack", spec := "recordSnapsBack", unfollowed := true, recurses := true, apart := false }
def RecordSnapsBackSaid : Prop := recordSnapsBackRow.holds Try.pinned (OpenSpec.ofChange recordSnapsBackSpec)

/-- ITS FALSE NEIGHBOUR: 'it returns false'. Refute it at one input. -/
def recordSnapsBackWrong : ChangeSpec := { name := "recordSnapsBack", fn := fun _ => fun
  | [d1, d2] => { results := [.lit (.bool false)], args := [d1, d2] }
  | _ => none }
def RecordSnapsBackWrongFalsely : Prop := recordSnapsBackRow.holds Try.pinned (OpenSpec.ofChange recordSnapsBackWrong)

/-- 'aumbrylaw16.RecordSizes': WHATEVER THE INPUT: true; the input reads as it did. -/
def recordSizesSpec : ChangeSpec := { name := "recordSizes", fn := fun _ => fun
  | [d1, d2] => { results := [.lit (.bool true)], args := [d1, d2] }
  | _ => none }
def recordSizesRow : OpenClaim := { program := "ytoeegdpkmdgkdaa", sum := "00d84965918ebf26afd46415ea623dfe8a87c4389eb8e1564f4fed150f92e886", func := "aumbry/aumbrylaw16.RecordSizes", spec := "recordSizes", unfollowed := true, recurses := true, apart := false }
def RecordSizesSaid : Prop := recordSizesRow.holds Try.pinned (OpenSpec.ofChange recordSizesSpec)

/-- ITS FALSE NEIGHBOUR: 'it returns false'. Refute it at one input. -/
def recordSizesWrong : ChangeSpec := { name := "recordSizes", fn := fun _ => fun
  | [d1, d2] => { results := [.lit (.bool false)], args := [d1, d2] }
  | _ => none }
def RecordSizesWrongFalsely : Prop := recordSizesRow.holds Try.pinned (OpenSpec.ofChange recordSizesWrong)

/- THE SECOND FORM. 'bulk': how many values and letters a reading holds, each counted each time it is reached (what is shared counts as often as it is met; a slice's spare places count too). A statement '..UptoSaid' is the law's where the arguments, and the package variables that the reading takes, are together of bulk at most 1048576: NARROWER than '..Said'. Prove '..Said' where nothing that the law and all that it calls make is longer than what came in: it says more and counts as full. Else prove '..UptoSaid'. A law counts once. -/
mutual
def uptoBulk {H : Type} : DataW H → Nat
  | .lit (.string bytes) => bytes.length + 1
  | .lit _ => 1
  | .nil => 1
  | .ptr d => uptoBulk d + 1
  | .slice elems spare => uptoBulkAll elems + uptoBulkAll spare + 1
  | .agg parts => uptoBulkAll parts + 1
  | .iface _ d => uptoBulk d + 1
  | .map entries => uptoBulkEntries entries + 1
  | .held _ => 1
def uptoBulkAll {H : Type} : List (DataW H) → Nat
  | [] => 0
  | d :: r => uptoBulk d + uptoBulkAll r
def uptoBulkEntries {H : Type} : List (Lit × DataW H) → Nat
  | [] => 0
  | x :: r => uptoBulkEntry x + uptoBulkEntries r
def uptoBulkEntry {H : Type} : Lit × DataW H → Nat
  | (.string bytes, d) => bytes.length + uptoBulk d + 1
  | (_, d) => uptoBulk d + 1
 end
def uptoSmall : (H : Type) → List (DataW H) → Bool := fun _ ds => decide (uptoBulkAll ds ≤ 1048576)
def OpenSpec.upto (s : _root_.Go.ChangeSpec) : _root_.Go.OpenSpec := { _root_.Go.OpenSpec.ofChange s with cond := some uptoSmall }

/-- 'aumbrylaw16.RecordNames', WHERE WHAT IT READS IS OF BULK AT MOST 1048576: true; the input reads as it did. -/
def recordNamesUptoRow : OpenClaim := { program := "ytoeegdpkmdgkdaa", sum := "00d84965918ebf26afd46415ea623dfe8a87c4389eb8e1564f4fed150f92e886", func := "aumbry/aumbrylaw16.RecordNames", spec := "recordNames", unfollowed := true, recurses := true, apart := false, narrowed := true }
def RecordNamesUptoSaid : Prop := recordNamesUptoRow.holds Try.pinned (OpenSpec.upto recordNamesSpec)

/-- 'aumbrylaw16.RecordTells', WHERE WHAT IT READS IS OF BULK AT MOST 1048576: true; the input reads as it did. -/
def recordTellsUptoRow : OpenClaim := { program := "ytoeegdpkmdgkdaa", sum := "00d84965918ebf26afd46415ea623dfe8a87c4389eb8e1564f4fed150f92e886", func := "aumbry/aumbrylaw16.RecordTells", spec := "recordTells", unfollowed := true, recurses := true, apart := false, narrowed := true }
def RecordTellsUptoSaid : Prop := recordTellsUptoRow.holds Try.pinned (OpenSpec.upto recordTellsSpec)

/-- 'aumbrylaw16.RecordBack', WHERE WHAT IT READS IS OF BULK AT MOST 1048576: true; the input reads as it did. -/
def recordBackUptoRow : OpenClaim := { program := "ytoeegdpkmdgkdaa", sum := "00d84965918ebf26afd46415ea623dfe8a87c4389eb8e1564f4fed150f92e886", func := "aumbry/aumbrylaw16.RecordBack", spec := "recordBack", unfollowed := true, recurses := true, apart := false, narrowed := true }
def RecordBackUptoSaid : Prop := recordBackUptoRow.holds Try.pinned (OpenSpec.upto recordBackSpec)

/-- 'aumbrylaw16.RecordSnaps', WHERE WHAT IT READS IS OF BULK AT MOST 1048576: true; the input reads as it did. -/
def recordSnapsUptoRow : OpenClaim := { program := "ytoeegdpkmdgkdaa", sum := "00d84965918ebf26afd46415ea623dfe8a87c4389eb8e1564f4fed150f92e886", func := "aumbry/aumbrylaw16.RecordSnaps", spec := "recordSnaps", unfollowed := true, recurses := true, apart := false, narrowed := true }
def RecordSnapsUptoSaid : Prop := recordSnapsUptoRow.holds Try.pinned (OpenSpec.upto recordSnapsSpec)

/-- 'aumbrylaw16.RecordSnapsBack', WHERE WHAT IT READS IS OF BULK AT MOST 1048576: true; the input reads as it did. -/
def recordSnapsBackUptoRow : OpenClaim := { program := "ytoeegdpkmdgkdaa", sum := "00d84965918ebf26afd46415ea623dfe8a87c4389eb8e1564f4fed150f92e886", func := "aumbry/aumbrylaw16.RecordSnapsBack", spec := "recordSnapsBack", unfollowed := true, recurses := true, apart := false, narrowed := true }
def RecordSnapsBackUptoSaid : Prop := recordSnapsBackUptoRow.holds Try.pinned (OpenSpec.upto recordSnapsBackSpec)

/-- 'aumbrylaw16.RecordSizes', WHERE WHAT IT READS IS OF BULK AT MOST 1048576: true; the input reads as it did. -/
def recordSizesUptoRow : OpenClaim := { program := "ytoeegdpkmdgkdaa", sum := "00d84965918ebf26afd46415ea623dfe8a87c4389eb8e1564f4fed150f92e886", func := "aumbry/aumbrylaw16.RecordSizes", spec := "recordSizes", unfollowed := true, recurses := true, apart := false, narrowed := true }
def RecordSizesUptoSaid : Prop := recordSizesUptoRow.holds Try.pinned (OpenSpec.upto recordSizesSpec)

end Rows
end Go.Proofs.Ytoeegdpkmdgkdaa
