/-
  No cell of these rows narrows 'for every input' (looked for: loops, veiled, ifaces, maps, wideKeys, modest, calm, conditions, laid).
  DERIVED. THE GIVEN ROWS OF THIS SEAT. 6 by the template 'for every input the law returns true; each argument reads behind the call as it read before'; 0 by the template 'total and deterministic' (their statements: YtlkdhcpiglonjaaTotals.lean).
  GIVEN WITH THE SEED: the statements are not yours to turn. If you find one false, say at which input.
  Laid BY PROGRAM, IN A SANDBOX (cutbox-rows.mjs): the forced cells as the released guide's own fill.sh prints them over the translation 3e3bfcf6dd28160b… (all of the seat's roots in one cut). By AI agents, Wed Nov 11 2026. No macro, syntax, notation, axiom, sorry.
-/
import Derived.Test.YtlkdhcpiglonjaaChecked
import GoSem.Claim
import GoSem.ClaimJoined
import GoSem.ClaimMapViews
import Derived.JoinedTies
import Derived.KernelRfl
namespace Go.Proofs.Ytlkdhcpiglonjaa
/- THE CELL 'sum', in the pinned program and in every row, IS THE sha256 OF THE DUMP (.gsa) THAT YtlkdhcpiglonjaaProg.lean LOADS. Nothing in Lean hashes anything: it is a label: what it is worth is what the hold of that sum in a sandbox is worth. -/
noncomputable def Try.pinned : Pinned := { name := "ytlkdhcpiglonjaa", sum := "3e3bfcf6dd28160b77e3494843058e98781e4fbbe3438f0f367d9c061b11ef9f", checked := Try.checked }
namespace Rows
def none {H : Type} : Left H := { results := [], args := [] }

/-- 'aumbrylaw11.SectorNames': WHATEVER THE INPUT: true; the input reads as it did. -/
def sectorNamesSpec : ChangeSpec := { name := "sectorNames", fn := fun _ => fun
  | [] => { results := [.lit (.bool true)], args := [] }
  | _ => none }
def sectorNamesRow : OpenClaim := { program := "ytlkdhcpiglonjaa", sum := "3e3bfcf6dd28160b77e3494843058e98781e4fbbe3438f0f367d9c061b11ef9f", func := "aumbry/aumbrylaw11.SectorNames", spec := "sectorNames", unfollowed := true, recurses := true, apart := false }
def SectorNamesSaid : Prop := sectorNamesRow.holds Try.pinned (OpenSpec.ofChange sectorNamesSpec)

/-- ITS FALSE NEIGHBOUR: 'it returns false'. Refute it at one input. -/
def sectorNamesWrong : ChangeSpec := { name := "sectorNames", fn := fun _ => fun
  | [] => { results := [.lit (.bool false)], args := [] }
  | _ => none }
def SectorNamesWrongFalsely : Prop := sectorNamesRow.holds Try.pinned (OpenSpec.ofChange sectorNamesWrong)

/-- 'aumbrylaw11.SectorPacks': WHATEVER THE INPUT: true; the input reads as it did. -/
def sectorPacksSpec : ChangeSpec := { name := "sectorPacks", fn := fun _ => fun
  | [d1, d2, d3, d4] => { results := [.lit (.bool true)], args := [d1, d2, d3, d4] }
  | _ => none }
def sectorPacksRow : OpenClaim := { program := "ytlkdhcpiglonjaa", sum := "3e3bfcf6dd28160b77e3494843058e98781e4fbbe3438f0f367d9c061b11ef9f", func := "aumbry/aumbrylaw11.SectorPacks", spec := "sectorPacks", unfollowed := true, recurses := true, apart := false }
def SectorPacksSaid : Prop := sectorPacksRow.holds Try.pinned (OpenSpec.ofChange sectorPacksSpec)

/-- ITS FALSE NEIGHBOUR: 'it returns false'. Refute it at one input. -/
def sectorPacksWrong : ChangeSpec := { name := "sectorPacks", fn := fun _ => fun
  | [d1, d2, d3, d4] => { results := [.lit (.bool false)], args := [d1, d2, d3, d4] }
  | _ => none }
def SectorPacksWrongFalsely : Prop := sectorPacksRow.holds Try.pinned (OpenSpec.ofChange sectorPacksWrong)

/-- 'aumbrylaw11.SectorBack': WHATEVER THE INPUT: true; the input reads as it did. -/
def sectorBackSpec : ChangeSpec := { name := "sectorBack", fn := fun _ => fun
  | [d1, d2, d3, d4, d5] => { results := [.lit (.bool true)], args := [d1, d2, d3, d4, d5] }
  | _ => none }
def sectorBackRow : OpenClaim := { program := "ytlkdhcpiglonjaa", sum := "3e3bfcf6dd28160b77e3494843058e98781e4fbbe3438f0f367d9c061b11ef9f", func := "aumbry/aumbrylaw11.SectorBack", spec := "sectorBack", unfollowed := true, recurses := true, apart := false }
def SectorBackSaid : Prop := sectorBackRow.holds Try.pinned (OpenSpec.ofChange sectorBackSpec)

/-- ITS FALSE NEIGHBOUR: 'it returns false'. Refute it at one input. -/
def sectorBackWrong : ChangeSpec := { name := "sectorBack", fn := fun _ => fun
  | [d1, d2, d3, d4, d5] => { results := [.lit (.bool false)], args := [d1, d2, d3, d4, d5] }
  | _ => none }
def SectorBackWrongFalsely : Prop := sectorBackRow.holds Try.pinned (OpenSpec.ofChange sectorBackWrong)

/-- 'aumbrylaw11.SectorTells': WHATEVER THE INPUT: true; the input reads as it did. -/
def sectorTellsSpec : ChangeSpec := { name := "sectorTells", fn := fun _ => fun
  | [d1, d2, d3, d4, d5] => { results := [.lit (.bool true)], args := [d1, d2, d3, d4, d5] }
  | _ => none }
def sectorTellsRow : OpenClaim := { program := "ytlkdhcpiglonjaa", sum := "3e3bfcf6dd28160b77e3494843058e98781e4fbbe3438f0f367d9c061b11ef9f", func := "aumbry/aumbrylaw11.SectorTells", spec := "sectorTells", unfollowed := true, recurses := true, apart := false }
def SectorTellsSaid : Prop := sectorTellsRow.holds Try.pinned (OpenSpec.ofChange sectorTellsSpec)

/-- ITS FALSE NEIGHBOUR: 'it returns false'. Refute it at one input. -/
def sectorTellsWrong : ChangeSpec := { name := "sectorTells", fn := fun _ => fun
  | [d1, d2, d3, d4, d5] => { results := [.lit (.bool false)], args := [d1, d2, d3, d4, d5] }
  | _ => none }
def SectorTellsWrongFalsely : Prop := sectorTellsRow.holds Try.pinned (OpenSpec.ofChange sectorTellsWrong)

/-- 'aumbrylaw11.SectorCuts': WHATEVER THE INPUT: true; the input reads as it did. -/
def sectorCutsSpec : ChangeSpec := { name := "sectorCuts", fn := fun _ => fun
  | [d1, d2, d3, d4] => { results := [.lit (.bool true)], args := [d1, d2, d3, d4] }
  | _ => none }
def sectorCutsRow : OpenClaim := { program := "ytlkdhcpiglonjaa", sum := "3e3bfcf6dd28160b77e3494843058e98781e4fbbe3438f0f367d9c061b11ef9f", func := "aumbry/aumbrylaw11.SectorCuts", spec := "sectorCuts", unfollowed := true, recurses := true, apart := false }
def SectorCutsSaid : Prop := sectorCutsRow.holds Try.pinned (OpenSpec.ofChange sectorCutsSpec)

/-- ITS FALSE NEIGHBOUR: 'it returns false'. Refute it at one input. -/
def sectorCutsWrong : ChangeSpec := { name := "sectorCuts", fn := fun _ => fun
  | [d1, d2, d3, d4] => { results := [.lit (.bool false)], args := [d1, d2, d3, d4] }
  | _ => none }
def SectorCutsWrongFalsely : Prop := sectorCutsRow.holds Try.pinned (OpenSpec.ofChange sectorCutsWrong)

/-- 'aumbrylaw11.SectorApart': WHATEVER THE INPUT: true; the input reads as it did. -/
def sectorApartSpec : ChangeSpec := { name := "sectorApart", fn := fun _ => fun
  | [d1, d2, d3, d4, d5, d6] => { results := [.lit (.bool true)], args := [d1, d2, d3, d4, d5, d6] }
  | _ => none }
def sectorApartRow : OpenClaim := { program := "ytlkdhcpiglonjaa", sum := "3e3bfcf6dd28160b77e3494843058e98781e4fbbe3438f0f367d9c061b11ef9f", func := "aumbry/aumbrylaw11.SectorApart", spec := "sectorApart", unfollowed := true, recurses := true, apart := false }
def SectorApartSaid : Prop := sectorApartRow.holds Try.pinned (OpenSpec.ofChange sectorApartSpec)

/-- ITS FALSE NEIGHBOUR: 'it returns false'. Refute it at one input. -/
def sectorApartWrong : ChangeSpec := { name := "sectorApart", fn := fun _ => fun
  | [d1, d2, d3, d4, d5, d6] => { results := [.lit (.bool false)], args := [d1, d2, d3, d4, d5, d6] }
  | _ => none }
def SectorApartWrongFalsely : Prop := sectorApartRow.holds Try.pinned (OpenSpec.ofChange sectorApartWrong)

/- THE SECOND FORM. 'bulk': how many values and letters a reading holds, each counted each time it is reached (what is shared counts as often as it is met; a slice's spare places count too). A statement '..UptoSaid' is the law's where the arguments, and the package variables that the reading takes, are together of bulk at most 1048576: NARROWER than '..Said'. Prove '..Said' where nothing that the law and all that it calls make is longer than what came in: it says more and counts as full. Else prove '..UptoSaid'. A law counts once. -/
mutual
def uptoBulk {H : Type} : DataW H → Nat
  | .lit (.string bytes) => bytes.length + 1
  | .lit _ => 1
  | .nil => 1
  | .ptr d => uptoBulk d + 1
  | .slice elems spare => uptoBulkAll elems + uptoBulkAll spare + 1
  | .agg parts => uptoBulkAll parts + 1
  | .iface _ d => uptoBulk d + 1
  | .map entries => uptoBulkEntries entries + 1
  | .held _ => 1
def uptoBulkAll {H : Type} : List (DataW H) → Nat
  | [] => 0
  | d :: r => uptoBulk d + uptoBulkAll r
def uptoBulkEntries {H : Type} : List (Lit × DataW H) → Nat
  | [] => 0
  | x :: r => uptoBulkEntry x + uptoBulkEntries r
def uptoBulkEntry {H : Type} : Lit × DataW H → Nat
  | (.string bytes, d) => bytes.length + uptoBulk d + 1
  | (_, d) => uptoBulk d + 1
 end
def uptoSmall : (H : Type) → List (DataW H) → Bool := fun _ ds => decide (uptoBulkAll ds ≤ 1048576)
def OpenSpec.upto (s : _root_.Go.ChangeSpec) : _root_.Go.OpenSpec := { _root_.Go.OpenSpec.ofChange s with cond := some uptoSmall }

/-- 'aumbrylaw11.SectorNames', WHERE WHAT IT READS IS OF BULK AT MOST 1048576: true; the input reads as it did. -/
def sectorNamesUptoRow : OpenClaim := { program := "ytlkdhcpiglonjaa", sum := "3e3bfcf6dd28160b77e3494843058e98781e4fbbe3438f0f367d9c061b11ef9f", func := "aumbry/aumbrylaw11.SectorNames", spec := "sectorNames", unfollowed := true, recurses := true, apart := false, narrowed := true }
def SectorNamesUptoSaid : Prop := sectorNamesUptoRow.holds Try.pinned (OpenSpec.upto sectorNamesSpec)

/-- 'aumbrylaw11.SectorPacks', WHERE WHAT IT READS IS OF BULK AT MOST 1048576: true; the input reads as it did. -/
def sectorPacksUptoRow : OpenClaim := { program := "ytlkdhcpiglonjaa", sum := "3e3bfcf6dd28160b77e3494843058e98781e4fbbe3438f0f367d9c061b11ef9f", func := "aumbry/aumbrylaw11.SectorPacks", spec := "sectorPacks", unfollowed := true, recurses := true, apart := false, narrowed := true }
def SectorPacksUptoSaid : Prop := sectorPacksUptoRow.holds Try.pinned (OpenSpec.upto sectorPacksSpec)

/-- 'aumbrylaw11.SectorBack', WHERE WHAT IT READS IS OF BULK AT MOST 1048576: true; the input reads as it did. -/
def sectorBackUptoRow : OpenClaim := { program := "ytlkdhcpiglonjaa", sum := "3e3bfcf6dd28160b77e3494843058e98781e4fbbe3438f0f367d9c061b11ef9f", func := "aumbry/aumbrylaw11.SectorBack", spec := "sectorBack", unfollowed := true, recurses := true, apart := false, narrowed := true }
def SectorBackUptoSaid : Prop := sectorBackUptoRow.holds Try.pinned (OpenSpec.upto sectorBackSpec)

/-- 'aumbrylaw11.SectorTells', WHERE WHAT IT READS IS OF BULK AT MOST 1048576: true; the input reads as it did. -/
def sectorTellsUptoRow : OpenClaim := { program := "ytlkdhcpiglonjaa", sum := "3e3bfcf6dd28160b77e3494843058e98781e4fbbe3438f0f367d9c061b11ef9f", func := "aumbry/aumbrylaw11.SectorTells", spec := "sectorTells", unfollowed := true, recurses := true, apart := false, narrowed := true }
def SectorTellsUptoSaid : Prop := sectorTellsUptoRow.holds Try.pinned (OpenSpec.upto sectorTellsSpec)

/-- 'aumbrylaw11.SectorCuts', WHERE WHAT IT READS IS OF BULK AT MOST 1048576: true; the input reads as it did. -/
def sectorCutsUptoRow : OpenClaim := { program := "ytlkdhcpiglonjaa", sum := "3e3bfcf6dd28160b77e3494843058e98781e4fbbe3438f0f367d9c061b11ef9f", func := "aumbry/aumbrylaw11.SectorCuts", spec := "sectorCuts", unfollowed := true, recurses := true, apart := false, narrowed := true }
def SectorCutsUptoSaid : Prop := sectorCutsUptoRow.holds Try.pinned (OpenSpec.upto sectorCutsSpec)

/-- 'aumbrylaw11.SectorApart', WHERE WHAT IT READS IS OF BULK AT MOST 1048576: true; the input reads as it did. -/
def sectorApartUptoRow : OpenClaim := { program := "ytlkdhcpiglonjaa", sum := "3e3bfcf6dd28160b77e3494843058e98781e4fbbe3438f0f367d9c061b11ef9f", func := "aumbry/aumbrylaw11.SectorApart", spec := "sectorApart", unfollowed := true, recurses := true, apart := false, narrowed := true }
def SectorApartUptoSaid : Prop := sectorApartUptoRow.holds Try.pinned (OpenSpec.upto sectorApartSpec)

end Rows
end Go.Proofs.Ytlkdhcpiglonjaa
