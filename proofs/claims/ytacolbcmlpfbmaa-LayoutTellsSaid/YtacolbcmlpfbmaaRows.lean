/-
  No cell of these rows narrows 'for every input' (looked for: loops, veiled, ifaces, maps, wideKeys, modest, calm, conditions, laid).
  DERIVED. THE GIVEN ROWS OF THIS SEAT. 6 by the template 'for every input the law returns true; each argument reads behind the call as it read before'; 0 by the template 'total and deterministic' (their statements: YtacolbcmlpfbmaaTotals.lean).
  GIVEN WITH THE SEED: the statements are not yours to turn. If you find one false, say at which input.
  Laid BY PROGRAM, IN A SANDBOX (cutbox-rows.mjs): the forced cells as the released guide's own fill.sh prints them over the translation 44dac414d43bfb3f… (all of the seat's roots in one cut). By AI agents, Wed Nov 11 2026. No macro, syntax, notation, axiom, sorry.
-/
import Derived.Test.YtacolbcmlpfbmaaChecked
import GoSem.Claim
import GoSem.ClaimJoined
import GoSem.ClaimMapViews
import Derived.JoinedTies
import Derived.KernelRfl
namespace Go.Proofs.Ytacolbcmlpfbmaa
/- THE CELL 'sum', in the pinned program and in every row, IS THE sha256 OF THE DUMP (.gsa) THAT YtacolbcmlpfbmaaProg.lean LOADS. Nothing in Lean hashes anything: it is a label: what it is worth is what the hold of that sum in a sandbox is worth. -/
noncomputable def Try.pinned : Pinned := { name := "ytacolbcmlpfbmaa", sum := "44dac414d43bfb3f2f673f7a2976634c6be5ac98e9739dcd23d0aa34608c6829", checked := Try.checked }
namespace Rows
def none {H : Type} : Left H := { results := [], args := [] }

/-- 'aumbrylaw14.LayoutNames': WHATEVER THE INPUT: true; the input reads as it did. -/
def layoutNamesSpec : ChangeSpec := { name := "layoutNames", fn := fun _ => fun
  | [] => { results := [.lit (.bool true)], args := [] }
  | _ => none }
def layoutNamesRow : OpenClaim := { program := "ytacolbcmlpfbmaa", sum := "44dac414d43bfb3f2f673f7a2976634c6be5ac98e9739dcd23d0aa34608c6829", func := "aumbry/aumbrylaw14.LayoutNames", spec := "layoutNames", unfollowed := true, recurses := true, apart := false }
def LayoutNamesSaid : Prop := layoutNamesRow.holds Try.pinned (OpenSpec.ofChange layoutNamesSpec)

/-- ITS FALSE NEIGHBOUR: 'it returns false'. Refute it at one input. -/
def layoutNamesWrong : ChangeSpec := { name := "layoutNames", fn := fun _ => fun
  | [] => { results := [.lit (.bool false)], args := [] }
  | _ => none }
def LayoutNamesWrongFalsely : Prop := layoutNamesRow.holds Try.pinned (OpenSpec.ofChange layoutNamesWrong)

/-- 'aumbrylaw14.LayoutTells': WHATEVER THE INPUT: true; the input reads as it did. -/
def layoutTellsSpec : ChangeSpec := { name := "layoutTells", fn := fun _ => fun
  | [d1, d2, d3, d4] => { results := [.lit (.bool true)], args := [d1, d2, d3, d4] }
  | _ => none }
def layoutTellsRow : OpenClaim := { program := "ytacolbcmlpfbmaa", sum := "44dac414d43bfb3f2f673f7a2976634c6be5ac98e9739dcd23d0aa34608c6829", func := "aumbry/aumbrylaw14.LayoutTells", spec := "layoutTells", unfollowed := true, recurses := true, apart := false }
def LayoutTellsSaid : Prop := layoutTellsRow.holds Try.pinned (OpenSpec.ofChange layoutTellsSpec)

/-- ITS FALSE NEIGHBOUR: 'it returns false'. Refute it at one input. -/
def layoutTellsWrong : ChangeSpec := { name := "layoutTells", fn := fun _ => fun
  | [d1, d2, d3, d4] => { results := [.lit (.bool false)], args := [d1, d2, d3, d4] }
  | _ => none }
def LayoutTellsWrongFalsely : Prop := layoutTellsRow.holds Try.pinned (OpenSpec.ofChange layoutTellsWrong)

/-- 'aumbrylaw14.LayoutApart': WHATEVER THE INPUT: true; the input reads as it did. -/
def layoutApartSpec : ChangeSpec := { name := "layoutApart", fn := fun _ => fun
  | [d] => { results := [.lit (.bool true)], args := [d] }
  | _ => none }
def layoutApartRow : OpenClaim := { program := "ytacolbcmlpfbmaa", sum := "44dac414d43bfb3f2f673f7a2976634c6be5ac98e9739dcd23d0aa34608c6829", func := "aumbry/aumbrylaw14.LayoutApart", spec := "layoutApart", unfollowed := true, recurses := true, apart := false }
def LayoutApartSaid : Prop := layoutApartRow.holds Try.pinned (OpenSpec.ofChange layoutApartSpec)

/-- ITS FALSE NEIGHBOUR: 'it returns false'. Refute it at one input. -/
def layoutApartWrong : ChangeSpec := { name := "layoutApart", fn := fun _ => fun
  | [d] => { results := [.lit (.bool false)], args := [d] }
  | _ => none }
def LayoutApartWrongFalsely : Prop := layoutApartRow.holds Try.pinned (OpenSpec.ofChange layoutApartWrong)

/-- 'aumbrylaw14.LayoutTurns': WHATEVER THE INPUT: true; the input reads as it did. -/
def layoutTurnsSpec : ChangeSpec := { name := "layoutTurns", fn := fun _ => fun
  | [d1, d2] => { results := [.lit (.bool true)], args := [d1, d2] }
  | _ => none }
def layoutTurnsRow : OpenClaim := { program := "ytacolbcmlpfbmaa", sum := "44dac414d43bfb3f2f673f7a2976634c6be5ac98e9739dcd23d0aa34608c6829", func := "aumbry/aumbrylaw14.LayoutTurns", spec := "layoutTurns", unfollowed := true, recurses := true, apart := false }
def LayoutTurnsSaid : Prop := layoutTurnsRow.holds Try.pinned (OpenSpec.ofChange layoutTurnsSpec)

/-- ITS FALSE NEIGHBOUR: 'it returns false'. Refute it at one input. -/
def layoutTurnsWrong : ChangeSpec := { name := "layoutTurns", fn := fun _ => fun
  | [d1, d2] => { results := [.lit (.bool false)], args := [d1, d2] }
  | _ => none }
def LayoutTurnsWrongFalsely : Prop := layoutTurnsRow.holds Try.pinned (OpenSpec.ofChange layoutTurnsWrong)

/-- 'aumbrylaw14.LayoutNeeds': WHATEVER THE INPUT: true; the input reads as it did. -/
def layoutNeedsSpec : ChangeSpec := { name := "layoutNeeds", fn := fun _ => fun
  | [d1, d2] => { results := [.lit (.bool true)], args := [d1, d2] }
  | _ => none }
def layoutNeedsRow : OpenClaim := { program := "ytacolbcmlpfbmaa", sum := "44dac414d43bfb3f2f673f7a2976634c6be5ac98e9739dcd23d0aa34608c6829", func := "aumbry/aumbrylaw14.LayoutNeeds", spec := "layoutNeeds", unfollowed := true, recurses := true, apart := false }
def LayoutNeedsSaid : Prop := layoutNeedsRow.holds Try.pinned (OpenSpec.ofChange layoutNeedsSpec)

/-- ITS FALSE NEIGHBOUR: 'it returns false'. Refute it at one input. -/
def layoutNeedsWrong : ChangeSpec := { name := "layoutNeeds", fn := fun _ => fun
  | [d1, d2] => { results := [.lit (.bool false)], args := [d1, d2] }
  | _ => none }
def LayoutNeedsWrongFalsely : Prop := layoutNeedsRow.holds Try.pinned (OpenSpec.ofChange layoutNeedsWrong)

/-- 'aumbrylaw14.LayoutRounds': WHATEVER THE INPUT: true; the input reads as it did. -/
def layoutRoundsSpec : ChangeSpec := { name := "layoutRounds", fn := fun _ => fun
  | [d1, d2, d3] => { results := [.lit (.bool true)], args := [d1, d2, d3] }
  | _ => none }
def layoutRoundsRow : OpenClaim := { program := "ytacolbcmlpfbmaa", sum := "44dac414d43bfb3f2f673f7a2976634c6be5ac98e9739dcd23d0aa34608c6829", func := "aumbry/aumbrylaw14.LayoutRounds", spec := "layoutRounds", unfollowed := true, recurses := true, apart := false }
def LayoutRoundsSaid : Prop := layoutRoundsRow.holds Try.pinned (OpenSpec.ofChange layoutRoundsSpec)

/-- ITS FALSE NEIGHBOUR: 'it returns false'. Refute it at one input. -/
def layoutRoundsWrong : ChangeSpec := { name := "layoutRounds", fn := fun _ => fun
  | [d1, d2, d3] => { results := [.lit (.bool false)], args := [d1, d2, d3] }
  | _ => none }
def LayoutRoundsWrongFalsely : Prop := layoutRoundsRow.holds Try.pinned (OpenSpec.ofChange layoutRoundsWrong)

/- THE SECOND FORM. 'bulk': how many values and letters a reading holds, each counted each time it is reached (what is shared counts as often as it is met; a slice's spare places count too). A statement '..UptoSaid' is the law's where the arguments, and the package variables that the reading takes, are together of bulk at most 1048576: NARROWER than '..Said'. Prove '..Said' where nothing that the law and all that it calls make is longer than what came in: it says more and counts as full. Else prove '..UptoSaid'. A law counts once. -/
mutual
def uptoBulk {H : Type} : DataW H → Nat
  | .lit (.string bytes) => bytes.length + 1
  | .lit _ => 1
  | .nil => 1
  | .ptr d => uptoBulk d + 1
  | .slice elems spare => uptoBulkAll elems + uptoBulkAll spare + 1
  | .agg parts => uptoBulkAll parts + 1
  | .iface _ d => uptoBulk d + 1
  | .map entries => uptoBulkEntries entries + 1
  | .held _ => 1
def uptoBulkAll {H : Type} : List (DataW H) → Nat
  | [] => 0
  | d :: r => uptoBulk d + uptoBulkAll r
def uptoBulkEntries {H : Type} : List (Lit × DataW H) → Nat
  | [] => 0
  | x :: r => uptoBulkEntry x + uptoBulkEntries r
def uptoBulkEntry {H : Type} : Lit × DataW H → Nat
  | (.string bytes, d) => bytes.length + uptoBulk d + 1
  | (_, d) => uptoBulk d + 1
 end
def uptoSmall : (H : Type) → List (DataW H) → Bool := fun _ ds => decide (uptoBulkAll ds ≤ 1048576)
def OpenSpec.upto (s : _root_.Go.ChangeSpec) : _root_.Go.OpenSpec := { _root_.Go.OpenSpec.ofChange s with cond := some uptoSmall }

/-- 'aumbrylaw14.LayoutNames', WHERE WHAT IT READS IS OF BULK AT MOST 1048576: true; the input reads as it did. -/
def layoutNamesUptoRow : OpenClaim := { program := "ytacolbcmlpfbmaa", sum := "44dac414d43bfb3f2f673f7a2976634c6be5ac98e9739dcd23d0aa34608c6829", func := "aumbry/aumbrylaw14.LayoutNames", spec := "layoutNames", unfollowed := true, recurses := true, apart := false, narrowed := true }
def LayoutNamesUptoSaid : Prop := layoutNamesUptoRow.holds Try.pinned (OpenSpec.upto layoutNamesSpec)

/-- 'aumbrylaw14.LayoutTells', WHERE WHAT IT READS IS OF BULK AT MOST 1048576: true; the input reads as it did. -/
def layoutTellsUptoRow : OpenClaim := { program := "ytacolbcmlpfbmaa", sum := "44dac414d43bfb3f2f673f7a2976634c6be5ac98e9739dcd23d0aa34608c6829", func := "aumbry/aumbrylaw14.LayoutTells", spec := "layoutTells", unfollowed := true, recurses := true, apart := false, narrowed := true }
def LayoutTellsUptoSaid : Prop := layoutTellsUptoRow.holds Try.pinned (OpenSpec.upto layoutTellsSpec)

/-- 'aumbrylaw14.LayoutApart', WHERE WHAT IT READS IS OF BULK AT MOST 1048576: true; the input reads as it did. -/
def layoutApartUptoRow : OpenClaim := { program := "ytacolbcmlpfbmaa", sum := "44dac414d43bfb3f2f673f7a2976634c6be5ac98e9739dcd23d0aa34608c6829", func := "aumbry/aumbrylaw14.LayoutApart", spec := "layoutApart", unfollowed := true, recurses := true, apart := false, narrowed := true }
def LayoutApartUptoSaid : Prop := layoutApartUptoRow.holds Try.pinned (OpenSpec.upto layoutApartSpec)

/-- 'aumbrylaw14.LayoutTurns', WHERE WHAT IT READS IS OF BULK AT MOST 1048576: true; the input reads as it did. -/
def layoutTurnsUptoRow : OpenClaim := { program := "ytacolbcmlpfbmaa", sum := "44dac414d43bfb3f2f673f7a2976634c6be5ac98e9739dcd23d0aa34608c6829", func := "aumbry/aumbrylaw14.LayoutTurns", spec := "layoutTurns", unfollowed := true, recurses := true, apart := false, narrowed := true }
def LayoutTurnsUptoSaid : Prop := layoutTurnsUptoRow.holds Try.pinned (OpenSpec.upto layoutTurnsSpec)

/-- 'aumbrylaw14.LayoutNeeds', WHERE WHAT IT READS IS OF BULK AT MOST 1048576: true; the input reads as it did. -/
def layoutNeedsUptoRow : OpenClaim := { program := "ytacolbcmlpfbmaa", sum := "44dac414d43bfb3f2f673f7a2976634c6be5ac98e9739dcd23d0aa34608c6829", func := "aumbry/aumbrylaw14.LayoutNeeds", spec := "layoutNeeds", unfollowed := true, recurses := true, apart := false, narrowed := true }
def LayoutNeedsUptoSaid : Prop := layoutNeedsUptoRow.holds Try.pinned (OpenSpec.upto layoutNeedsSpec)

/-- 'aumbrylaw14.LayoutRounds', WHERE WHAT IT READS IS OF BULK AT MOST 1048576: true; the input reads as it did. -/
def layoutRoundsUptoRow : OpenClaim := { program := "ytacolbcmlpfbmaa", sum := "44dac414d43bfb3f2f673f7a2976634c6be5ac98e9739dcd23d0aa34608c6829", func := "aumbry/aumbrylaw14.LayoutRounds", spec := "layoutRounds", unfollowed := true, recurses := true, apart := false, narrowed := true }
def LayoutRoundsUptoSaid : Prop := layoutRoundsUptoRow.holds Try.pinned (OpenSpec.upto layoutRoundsSpec)

end Rows
end Go.Proofs.Ytacolbcmlpfbmaa
