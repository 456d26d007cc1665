/-
  No cell of these rows narrows 'for every input' (looked for: loops, veiled, ifaces, maps, wideKeys, modest, calm, conditions, laid).
  DERIVED. THE GIVEN ROWS OF THIS SEAT. 3 by the template 'for every input the law returns true; each argument reads behind the call as it read before'; 0 by the template 'total and deterministic' (their statements: YtogcgcjhoebooaaTotals.lean).
  GIVEN WITH THE SEED: the statements are not yours to turn. If you find one false, say at which input.
  Laid BY PROGRAM, IN A SANDBOX (cutbox-rows.mjs): the forced cells as the released guide's own fill.sh prints them over the translation a0c0d20529bb8cc6… (all of the seat's roots in one cut). By AI agents, Wed Nov 11 2026. No macro, syntax, notation, axiom, sorry.
-/
import Derived.Test.YtogcgcjhoebooaaChecked
import GoSem.Claim
import GoSem.ClaimJoined
import GoSem.ClaimMapViews
import Derived.JoinedTies
import Derived.KernelRfl
namespace Go.Proofs.Ytogcgcjhoebooaa
/- THE CELL 'sum', in the pinned program and in every row, IS THE sha256 OF THE DUMP (.gsa) THAT YtogcgcjhoebooaaProg.lean LOADS. Nothing in Lean hashes anything: it is a label: what it is worth is what the hold of that sum in a sandbox is worth. -/
noncomputable def Try.pinned : Pinned := { name := "ytogcgcjhoebooaa", sum := "a0c0d20529bb8cc6cf9e9330cedc2c24f5d79f71d4fe975578b7e4cf48f3cc48", checked := Try.checked }
namespace Rows
def none {H : Type} : Left H := { results := [], args := [] }

/-- 'linkhouselaw4.VeneerMatchesSpec': WHATEVER THE INPUT: true; the input reads as it did. -/
def veneerMatchesSpecSpec : ChangeSpec := { name := "veneerMatchesSpec", fn := fun _ => fun
  | [d1, d2, d3] => { results := [.lit (.bool true)], args := [d1, d2, d3] }
  | _ => none }
def veneerMatchesSpecRow : OpenClaim := { program := "ytogcgcjhoebooaa", sum := "a0c0d20529bb8cc6cf9e9330cedc2c24f5d79f71d4fe975578b7e4cf48f3cc48", func := "linkhouse/linkhouselaw4.VeneerMatchesSpec", spec := "veneerMatchesSpec", unfollowed := true, recurses := true, apart := false }
def VeneerMatchesSpecSaid : Prop := veneerMatchesSpecRow.holds Try.pinned (OpenSpec.ofChange veneerMatchesSpecSpec)

/-- ITS FALSE NEIGHBOUR: 'it returns false'. Refute it at one input. -/
def veneerMatchesSpecWrong : ChangeSpec := { name := "veneerMatchesSpec", fn := fun _ => fun
  | [d1, d2, d3] => { results := [.lit (.bool false)], args := [d1, d2, d3] }
  | _ => none }
def VeneerMatchesSpecWrongFalsely : Prop := veneerMatchesSpecRow.holds Try.pinned (OpenSpec.ofChange veneerMatchesSpecWrong)

/-- 'linkhouselaw4.VeneerAllReach': WHATEVER THE INPUT: true; the input reads as it did. -/
def veneerAllReachSpec : ChangeSpec := { name := "veneerAllReach", fn := fun _ => fun
  | [d1, d2, d3] => { results := [.lit (.bool true)], args := [d1, d2, d3] }
  | _ => none }
def veneerAllReachRow : OpenClaim := { program := "ytogcgcjhoebooaa", sum := "a0c0d20529bb8cc6cf9e9330cedc2c24f5d79f71d4fe975578b7e4cf48f3cc48", func := "linkhouse/linkhouselaw4.VeneerAllReach", spec := "veneerAllReach", unfollowed := true, recurses := true, apart := false }
def VeneerAllReachSaid : Prop := veneerAllReachRow.holds Try.pinned (OpenSpec.ofChange veneerAllReachSpec)

/-- ITS FALSE NEIGHBOUR: 'it returns false'. Refute it at one input. -/
def veneerAllReachWrong : ChangeSpec := { name := "veneerAllReach", fn := fun _ => fun
  | [d1, d2, d3] => { results := [.lit (.bool false)], args := [d1, d2, d3] }
  | _ => none }
def VeneerAllReachWrongFalsely : Prop := veneerAllReachRow.holds Try.pinned (OpenSpec.ofChange veneerAllReachWrong)

/-- 'linkhouselaw4.VeneerNoneNeeded': WHATEVER THE INPUT: true; the input reads as it did. -/
def veneerNoneNeededSpec : ChangeSpec := { name := "veneerNoneNeeded", fn := fun _ => fun
  | [d1, d2, d3] => { results := [.lit (.bool true)], args := [d1, d2, d3] }
  | _ => none }
def veneerNoneNeededRow : OpenClaim := { program := "ytogcgcjhoebooaa", sum := "a0c0d20529bb8cc6cf9e9330cedc2c24f5d79f71d4fe975578b7e4cf48f3cc48", func := "linkhouse/linkhouselaw4.VeneerNoneNeeded", spec := "veneerNoneNeeded", unfollowed := true, recurses := true, apart := false }
def VeneerNoneNeededSaid : Prop := veneerNoneNeededRow.holds Try.pinned (OpenSpec.ofChange veneerNoneNeededSpec)

/-- ITS FALSE NEIGHBOUR: 'it returns false'. Refute it at one input. -/
def veneerNoneNeededWrong : ChangeSpec := { name := "veneerNoneNeeded", fn := fun _ => fun
  | [d1, d2, d3] => { results := [.lit (.bool false)], args := [d1, d2, d3] }
  | _ => none }
def VeneerNoneNeededWrongFalsely : Prop := veneerNoneNeededRow.holds Try.pinned (OpenSpec.ofChange veneerNoneNeededWrong)

/- THE SECOND FORM. 'bulk': how many values and letters a reading holds, each counted each time it is reached (what is shared counts as often as it is met; a slice's spare places count too). A statement '..UptoSaid' is the law's where the arguments, and the package variables that the reading takes, are together of bulk at most 1048576: NARROWER than '..Said'. Prove '..Said' where nothing that the law and all that it calls make is longer than what came in: it says more and counts as full. Else prove '..UptoSaid'. A law counts once. -/
mutual
def uptoBulk {H : Type} : DataW H → Nat
  | .lit (.string bytes) => bytes.length + 1
  | .lit _ => 1
  | .nil => 1
  | .ptr d => uptoBulk d + 1
  | .slice elems spare => uptoBulkAll elems + uptoBulkAll spare + 1
  | .agg parts => uptoBulkAll parts + 1
  | .iface _ d => uptoBulk d + 1
  | .map entries => uptoBulkEntries entries + 1
  | .held _ => 1
def uptoBulkAll {H : Type} : List (DataW H) → Nat
  | [] => 0
  | d :: r => uptoBulk d + uptoBulkAll r
def uptoBulkEntries {H : Type} : List (Lit × DataW H) → Nat
  | [] => 0
  | x :: r => uptoBulkEntry x + uptoBulkEntries r
def uptoBulkEntry {H : Type} : Lit × DataW H → Nat
  | (.string bytes, d) => bytes.length + uptoBulk d + 1
  | (_, d) => uptoBulk d + 1
 end
def uptoSmall : (H : Type) → List (DataW H) → Bool := fun _ ds => decide (uptoBulkAll ds ≤ 1048576)
def OpenSpec.upto (s : _root_.Go.ChangeSpec) : _root_.Go.OpenSpec := { _root_.Go.OpenSpec.ofChange s with cond := some uptoSmall }

/-- 'linkhouselaw4.VeneerMatchesSpec', WHERE WHAT IT READS IS OF BULK AT MOST 1048576: true; the input reads as it did. -/
def veneerMatchesSpecUptoRow : OpenClaim := { program := "ytogcgcjhoebooaa", sum := "a0c0d20529bb8cc6cf9e9330cedc2c24f5d79f71d4fe975578b7e4cf48f3cc48", func := "linkhouse/linkhouselaw4.VeneerMatchesSpec", spec := "veneerMatchesSpec", unfollowed := true, recurses := true, apart := false, narrowed := true }
def VeneerMatchesSpecUptoSaid : Prop := veneerMatchesSpecUptoRow.holds Try.pinned (OpenSpec.upto veneerMatchesSpecSpec)

/-- 'linkhouselaw4.VeneerAllReach', WHERE WHAT IT READS IS OF BULK AT MOST 1048576: true; the input reads as it did. -/
def veneerAllReachUptoRow : OpenClaim := { program := "ytogcgcjhoebooaa", sum := "a0c0d20529bb8cc6cf9e9330cedc2c24f5d79f71d4fe975578b7e4cf48f3cc48", func := "linkhouse/linkhouselaw4.VeneerAllReach", spec := "veneerAllReach", unfollowed := true, recurses := true, apart := false, narrowed := true }
def VeneerAllReachUptoSaid : Prop := veneerAllReachUptoRow.holds Try.pinned (OpenSpec.upto veneerAllReachSpec)

/-- 'linkhouselaw4.VeneerNoneNeeded', WHERE WHAT IT READS IS OF BULK AT MOST 1048576: true; the input reads as it did. -/
def veneerNoneNeededUptoRow : OpenClaim := { program := "ytogcgcjhoebooaa", sum := "a0c0d20529bb8cc6cf9e9330cedc2c24f5d79f71d4fe975578b7e4cf48f3cc48", func := "linkhouse/linkhouselaw4.VeneerNoneNeeded", spec := "veneerNoneNeeded", unfollowed := true, recurses := true, apart := false, narrowed := true }
def VeneerNoneNeededUptoSaid : Prop := veneerNoneNeededUptoRow.holds Try.pinned (OpenSpec.upto veneerNoneNeededSpec)

end Rows
end Go.Proofs.Ytogcgcjhoebooaa
