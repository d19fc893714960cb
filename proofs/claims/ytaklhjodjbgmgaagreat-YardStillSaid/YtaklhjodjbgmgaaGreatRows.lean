/-
  No cell of these rows narrows 'for every input' (looked for: loops, veiled, ifaces, maps, wideKeys, modest, calm, conditions, laid).
  DERIVED. THE GIVEN ROWS OF THIS SEAT. 5 by the template 'for every input the law returns true; each argument reads behind the call as it read before'; 0 by the template 'total and deterministic' (their statements: YtaklhjodjbgmgaaGreatTotals.lean).
  GIVEN WITH THE SEED: the statements are not yours to turn. If you find one false, say at which input.
  Laid BY PROGRAM, IN A SANDBOX (cutbox-rows.mjs): the forced cells as the released guide's own fill.sh prints them over the translation 310cbc715638c03d… (all of the seat's roots in one cut). By AI agents, Wed Nov 11 2026. No macro, syntax, notation, axiom, sorry.
-/
import Derived.Test.YtaklhjodjbgmgaaGreatChecked
import GoSem.Claim
import GoSem.ClaimJoined
import GoSem.ClaimMapViews
import Derived.JoinedTies
import Derived.KernelRfl
namespace Go.Proofs.YtaklhjodjbgmgaaGreat
/- THE CELL 'sum', in the pinned program and in every row, IS THE sha256 OF THE DUMP (.gsa) THAT YtaklhjodjbgmgaaGreatProg.lean LOADS. Nothing in Lean hashes anything: it is a label: what it is worth is what the hold of that sum in a sandbox is worth. -/
noncomputable def Tryz.pinned : Pinned := { name := "ytaklhjodjbgmgaagreat", sum := "310cbc715638c03d9d0667ec68c51c5293da49e3fe9ea3205a6fee2b1db18084", checked := Tryz.checked }
namespace Rows
def none {H : Type} : Left H := { results := [], args := [] }

/-- 'ballastlaw19.YardAges': WHATEVER THE INPUT: true; the input reads as it did. -/
def yardAgesSpec : ChangeSpec := { name := "yardAges", fn := fun _ => fun
  | [d1, d2, d3] => { results := [.lit (.bool true)], args := [d1, d2, d3] }
  | _ => none }
def yardAgesRow : OpenClaim := { program := "ytaklhjodjbgmgaagreat", sum := "310cbc715638c03d9d0667ec68c51c5293da49e3fe9ea3205a6fee2b1db18084", func := "ballast/ballastlaw19.YardAges", spec := "yardAges", inPlace := ["slices.overlaps[int]"], unfollowed := true, recurses := true, plainKeys := false, apart := false }
def YardAgesSaid : Prop := yardAgesRow.holds Tryz.pinned (OpenSpec.ofChange yardAgesSpec)

/-- ITS FALSE NEIGHBOUR: 'it returns false'. Refute it at one input. -/
def yardAgesWrong : ChangeSpec := { name := "yardAges", fn := fun _ => fun
  | [d1, d2, d3] => { results := [.lit (.bool false)], args := [d1, d2, d3] }
  | _ => none }
def YardAgesWrongFalsely : Prop := yardAgesRow.holds Tryz.pinned (OpenSpec.ofChange yardAgesWrong)

/-- 'ballastlaw19.YardLengths': WHATEVER THE INPUT: true; the input reads as it did. -/
def yardLengthsSpec : ChangeSpec := { name := "yardLengths", fn := fun _ => fun
  | [d1, d2] => { results := [.lit (.bool true)], args := [d1, d2] }
  | _ => none }
def yardLengthsRow : OpenClaim := { program := "ytaklhjodjbgmgaagreat", sum := "310cbc715638c03d9d0667ec68c51c5293da49e3fe9ea3205a6fee2b1db18084", func := "ballast/ballastlaw19.YardLengths", spec := "yardLengths", inPlace := ["slices.overlaps[int]"], unfollowed := true, recurses := true, plainKeys := false, apart := false }
def YardLengthsSaid : Prop := yardLengthsRow.holds Tryz.pinned (OpenSpec.ofChange yardLengthsSpec)

/-- ITS FALSE NEIGHBOUR: 'it returns false'. Refute it at one input. -/
def yardLengthsWrong : ChangeSpec := { name := "yardLengths", fn := fun _ => fun
  | [d1, d2] => { results := [.lit (.bool false)], args := [d1, d2] }
  | _ => none }
def YardLengthsWrongFalsely : Prop := yardLengthsRow.holds Tryz.pinned (OpenSpec.ofChange yardLengthsWrong)

/-- 'ballastlaw19.YardTurns': WHATEVER THE INPUT: true; the input reads as it did. -/
def yardTurnsSpec : ChangeSpec := { name := "yardTurns", fn := fun _ => fun
  | [d1, d2, d3] => { results := [.lit (.bool true)], args := [d1, d2, d3] }
  | _ => none }
def yardTurnsRow : OpenClaim := { program := "ytaklhjodjbgmgaagreat", sum := "310cbc715638c03d9d0667ec68c51c5293da49e3fe9ea3205a6fee2b1db18084", func := "ballast/ballastlaw19.YardTurns", spec := "yardTurns", inPlace := ["slices.overlaps[int]"], unfollowed := true, recurses := true, plainKeys := false, apart := false }
def YardTurnsSaid : Prop := yardTurnsRow.holds Tryz.pinned (OpenSpec.ofChange yardTurnsSpec)

/-- ITS FALSE NEIGHBOUR: 'it returns false'. Refute it at one input. -/
def yardTurnsWrong : ChangeSpec := { name := "yardTurns", fn := fun _ => fun
  | [d1, d2, d3] => { results := [.lit (.bool false)], args := [d1, d2, d3] }
  | _ => none }
def YardTurnsWrongFalsely : Prop := yardTurnsRow.holds Tryz.pinned (OpenSpec.ofChange yardTurnsWrong)

/-- 'ballastlaw19.YardTells': WHATEVER THE INPUT: true; the input reads as it did. -/
def yardTellsSpec : ChangeSpec := { name := "yardTells", fn := fun _ => fun
  | [d1, d2] => { results := [.lit (.bool true)], args := [d1, d2] }
  | _ => none }
def yardTellsRow : OpenClaim := { program := "ytaklhjodjbgmgaagreat", sum := "310cbc715638c03d9d0667ec68c51c5293da49e3fe9ea3205a6fee2b1db18084", func := "ballast/ballastlaw19.YardTells", spec := "yardTells", inPlace := ["slices.overlaps[int]"], unfollowed := true, recurses := true, plainKeys := false, apart := false }
def YardTellsSaid : Prop := yardTellsRow.holds Tryz.pinned (OpenSpec.ofChange yardTellsSpec)

/-- ITS FALSE NEIGHBOUR: 'it returns false'. Refute it at one input. -/
def yardTellsWrong : ChangeSpec := { name := "yardTells", fn := fun _ => fun
  | [d1, d2] => { results := [.lit (.bool false)], args := [d1, d2] }
  | _ => none }
def YardTellsWrongFalsely : Prop := yardTellsRow.holds Tryz.pinned (OpenSpec.ofChange yardTellsWrong)

/-- 'ballastlaw19.YardStill': WHATEVER THE INPUT: true; the input reads as it did. -/
def yardStillSpec : ChangeSpec := { name := "yardStill", fn := fun _ => fun
  | [d1, d2] => { results := [.lit (.bool true)], args := [d1, d2] }
  | _ => none }
def yardStillRow : OpenClaim := { program := "ytaklhjodjbgmgaagreat", sum := "310cbc715638c03d9d0667ec68c51c5293da49e3fe9ea3205a6fee2b1db18084", func := "ballast/ballastlaw19.YardStill", spec := "yardStill", inPlace := ["slices.overlaps[int]"], unfollowed := true, recurses := true, plainKeys := false, apart := false }
def YardStillSaid : Prop := yardStillRow.holds Tryz.pinned (OpenSpec.ofChange yardStillSpec)

/-- ITS FALSE NEIGHBOUR: 'it returns false'. Refute it at one input. -/
def yardStillWrong : ChangeSpec := { name := "yardStill", fn := fun _ => fun
  | [d1, d2] => { results := [.lit (.bool false)], args := [d1, d2] }
  | _ => none }
def YardStillWrongFalsely : Prop := yardStillRow.holds Tryz.pinned (OpenSpec.ofChange yardStillWrong)

/- THE SECOND FORM. 'bulk': how many values and letters a reading holds, each counted each time it is reached (what is shared counts as often as it is met; a slice's spare places count too). A statement '..UptoSaid' is the law's where the arguments, and the package variables that the reading takes, are together of bulk at most 1048576: NARROWER than '..Said'. Prove '..Said' where nothing that the law and all that it calls make is longer than what came in: it says more and counts as full. Else prove '..UptoSaid'. A law counts once. -/
mutual
def uptoBulk {H : Type} : DataW H → Nat
  | .lit (.string bytes) => bytes.length + 1
  | .lit _ => 1
  | .nil => 1
  | .ptr d => uptoBulk d + 1
  | .slice elems spare => uptoBulkAll elems + uptoBulkAll spare + 1
  | .agg parts => uptoBulkAll parts + 1
  | .iface _ d => uptoBulk d + 1
  | .map entries => uptoBulkEntries entries + 1
  | .held _ => 1
def uptoBulkAll {H : Type} : List (DataW H) → Nat
  | [] => 0
  | d :: r => uptoBulk d + uptoBulkAll r
def uptoBulkEntries {H : Type} : List (Lit × DataW H) → Nat
  | [] => 0
  | x :: r => uptoBulkEntry x + uptoBulkEntries r
def uptoBulkEntry {H : Type} : Lit × DataW H → Nat
  | (.string bytes, d) => bytes.length + uptoBulk d + 1
  | (_, d) => uptoBulk d + 1
 end
def uptoSmall : (H : Type) → List (DataW H) → Bool := fun _ ds => decide (uptoBulkAll ds ≤ 1048576)
def OpenSpec.upto (s : _root_.Go.ChangeSpec) : _root_.Go.OpenSpec := { _root_.Go.OpenSpec.ofChange s with cond := some uptoSmall }

/-- 'ballastlaw19.YardAges', WHERE WHAT IT READS IS OF BULK AT MOST 1048576: true; the input reads as it did. -/
def yardAgesUptoRow : OpenClaim := { program := "ytaklhjodjbgmgaagreat", sum := "310cbc715638c03d9d0667ec68c51c5293da49e3fe9ea3205a6fee2b1db18084", func := "ballast/ballastlaw19.YardAges", spec := "yardAges", inPlace := ["slices.overlaps[int]"], unfollowed := true, recurses := true, plainKeys := false, apart := false, narrowed := true }
def YardAgesUptoSaid : Prop := yardAgesUptoRow.holds Tryz.pinned (OpenSpec.upto yardAgesSpec)

/-- 'ballastlaw19.YardLengths', WHERE WHAT IT READS IS OF BULK AT MOST 1048576: true; the input reads as it did. -/
def yardLengthsUptoRow : OpenClaim := { program := "ytaklhjodjbgmgaagreat", sum := "310cbc715638c03d9d0667ec68c51c5293da49e3fe9ea3205a6fee2b1db18084", func := "ballast/ballastlaw19.YardLengths", spec := "yardLengths", inPlace := ["slices.overlaps[int]"], unfollowed := true, recurses := true, plainKeys := false, apart := false, narrowed := true }
def YardLengthsUptoSaid : Prop := yardLengthsUptoRow.holds Tryz.pinned (OpenSpec.upto yardLengthsSpec)

/-- 'ballastlaw19.YardTurns', WHERE WHAT IT READS IS OF BULK AT MOST 1048576: true; the input reads as it did. -/
def yardTurnsUptoRow : OpenClaim := { program := "ytaklhjodjbgmgaagreat", sum := "310cbc715638c03d9d0667ec68c51c5293da49e3fe9ea3205a6fee2b1db18084", func := "ballast/ballastlaw19.YardTurns", spec := "yardTurns", inPlace := ["slices.overlaps[int]"], unfollowed := true, recurses := true, plainKeys := false, apart := false, narrowed := true }
def YardTurnsUptoSaid : Prop := yardTurnsUptoRow.holds Tryz.pinned (OpenSpec.upto yardTurnsSpec)

/-- 'ballastlaw19.YardTells', WHERE WHAT IT READS IS OF BULK AT MOST 1048576: true; the input reads as it did. -/
def yardTellsUptoRow : OpenClaim := { program := "ytaklhjodjbgmgaagreat", sum := "310cbc715638c03d9d0667ec68c51c5293da49e3fe9ea3205a6fee2b1db18084", func := "ballast/ballastlaw19.YardTells", spec := "yardTells", inPlace := ["slices.overlaps[int]"], unfollowed := true, recurses := true, plainKeys := false, apart := false, narrowed := true }
def YardTellsUptoSaid : Prop := yardTellsUptoRow.holds Tryz.pinned (OpenSpec.upto yardTellsSpec)

/-- 'ballastlaw19.YardStill', WHERE WHAT IT READS IS OF BULK AT MOST 1048576: true; the input reads as it did. -/
def yardStillUptoRow : OpenClaim := { program := "ytaklhjodjbgmgaagreat", sum := "310cbc715638c03d9d0667ec68c51c5293da49e3fe9ea3205a6fee2b1db18084", func := "ballast/ballastlaw19.YardStill", spec := "yardStill", inPlace := ["slices.overlaps[int]"], unfollowed := true, recurses := true, plainKeys := false, apart := false, narrowed := true }
def YardStillUptoSaid : Prop := yardStillUptoRow.holds Tryz.pinned (OpenSpec.upto yardStillSpec)

end Rows
end Go.Proofs.YtaklhjodjbgmgaaGreat
