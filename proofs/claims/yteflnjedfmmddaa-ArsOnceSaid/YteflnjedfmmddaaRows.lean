/-
  No cell of these rows narrows 'for every input' (looked for: loops, veiled, ifaces, maps, wideKeys, modest, calm, conditions, laid).
  DERIVED. THE GIVEN ROWS OF THIS SEAT. 6 by the template 'for every input the law returns true; each argument reads behind the call as it read before'; 0 by the template 'total and deterministic' (their statements: YteflnjedfmmddaaTotals.lean).
  GIVEN WITH THE SEED: the statements are not yours to turn. If you find one false, say at which input.
  Laid BY PROGRAM, IN A SANDBOX (cutbox-rows.mjs): the forced cells as the released guide's own fill.sh prints them over the translation aa96d3fc0c77a709… (all of the seat's roots in one cut). By AI agents, Wed Nov 11 2026. No macro, syntax, notation, axiom, sorry.
-/
import Derived.Test.YteflnjedfmmddaaChecked
import GoSem.Claim
import GoSem.ClaimJoined
import GoSem.ClaimMapViews
import Derived.JoinedTies
import Derived.KernelRfl
namespace Go.Proofs.Yteflnjedfmmddaa
/- THE CELL 'sum', in the pinned program and in every row, IS THE sha256 OF THE DUMP (.gsa) THAT YteflnjedfmmddaaProg.lean LOADS. Nothing in Lean hashes anything: it is a label: what it is worth is what the hold of that sum in a sandbox is worth. -/
noncomputable def Try.pinned : Pinned := { name := "yteflnjedfmmddaa", sum := "aa96d3fc0c77a7094594747631ad3c05b241d89105caf93b544bbb3933b7303a", checked := Try.checked }
namespace Rows
def none {H : Type} : Left H := { results := [], args := [] }

/-- 'ballastlaw22.WatchExact': WHATEVER THE INPUT: true; the input reads as it did. -/
def watchExactSpec : ChangeSpec := { name := "watchExact", fn := fun _ => fun
  | [d1, d2, d3] => { results := [.lit (.bool true)], args := [d1, d2, d3] }
  | _ => none }
def watchExactRow : OpenClaim := { program := "yteflnjedfmmddaa", sum := "aa96d3fc0c77a7094594747631ad3c05b241d89105caf93b544bbb3933b7303a", func := "ballast/ballastlaw22.WatchExact", spec := "watchExact", unfollowed := true, recurses := true, plainKeys := false, apart := false }
def WatchExactSaid : Prop := watchExactRow.holds Try.pinned (OpenSpec.ofChange watchExactSpec)

/-- ITS FALSE NEIGHBOUR: 'it returns false'. Refute it at one input. -/
def watchExactWrong : ChangeSpec := { name := "watchExact", fn := fun _ => fun
  | [d1, d2, d3] => { results := [.lit (.bool false)], args := [d1, d2, d3] }
  | _ => none }
def WatchExactWrongFalsely : Prop := watchExactRow.holds Try.pinned (OpenSpec.ofChange watchExactWrong)

/-- 'ballastlaw16.ArsDue': WHATEVER THE INPUT: true; the input reads as it did. -/
def arsDueSpec : ChangeSpec := { name := "arsDue", fn := fun _ => fun
  | [d1, d2, d3] => { results := [.lit (.bool true)], args := [d1, d2, d3] }
  | _ => none }
def arsDueRow : OpenClaim := { program := "yteflnjedfmmddaa", sum := "aa96d3fc0c77a7094594747631ad3c05b241d89105caf93b544bbb3933b7303a", func := "ballast/ballastlaw16.ArsDue", spec := "arsDue", unfollowed := true, recurses := true, plainKeys := false, apart := false }
def ArsDueSaid : Prop := arsDueRow.holds Try.pinned (OpenSpec.ofChange arsDueSpec)

/-- ITS FALSE NEIGHBOUR: 'it returns false'. Refute it at one input. -/
def arsDueWrong : ChangeSpec := { name := "arsDue", fn := fun _ => fun
  | [d1, d2, d3] => { results := [.lit (.bool false)], args := [d1, d2, d3] }
  | _ => none }
def ArsDueWrongFalsely : Prop := arsDueRow.holds Try.pinned (OpenSpec.ofChange arsDueWrong)

/-- 'ballastlaw16.ArsOnce': WHATEVER THE INPUT: true; the input reads as it did. -/
def arsOnceSpec : ChangeSpec := { name := "arsOnce", fn := fun _ => fun
  | [d1, d2, d3] => { results := [.lit (.bool true)], args := [d1, d2, d3] }
  | _ => none }
def arsOnceRow : OpenClaim := { program := "yteflnjedfmmddaa", sum := "aa96d3fc0c77a7094594747631ad3c05b241d89105caf93b544bbb3933b7303a", func := "ballast/ballastlaw16.ArsOnce", spec := "arsOnce", unfollowed := true, recurses := true, plainKeys := false, apart := false }
def ArsOnceSaid : Prop := arsOnceRow.holds Try.pinned (OpenSpec.ofChange arsOnceSpec)

/-- ITS FALSE NEIGHBOUR: 'it returns false'. Refute it at one input. -/
def arsOnceWrong : ChangeSpec := { name := "arsOnce", fn := fun _ => fun
  | [d1, d2, d3] => { results := [.lit (.bool false)], args := [d1, d2, d3] }
  | _ => none }
def ArsOnceWrongFalsely : Prop := arsOnceRow.holds Try.pinned (OpenSpec.ofChange arsOnceWrong)

/-- 'ballastlaw16.ArsExact': WHATEVER THE INPUT: true; the input reads as it did. -/
def arsExactSpec : ChangeSpec := { name := "arsExact", fn := fun _ => fun
  | [d1, d2, d3] => { results := [.lit (.bool true)], args := [d1, d2, d3] }
  | _ => none }
def arsExactRow : OpenClaim := { program := "yteflnjedfmmddaa", sum := "aa96d3fc0c77a7094594747631ad3c05b241d89105caf93b544bbb3933b7303a", func := "ballast/ballastlaw16.ArsExact", spec := "arsExact", unfollowed := true, recurses := true, plainKeys := false, apart := false }
def ArsExactSaid : Prop := arsExactRow.holds Try.pinned (OpenSpec.ofChange arsExactSpec)

/-- ITS FALSE NEIGHBOUR: 'it returns false'. Refute it at one input. -/
def arsExactWrong : ChangeSpec := { name := "arsExact", fn := fun _ => fun
  | [d1, d2, d3] => { results := [.lit (.bool false)], args := [d1, d2, d3] }
  | _ => none }
def ArsExactWrongFalsely : Prop := arsExactRow.holds Try.pinned (OpenSpec.ofChange arsExactWrong)

/-- 'ballastlaw16.ArsBerths': WHATEVER THE INPUT: true; the input reads as it did. -/
def arsBerthsSpec : ChangeSpec := { name := "arsBerths", fn := fun _ => fun
  | [d1, d2, d3] => { results := [.lit (.bool true)], args := [d1, d2, d3] }
  | _ => none }
def arsBerthsRow : OpenClaim := { program := "yteflnjedfmmddaa", sum := "aa96d3fc0c77a7094594747631ad3c05b241d89105caf93b544bbb3933b7303a", func := "ballast/ballastlaw16.ArsBerths", spec := "arsBerths", unfollowed := true, recurses := true, plainKeys := false, apart := false }
def ArsBerthsSaid : Prop := arsBerthsRow.holds Try.pinned (OpenSpec.ofChange arsBerthsSpec)

/-- ITS FALSE NEIGHBOUR: 'it returns false'. Refute it at one input. -/
def arsBerthsWrong : ChangeSpec := { name := "arsBerths", fn := fun _ => fun
  | [d1, d2, d3] => { results := [.lit (.bool false)], args := [d1, d2, d3] }
  | _ => none }
def ArsBerthsWrongFalsely : Prop := arsBerthsRow.holds Try.pinned (OpenSpec.ofChange arsBerthsWrong)

/-- 'ballastlaw16.ArsStays': WHATEVER THE INPUT: true; the input reads as it did. -/
def arsStaysSpec : ChangeSpec := { name := "arsStays", fn := fun _ => fun
  | [d1, d2, d3] => { results := [.lit (.bool true)], args := [d1, d2, d3] }
  | _ => none }
def arsStaysRow : OpenClaim := { program := "yteflnjedfmmddaa", sum := "aa96d3fc0c77a7094594747631ad3c05b241d89105caf93b544bbb3933b7303a", func := "ballast/ballastlaw16.ArsStays", spec := "arsStays", unfollowed := true, recurses := true, plainKeys := false, apart := false }
def ArsStaysSaid : Prop := arsStaysRow.holds Try.pinned (OpenSpec.ofChange arsStaysSpec)

/-- ITS FALSE NEIGHBOUR: 'it returns false'. Refute it at one input. -/
def arsStaysWrong : ChangeSpec := { name := "arsStays", fn := fun _ => fun
  | [d1, d2, d3] => { results := [.lit (.bool false)], args := [d1, d2, d3] }
  | _ => none }
def ArsStaysWrongFalsely : Prop := arsStaysRow.holds Try.pinned (OpenSpec.ofChange arsStaysWrong)

/- THE SECOND FORM. 'bulk': how many values and letters a reading holds, each counted each time it is reached (what is shared counts as often as it is met; a slice's spare places count too). A statement '..UptoSaid' is the law's where the arguments, and the package variables that the reading takes, are together of bulk at most 1048576: NARROWER than '..Said'. Prove '..Said' where nothing that the law and all that it calls make is longer than what came in: it says more and counts as full. Else prove '..UptoSaid'. A law counts once. -/
mutual
def uptoBulk {H : Type} : DataW H → Nat
  | .lit (.string bytes) => bytes.length + 1
  | .lit _ => 1
  | .nil => 1
  | .ptr d => uptoBulk d + 1
  | .slice elems spare => uptoBulkAll elems + uptoBulkAll spare + 1
  | .agg parts => uptoBulkAll parts + 1
  | .iface _ d => uptoBulk d + 1
  | .map entries => uptoBulkEntries entries + 1
  | .held _ => 1
def uptoBulkAll {H : Type} : List (DataW H) → Nat
  | [] => 0
  | d :: r => uptoBulk d + uptoBulkAll r
def uptoBulkEntries {H : Type} : List (Lit × DataW H) → Nat
  | [] => 0
  | x :: r => uptoBulkEntry x + uptoBulkEntries r
def uptoBulkEntry {H : Type} : Lit × DataW H → Nat
  | (.string bytes, d) => bytes.length + uptoBulk d + 1
  | (_, d) => uptoBulk d + 1
 end
def uptoSmall : (H : Type) → List (DataW H) → Bool := fun _ ds => decide (uptoBulkAll ds ≤ 1048576)
def OpenSpec.upto (s : _root_.Go.ChangeSpec) : _root_.Go.OpenSpec := { _root_.Go.OpenSpec.ofChange s with cond := some uptoSmall }

/-- 'ballastlaw22.WatchExact', WHERE WHAT IT READS IS OF BULK AT MOST 1048576: true; the input reads as it did. -/
def watchExactUptoRow : OpenClaim := { program := "yteflnjedfmmddaa", sum := "aa96d3fc0c77a7094594747631ad3c05b241d89105caf93b544bbb3933b7303a", func := "ballast/ballastlaw22.WatchExact", spec := "watchExact", unfollowed := true, recurses := true, plainKeys := false, apart := false, narrowed := true }
def WatchExactUptoSaid : Prop := watchExactUptoRow.holds Try.pinned (OpenSpec.upto watchExactSpec)

/-- 'ballastlaw16.ArsDue', WHERE WHAT IT READS IS OF BULK AT MOST 1048576: true; the input reads as it did. -/
def arsDueUptoRow : OpenClaim := { program := "yteflnjedfmmddaa", sum := "aa96d3fc0c77a7094594747631ad3c05b241d89105caf93b544bbb3933b7303a", func := "ballast/ballastlaw16.ArsDue", spec := "arsDue", unfollowed := true, recurses := true, plainKeys := false, apart := false, narrowed := true }
def ArsDueUptoSaid : Prop := arsDueUptoRow.holds Try.pinned (OpenSpec.upto arsDueSpec)

/-- 'ballastlaw16.ArsOnce', WHERE WHAT IT READS IS OF BULK AT MOST 1048576: true; the input reads as it did. -/
def arsOnceUptoRow : OpenClaim := { program := "yteflnjedfmmddaa", sum := "aa96d3fc0c77a7094594747631ad3c05b241d89105caf93b544bbb3933b7303a", func := "ballast/ballastlaw16.ArsOnce", spec := "arsOnce", unfollowed := true, recurses := true, plainKeys := false, apart := false, narrowed := true }
def ArsOnceUptoSaid : Prop := arsOnceUptoRow.holds Try.pinned (OpenSpec.upto arsOnceSpec)

/-- 'ballastlaw16.ArsExact', WHERE WHAT IT READS IS OF BULK AT MOST 1048576: true; the input reads as it did. -/
def arsExactUptoRow : OpenClaim := { program := "yteflnjedfmmddaa", sum := "aa96d3fc0c77a7094594747631ad3c05b241d89105caf93b544bbb3933b7303a", func := "ballast/ballastlaw16.ArsExact", spec := "arsExact", unfollowed := true, recurses := true, plainKeys := false, apart := false, narrowed := true }
def ArsExactUptoSaid : Prop := arsExactUptoRow.holds Try.pinned (OpenSpec.upto arsExactSpec)

/-- 'ballastlaw16.ArsBerths', WHERE WHAT IT READS IS OF BULK AT MOST 1048576: true; the input reads as it did. -/
def arsBerthsUptoRow : OpenClaim := { program := "yteflnjedfmmddaa", sum := "aa96d3fc0c77a7094594747631ad3c05b241d89105caf93b544bbb3933b7303a", func := "ballast/ballastlaw16.ArsBerths", spec := "arsBerths", unfollowed := true, recurses := true, plainKeys := false, apart := false, narrowed := true }
def ArsBerthsUptoSaid : Prop := arsBerthsUptoRow.holds Try.pinned (OpenSpec.upto arsBerthsSpec)

/-- 'ballastlaw16.ArsStays', WHERE WHAT IT READS IS OF BULK AT MOST 1048576: true; the input reads as it did. -/
def arsStaysUptoRow : OpenClaim := { program := "yteflnjedfmmddaa", sum := "aa96d3fc0c77a7094594747631ad3c05b241d89105caf93b544bbb3933b7303a", func := "ballast/ballastlaw16.ArsStays", spec := "arsStays", unfollowed := true, recurses := true, plainKeys := false, apart := false, narrowed := true }
def ArsStaysUptoSaid : Prop := arsStaysUptoRow.holds Try.pinned (OpenSpec.upto arsStaysSpec)

end Rows
end Go.Proofs.Yteflnjedfmmddaa
