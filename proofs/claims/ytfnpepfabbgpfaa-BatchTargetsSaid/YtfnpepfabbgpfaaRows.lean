/-
  No cell of these rows narrows 'for every input' (looked for: loops, veiled, ifaces, maps, wideKeys, modest, calm, conditions, laid).
  DERIVED. THE GIVEN ROWS OF THIS SEAT. 5 by the template 'for every input the law returns true; each argument reads behind the call as it read before'; 0 by the template 'total and deterministic' (their statements: YtfnpepfabbgpfaaTotals.lean).
  GIVEN WITH THE SEED: the statements are not yours to turn. If you find one false, say at which input.
  Laid BY PROGRAM, IN A SANDBOX (cutbox-rows.mjs): the forced cells as the released guide's own fill.sh prints them over the translation 63436196780fe591… (all of the seat's roots in one cut). By AI agents, Wed Nov 11 2026. No macro, syntax, notation, axiom, sorry.
-/
import Derived.Test.YtfnpepfabbgpfaaChecked
import GoSem.Claim
import GoSem.ClaimJoined
import GoSem.ClaimMapViews
import Derived.JoinedTies
import Derived.KernelRfl
namespace Go.Proofs.Ytfnpepfabbgpfaa
/- THE CELL 'sum', in the pinned program and in every row, IS THE sha256 OF THE DUMP (.gsa) THAT YtfnpepfabbgpfaaProg.lean LOADS. Nothing in Lean hashes anything: it is a label: what it is worth is what the hold of that sum in a sandbox is worth. -/
noncomputable def Try.pinned : Pinned := { name := "ytfnpepfabbgpfaa", sum := "63436196780fe59137f0f41ce757494877893e54cfd7e279bf7fceb74987e628", checked := Try.checked }
namespace Rows
def none {H : Type} : Left H := { results := [], args := [] }

/-- 'pacesetterlaw18.BatchRises': WHATEVER THE INPUT: true; the input reads as it did. -/
def batchRisesSpec : ChangeSpec := { name := "batchRises", fn := fun _ => fun
  | [d] => { results := [.lit (.bool true)], args := [d] }
  | _ => none }
def batchRisesRow : OpenClaim := { program := "ytfnpepfabbgpfaa", sum := "63436196780fe59137f0f41ce757494877893e54cfd7e279bf7fceb74987e628", func := "pacesetter/pacesetterlaw18.BatchRises", spec := "batchRises", apart := false }
def BatchRisesSaid : Prop := batchRisesRow.holds Try.pinned (OpenSpec.ofChange batchRisesSpec)

/-- ITS FALSE NEIGHBOUR: 'it returns false'. Refute it at one input. -/
def batchRisesWrong : ChangeSpec := { name := "batchRises", fn := fun _ => fun
  | [d] => { results := [.lit (.bool false)], args := [d] }
  | _ => none }
def BatchRisesWrongFalsely : Prop := batchRisesRow.holds Try.pinned (OpenSpec.ofChange batchRisesWrong)

/-- 'pacesetterlaw18.BatchTargets': WHATEVER THE INPUT: true; the input reads as it did. -/
def batchTargetsSpec : ChangeSpec := { name := "batchTargets", fn := fun _ => fun
  | [d1, d2] => { results := [.lit (.bool true)], args := [d1, d2] }
  | _ => none }
def batchTargetsRow : OpenClaim := { program := "ytfnpepfabbgpfaa", sum := "63436196780fe59137f0f41ce757494877893e54cfd7e279bf7fceb74987e628", func := "pacesetter/pacesetterlaw18.BatchTargets", spec := "batchTargets", apart := false }
def BatchTargetsSaid : Prop := batchTargetsRow.holds Try.pinned (OpenSpec.ofChange batchTargetsSpec)

/-- ITS FALSE NEIGHBOUR: 'it returns false'. Refute it at one input. -/
def batchTargetsWrong : ChangeSpec := { name := "batchTargets", fn := fun _ => fun
  | [d1, d2] => { results := [.lit (.bool false)], args := [d1, d2] }
  | _ => none }
def BatchTargetsWrongFalsely : Prop := batchTargetsRow.holds Try.pinned (OpenSpec.ofChange batchTargetsWrong)

/-- 'pacesetterlaw18.BatchShares': WHATEVER THE INPUT: true; the input reads as it did. -/
def batchSharesSpec : ChangeSpec := { name := "batchShares", fn := fun _ => fun
  | [d1, d2] => { results := [.lit (.bool true)], args := [d1, d2] }
  | _ => none }
def batchSharesRow : OpenClaim := { program := "ytfnpepfabbgpfaa", sum := "63436196780fe59137f0f41ce757494877893e54cfd7e279bf7fceb74987e628", func := "pacesetter/pacesetterlaw18.BatchShares", spec := "batchShares", apart := false }
def BatchSharesSaid : Prop := batchSharesRow.holds Try.pinned (OpenSpec.ofChange batchSharesSpec)

/-- ITS FALSE NEIGHBOUR: 'it returns false'. Refute it at one input. -/
def batchSharesWrong : ChangeSpec := { name := "batchShares", fn := fun _ => fun
  | [d1, d2] => { results := [.lit (.bool false)], args := [d1, d2] }
  | _ => none }
def BatchSharesWrongFalsely : Prop := batchSharesRow.holds Try.pinned (OpenSpec.ofChange batchSharesWrong)

/-- 'pacesetterlaw18.BatchGoals': WHATEVER THE INPUT: true; the input reads as it did. -/
def batchGoalsSpec : ChangeSpec := { name := "batchGoals", fn := fun _ => fun
  | [d1, d2, d3] => { results := [.lit (.bool true)], args := [d1, d2, d3] }
  | _ => none }
def batchGoalsRow : OpenClaim := { program := "ytfnpepfabbgpfaa", sum := "63436196780fe59137f0f41ce757494877893e54cfd7e279bf7fceb74987e628", func := "pacesetter/pacesetterlaw18.BatchGoals", spec := "batchGoals", apart := false }
def BatchGoalsSaid : Prop := batchGoalsRow.holds Try.pinned (OpenSpec.ofChange batchGoalsSpec)

/-- ITS FALSE NEIGHBOUR: 'it returns false'. Refute it at one input. -/
def batchGoalsWrong : ChangeSpec := { name := "batchGoals", fn := fun _ => fun
  | [d1, d2, d3] => { results := [.lit (.bool false)], args := [d1, d2, d3] }
  | _ => none }
def BatchGoalsWrongFalsely : Prop := batchGoalsRow.holds Try.pinned (OpenSpec.ofChange batchGoalsWrong)

/-- 'pacesetterlaw18.BatchRoom': WHATEVER THE INPUT: true; the input reads as it did. -/
def batchRoomSpec : ChangeSpec := { name := "batchRoom", fn := fun _ => fun
  | [d1, d2, d3] => { results := [.lit (.bool true)], args := [d1, d2, d3] }
  | _ => none }
def batchRoomRow : OpenClaim := { program := "ytfnpepfabbgpfaa", sum := "63436196780fe59137f0f41ce757494877893e54cfd7e279bf7fceb74987e628", func := "pacesetter/pacesetterlaw18.BatchRoom", spec := "batchRoom", apart := false }
def BatchRoomSaid : Prop := batchRoomRow.holds Try.pinned (OpenSpec.ofChange batchRoomSpec)

/-- ITS FALSE NEIGHBOUR: 'it returns false'. Refute it at one input. -/
def batchRoomWrong : ChangeSpec := { name := "batchRoom", fn := fun _ => fun
  | [d1, d2, d3] => { results := [.lit (.bool false)], args := [d1, d2, d3] }
  | _ => none }
def BatchRoomWrongFalsely : Prop := batchRoomRow.holds Try.pinned (OpenSpec.ofChange batchRoomWrong)

/- THE SECOND FORM. 'bulk': how many values and letters a reading holds, each counted each time it is reached (what is shared counts as often as it is met; a slice's spare places count too). A statement '..UptoSaid' is the law's where the arguments, and the package variables that the reading takes, are together of bulk at most 1048576: NARROWER than '..Said'. Prove '..Said' where nothing that the law and all that it calls make is longer than what came in: it says more and counts as full. Else prove '..UptoSaid'. A law counts once. -/
mutual
def uptoBulk {H : Type} : DataW H → Nat
  | .lit (.string bytes) => bytes.length + 1
  | .lit _ => 1
  | .nil => 1
  | .ptr d => uptoBulk d + 1
  | .slice elems spare => uptoBulkAll elems + uptoBulkAll spare + 1
  | .agg parts => uptoBulkAll parts + 1
  | .iface _ d => uptoBulk d + 1
  | .map entries => uptoBulkEntries entries + 1
  | .held _ => 1
def uptoBulkAll {H : Type} : List (DataW H) → Nat
  | [] => 0
  | d :: r => uptoBulk d + uptoBulkAll r
def uptoBulkEntries {H : Type} : List (Lit × DataW H) → Nat
  | [] => 0
  | x :: r => uptoBulkEntry x + uptoBulkEntries r
def uptoBulkEntry {H : Type} : Lit × DataW H → Nat
  | (.string bytes, d) => bytes.length + uptoBulk d + 1
  | (_, d) => uptoBulk d + 1
 end
def uptoSmall : (H : Type) → List (DataW H) → Bool := fun _ ds => decide (uptoBulkAll ds ≤ 1048576)
def OpenSpec.upto (s : _root_.Go.ChangeSpec) : _root_.Go.OpenSpec := { _root_.Go.OpenSpec.ofChange s with cond := some uptoSmall }

/-- 'pacesetterlaw18.BatchRises', WHERE WHAT IT READS IS OF BULK AT MOST 1048576: true; the input reads as it did. -/
def batchRisesUptoRow : OpenClaim := { program := "ytfnpepfabbgpfaa", sum := "63436196780fe59137f0f41ce757494877893e54cfd7e279bf7fceb74987e628", func := "pacesetter/pacesetterlaw18.BatchRises", spec := "batchRises", apart := false, narrowed := true }
def BatchRisesUptoSaid : Prop := batchRisesUptoRow.holds Try.pinned (OpenSpec.upto batchRisesSpec)

/-- 'pacesetterlaw18.BatchTargets', WHERE WHAT IT READS IS OF BULK AT MOST 1048576: true; the input reads as it did. -/
def batchTargetsUptoRow : OpenClaim := { program := "ytfnpepfabbgpfaa", sum := "63436196780fe59137f0f41ce757494877893e54cfd7e279bf7fceb74987e628", func := "pacesetter/pacesetterlaw18.BatchTargets", spec := "batchTargets", apart := false, narrowed := true }
def BatchTargetsUptoSaid : Prop := batchTargetsUptoRow.holds Try.pinned (OpenSpec.upto batchTargetsSpec)

/-- 'pacesetterlaw18.BatchShares', WHERE WHAT IT READS IS OF BULK AT MOST 1048576: true; the input reads as it did. -/
def batchSharesUptoRow : OpenClaim := { program := "ytfnpepfabbgpfaa", sum := "63436196780fe59137f0f41ce757494877893e54cfd7e279bf7fceb74987e628", func := "pacesetter/pacesetterlaw18.BatchShares", spec := "batchShares", apart := false, narrowed := true }
def BatchSharesUptoSaid : Prop := batchSharesUptoRow.holds Try.pinned (OpenSpec.upto batchSharesSpec)

/-- 'pacesetterlaw18.BatchGoals', WHERE WHAT IT READS IS OF BULK AT MOST 1048576: true; the input reads as it did. -/
def batchGoalsUptoRow : OpenClaim := { program := "ytfnpepfabbgpfaa", sum := "63436196780fe59137f0f41ce757494877893e54cfd7e279bf7fceb74987e628", func := "pacesetter/pacesetterlaw18.BatchGoals", spec := "batchGoals", apart := false, narrowed := true }
def BatchGoalsUptoSaid : Prop := batchGoalsUptoRow.holds Try.pinned (OpenSpec.upto batchGoalsSpec)

/-- 'pacesetterlaw18.BatchRoom', WHERE WHAT IT READS IS OF BULK AT MOST 1048576: true; the input reads as it did. -/
def batchRoomUptoRow : OpenClaim := { program := "ytfnpepfabbgpfaa", sum := "63436196780fe59137f0f41ce757494877893e54cfd7e279bf7fceb74987e628", func := "pacesetter/pacesetterlaw18.BatchRoom", spec := "batchRoom", apart := false, narrowed := true }
def BatchRoomUptoSaid : Prop := batchRoomUptoRow.holds Try.pinned (OpenSpec.upto batchRoomSpec)

end Rows
end Go.Proofs.Ytfnpepfabbgpfaa
