/-
  No cell of these rows narrows 'for every input' (looked for: loops, veiled, ifaces, maps, wideKeys, modest, calm, conditions, laid).
  DERIVED. THE GIVEN ROWS OF THIS SEAT. 4 by the template 'for every input the law returns true; each argument reads behind the call as it read before'; 0 by the template 'total and deterministic' (their statements: YtloljhopccpeeaaTotals.lean).
  GIVEN WITH THE SEED: the statements are not yours to turn. If you find one false, say at which input.
  Laid BY PROGRAM, IN A SANDBOX (cutbox-rows.mjs): the forced cells as the released guide's own fill.sh prints them over the translation 71669c8b65788498… (all of the seat's roots in one cut). By AI agents, Wed Nov 11 2026. No macro, syntax, notation, axiom, sorry.
-/
import Derived.Test.YtloljhopccpeeaaChecked
import GoSem.Claim
import GoSem.ClaimJoined
import GoSem.ClaimMapViews
import Derived.JoinedTies
import Derived.KernelRfl
namespace Go.Proofs.Ytloljhopccpeeaa
/- THE CELL 'sum', in the pinned program and in every row, IS THE sha256 OF THE DUMP (.gsa) THAT YtloljhopccpeeaaProg.lean LOADS. Nothing in Lean hashes anything: it is a label: what it is worth is what the hold of that sum in a sandbox is worth. -/
noncomputable def Try.pinned : Pinned := { name := "ytloljhopccpeeaa", sum := "71669c8b65788498697e2ba3f8751198a785699a6c8f5889bc4ff4a91e7b3427", checked := Try.checked }
namespace Rows
def none {H : Type} : Left H := { results := [], args := [] }

/-- 'pacesetterlaw19.PlanRow': WHATEVER THE INPUT: true; the input reads as it did. -/
def planRowSpec : ChangeSpec := { name := "planRow", fn := fun _ => fun
  | [d1, d2, d3] => { results := [.lit (.bool true)], args := [d1, d2, d3] }
  | _ => none }
def planRowRow : OpenClaim := { program := "ytloljhopccpeeaa", sum := "71669c8b65788498697e2ba3f8751198a785699a6c8f5889bc4ff4a91e7b3427", func := "pacesetter/pacesetterlaw19.PlanRow", spec := "planRow", unfollowed := true, recurses := true, apart := false }
def PlanRowSaid : Prop := planRowRow.holds Try.pinned (OpenSpec.ofChange planRowSpec)

/-- ITS FALSE NEIGHBOUR: 'it returns false'. Refute it at one input. -/
def planRowWrong : ChangeSpec := { name := "planRow", fn := fun _ => fun
  | [d1, d2, d3] => { results := [.lit (.bool false)], args := [d1, d2, d3] }
  | _ => none }
def PlanRowWrongFalsely : Prop := planRowRow.holds Try.pinned (OpenSpec.ofChange planRowWrong)

/-- 'pacesetterlaw19.PlanSafe': WHATEVER THE INPUT: true; the input reads as it did. -/
def planSafeSpec : ChangeSpec := { name := "planSafe", fn := fun _ => fun
  | [d1, d2, d3] => { results := [.lit (.bool true)], args := [d1, d2, d3] }
  | _ => none }
def planSafeRow : OpenClaim := { program := "ytloljhopccpeeaa", sum := "71669c8b65788498697e2ba3f8751198a785699a6c8f5889bc4ff4a91e7b3427", func := "pacesetter/pacesetterlaw19.PlanSafe", spec := "planSafe", unfollowed := true, recurses := true, apart := false }
def PlanSafeSaid : Prop := planSafeRow.holds Try.pinned (OpenSpec.ofChange planSafeSpec)

/-- ITS FALSE NEIGHBOUR: 'it returns false'. Refute it at one input. -/
def planSafeWrong : ChangeSpec := { name := "planSafe", fn := fun _ => fun
  | [d1, d2, d3] => { results := [.lit (.bool false)], args := [d1, d2, d3] }
  | _ => none }
def PlanSafeWrongFalsely : Prop := planSafeRow.holds Try.pinned (OpenSpec.ofChange planSafeWrong)

/-- 'pacesetterlaw19.PlanEnds': WHATEVER THE INPUT: true; the input reads as it did. -/
def planEndsSpec : ChangeSpec := { name := "planEnds", fn := fun _ => fun
  | [d1, d2, d3] => { results := [.lit (.bool true)], args := [d1, d2, d3] }
  | _ => none }
def planEndsRow : OpenClaim := { program := "ytloljhopccpeeaa", sum := "71669c8b65788498697e2ba3f8751198a785699a6c8f5889bc4ff4a91e7b3427", func := "pacesetter/pacesetterlaw19.PlanEnds", spec := "planEnds", unfollowed := true, recurses := true, apart := false }
def PlanEndsSaid : Prop := planEndsRow.holds Try.pinned (OpenSpec.ofChange planEndsSpec)

/-- ITS FALSE NEIGHBOUR: 'it returns false'. Refute it at one input. -/
def planEndsWrong : ChangeSpec := { name := "planEnds", fn := fun _ => fun
  | [d1, d2, d3] => { results := [.lit (.bool false)], args := [d1, d2, d3] }
  | _ => none }
def PlanEndsWrongFalsely : Prop := planEndsRow.holds Try.pinned (OpenSpec.ofChange planEndsWrong)

/-- 'pacesetterlaw19.PlanWaits': WHATEVER THE INPUT: true; the input reads as it did. -/
def planWaitsSpec : ChangeSpec := { name := "planWaits", fn := fun _ => fun
  | [d1, d2, d3] => { results := [.lit (.bool true)], args := [d1, d2, d3] }
  | _ => none }
def planWaitsRow : OpenClaim := { program := "ytloljhopccpeeaa", sum := "71669c8b65788498697e2ba3f8751198a785699a6c8f5889bc4ff4a91e7b3427", func := "pacesetter/pacesetterlaw19.PlanWaits", spec := "planWaits", unfollowed := true, recurses := true, apart := false }
def PlanWaitsSaid : Prop := planWaitsRow.holds Try.pinned (OpenSpec.ofChange planWaitsSpec)

/-- ITS FALSE NEIGHBOUR: 'it returns false'. Refute it at one input. -/
def planWaitsWrong : ChangeSpec := { name := "planWaits", fn := fun _ => fun
  | [d1, d2, d3] => { results := [.lit (.bool false)], args := [d1, d2, d3] }
  | _ => none }
def PlanWaitsWrongFalsely : Prop := planWaitsRow.holds Try.pinned (OpenSpec.ofChange planWaitsWrong)

/- THE SECOND FORM. 'bulk': how many values and letters a reading holds, each counted each time it is reached (what is shared counts as often as it is met; a slice's spare places count too). A statement '..UptoSaid' is the law's where the arguments, and the package variables that the reading takes, are together of bulk at most 1048576: NARROWER than '..Said'. Prove '..Said' where nothing that the law and all that it calls make is longer than what came in: it says more and counts as full. Else prove '..UptoSaid'. A law counts once. -/
mutual
def uptoBulk {H : Type} : DataW H → Nat
  | .lit (.string bytes) => bytes.length + 1
  | .lit _ => 1
  | .nil => 1
  | .ptr d => uptoBulk d + 1
  | .slice elems spare => uptoBulkAll elems + uptoBulkAll spare + 1
  | .agg parts => uptoBulkAll parts + 1
  | .iface _ d => uptoBulk d + 1
  | .map entries => uptoBulkEntries entries + 1
  | .held _ => 1
def uptoBulkAll {H : Type} : List (DataW H) → Nat
  | [] => 0
  | d :: r => uptoBulk d + uptoBulkAll r
def uptoBulkEntries {H : Type} : List (Lit × DataW H) → Nat
  | [] => 0
  | x :: r => uptoBulkEntry x + uptoBulkEntries r
def uptoBulkEntry {H : Type} : Lit × DataW H → Nat
  | (.string bytes, d) => bytes.length + uptoBulk d + 1
  | (_, d) => uptoBulk d + 1
 end
def uptoSmall : (H : Type) → List (DataW H) → Bool := fun _ ds => decide (uptoBulkAll ds ≤ 1048576)
def OpenSpec.upto (s : _root_.Go.ChangeSpec) : _root_.Go.OpenSpec := { _root_.Go.OpenSpec.ofChange s with cond := some uptoSmall }

/-- 'pacesetterlaw19.PlanRow', WHERE WHAT IT READS IS OF BULK AT MOST 1048576: true; the input reads as it did. -/
def planRowUptoRow : OpenClaim := { program := "ytloljhopccpeeaa", sum := "71669c8b65788498697e2ba3f8751198a785699a6c8f5889bc4ff4a91e7b3427", func := "pacesetter/pacesetterlaw19.PlanRow", spec := "planRow", unfollowed := true, recurses := true, apart := false, narrowed := true }
def PlanRowUptoSaid : Prop := planRowUptoRow.holds Try.pinned (OpenSpec.upto planRowSpec)

/-- 'pacesetterlaw19.PlanSafe', WHERE WHAT IT READS IS OF BULK AT MOST 1048576: true; the input reads as it did. -/
def planSafeUptoRow : OpenClaim := { program := "ytloljhopccpeeaa", sum := "71669c8b65788498697e2ba3f8751198a785699a6c8f5889bc4ff4a91e7b3427", func := "pacesetter/pacesetterlaw19.PlanSafe", spec := "planSafe", unfollowed := true, recurses := true, apart := false, narrowed := true }
def PlanSafeUptoSaid : Prop := planSafeUptoRow.holds Try.pinned (OpenSpec.upto planSafeSpec)

/-- 'pacesetterlaw19.PlanEnds', WHERE WHAT IT READS IS OF BULK AT MOST 1048576: true; the input reads as it did. -/
def planEndsUptoRow : OpenClaim := { program := "ytloljhopccpeeaa", sum := "71669c8b65788498697e2ba3f8751198a785699a6c8f5889bc4ff4a91e7b3427", func := "pacesetter/pacesetterlaw19.PlanEnds", spec := "planEnds", unfollowed := true, recurses := true, apart := false, narrowed := true }
def PlanEndsUptoSaid : Prop := planEndsUptoRow.holds Try.pinned (OpenSpec.upto planEndsSpec)

/-- 'pacesetterlaw19.PlanWaits', WHERE WHAT IT READS IS OF BULK AT MOST 1048576: true; the input reads as it did. -/
def planWaitsUptoRow : OpenClaim := { program := "ytloljhopccpeeaa", sum := "71669c8b65788498697e2ba3f8751198a785699a6c8f5889bc4ff4a91e7b3427", func := "pacesetter/pacesetterlaw19.PlanWaits", spec := "planWaits", unfollowed := true, recurses := true, apart := false, narrowed := true }
def PlanWaitsUptoSaid : Prop := planWaitsUptoRow.holds Try.pinned (OpenSpec.upto planWaitsSpec)

end Rows
end Go.Proofs.Ytloljhopccpeeaa
