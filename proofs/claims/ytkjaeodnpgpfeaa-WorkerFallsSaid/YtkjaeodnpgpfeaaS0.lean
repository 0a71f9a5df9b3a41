/-
  Slots in plain Lean: what may be, and what happens to a slot. Nothing of the program is named here.
-/
namespace Go.Proofs.Ytkjaeodnpgpfeaa.S0

/-- A slot: its state, the version that it runs, the version that is wanted, the number of what wanted it. -/
structure Sl where
  st : Int
  ver : Int
  want : Int
  seq : Int
deriving DecidableEq

def right (s : Sl) : Bool := decide (0 ≤ s.st ∧ s.st ≤ 4 ∧ 0 ≤ s.ver ∧ 0 ≤ s.want ∧ 0 ≤ s.seq ∧ (0 < s.ver ↔ s.st ≠ 0))

def wants (s : Sl) (v q : Int) : Sl × Bool :=
  if right s = true ∧ 0 ≤ v ∧ s.seq < q then (if s.st ≠ 0 ∧ s.ver ≠ v then (⟨4, s.ver, v, q⟩, true) else (⟨s.st, s.ver, v, q⟩, true)) else (s, false)
def goes (s : Sl) : Sl × Bool :=
  if right s = true then (if s.st = 0 then (if 0 < s.want then (⟨1, s.want, s.want, s.seq⟩, true) else (s, false)) else if s.st = 1 then (⟨2, s.ver, s.want, s.seq⟩, true) else if s.st = 4 then (⟨0, 0, s.want, s.seq⟩, true) else (s, false)) else (s, false)
def turns (s : Sl) (x y : Int) : Sl × Bool := if right s = true ∧ s.st = x then (⟨y, s.ver, s.want, s.seq⟩, true) else (s, false)
def falls (s : Sl) : Sl × Bool := if right s = true then (⟨0, 0, s.want, s.seq⟩, decide (s.st ≠ 0)) else (s, false)
def settled (s : Sl) : Bool := decide (s.st = 0 ∧ s.want = 0 ∨ s.st = 2 ∧ s.ver = s.want)

end Go.Proofs.Ytkjaeodnpgpfeaa.S0
