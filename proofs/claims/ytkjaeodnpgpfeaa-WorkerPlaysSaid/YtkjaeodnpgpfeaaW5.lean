/-
  Proved here, in plain words: a worker of all units keeps right slots; what a command does when it comes once, and when it comes twice. No condition.
-/
import Derived.Test.YtkjaeodnpgpfeaaW4
namespace Go.Proofs.Ytkjaeodnpgpfeaa.W5
open Go.RowKit Go.Maps Go.Sort Go.Shelf Go.Proofs.Ytkjaeodnpgpfeaa.M Go.Proofs.Ytkjaeodnpgpfeaa.S0 Go.Proofs.Ytkjaeodnpgpfeaa.S4 Go.Proofs.Ytkjaeodnpgpfeaa.W0 Go.Proofs.YtkjaeodnpgpfeaaW.PrintWords Go.Proofs.YtkjaeodnpgpfeaaW.PrintLast Go.Proofs.YtkjaeodnpgpfeaaW.PrintMore Go.Proofs.Ytkjaeodnpgpfeaa.W1 Go.Proofs.Ytkjaeodnpgpfeaa.W2 Go.Proofs.Ytkjaeodnpgpfeaa.W3 Go.Proofs.Ytkjaeodnpgpfeaa.W4
set_option linter.unusedVariables false
set_option linter.unusedSimpArgs false

/-- All units are there, each a slot that may be. -/
def Full (f : Int → Option Sl) : Prop := ∀ k, 0 ≤ k → k < 16 → ∃ s, f k = some s ∧ right s = true
theorem full_fresh : Full (fresh 0 1 16) := fun k h0 h1 => ⟨zs, by unfold fresh; rw [if_pos ⟨h0, h1, h1, Int.emod_one k⟩], by kernel_rfl⟩
theorem full_upd {f : Int → Option Sl} (h : Full f) (k : Int) (s : Sl) (hs : right s = true) : Full (upd f k s) := fun j h0 h1 => by
  unfold upd
  by_cases e : j = k
  · exact ⟨s, by rw [if_pos e], hs⟩
  · rw [if_neg e]; exact h j h0 h1
theorem wants_yes {s s' : Sl} {v q : Int} (h : wants s v q = (s', true)) : right s' = true ∧ s'.want = v ∧ s'.seq = q := by
  unfold wants at h
  split at h
  · rename_i hc
    obtain ⟨hr, hv, hq⟩ := hc
    unfold right at hr
    have hr' := of_decide_eq_true hr
    split at h
    · rename_i h2
      have h3 := congrArg Prod.fst h
      dsimp only at h3
      subst h3
      refine ⟨?_, rfl, rfl⟩
      unfold right
      refine decide_eq_true ?_
      dsimp only
      omega
    · have h3 := congrArg Prod.fst h
      dsimp only at h3
      subst h3
      refine ⟨?_, rfl, rfl⟩
      unfold right
      refine decide_eq_true ?_
      dsimp only
      omega
  · cases h
theorem wants_no {s s' : Sl} {v q : Int} (h : wants s v q = (s', false)) : s' = s := by
  unfold wants at h
  split at h
  · split at h <;> cases h
  · cases h; rfl
theorem wants_again (s : Sl) (v q : Int) (h : s.seq = q) : (wants s v q).2 = false := by
  unfold wants
  rw [if_neg (by rintro ⟨_, _, h2⟩; omega)]
theorem low_ok {m1 m2 m3 m4 m5 : Int} (h1 : 0 ≤ m1) (h2 : 0 ≤ m2) (h3 : 0 ≤ m3) (h4 : 0 ≤ m4) (h5 : 0 ≤ m5) : ¬ ((1 : Int) ≠ 1 ∨ lowM m1 m2 m3 m4 m5 < 0) := by
  rintro (h | h)
  · exact h rfl
  · revert h
    unfold lowM mn
    (repeat' split) <;> omega
section
variable {seen m1 m2 m3 m4 m5 : Int} {f : Int → Option Sl} {s s' : Sl} (h1 : 0 ≤ m1) (h2 : 0 ≤ m2) (h3 : 0 ≤ m3) (h4 : 0 ≤ m4) (h5 : 0 ≤ m5) (hf : f m3 = some s)
include h1 h2 h3 h4 h5 hf
theorem apply_is_old (h : m1 < seen) : applyV seen f 1 m1 m2 m3 m4 m5 = (8, seen, f) := by
  unfold applyV
  rw [if_neg (low_ok h1 h2 h3 h4 h5), hf]
  dsimp only
  rw [if_pos h]
theorem apply_is_no (h : ¬ m1 < seen) (hw : (wants s m4 m2).2 = false) : applyV seen f 1 m1 m2 m3 m4 m5 = (7, m1, f) := by
  unfold applyV
  rw [if_neg (low_ok h1 h2 h3 h4 h5), hf]
  dsimp only
  rw [if_neg h, if_neg (by rw [hw]; decide)]
theorem apply_is_yes (h : ¬ m1 < seen) (hw : wants s m4 m2 = (s', true)) : applyV seen f 1 m1 m2 m3 m4 m5 = (0, m1, upd f m3 s') := by
  unfold applyV
  rw [if_neg (low_ok h1 h2 h3 h4 h5), hf]
  dsimp only
  rw [if_neg h, hw, if_pos rfl]
end
theorem upd_at (f : Int → Option Sl) (k : Int) (s : Sl) : upd f k s k = some s := by unfold upd; rw [if_pos rfl]
end Go.Proofs.Ytkjaeodnpgpfeaa.W5
