/-
  Proved here: what the methods that change a slot in its place do to it: wanted.of, on, stop, turn.of. No condition beyond the slot's place.
-/
import Derived.Test.YtkjaeodnpgpfeaaPWorkerPlaysx0
import Derived.Test.YtkjaeodnpgpfeaaS0
import Derived.Outline
import Derived.Deep.QuietTactic
import Derived.BigQuiet
import Derived.BigRegion
namespace Go.Proofs.Ytkjaeodnpgpfeaa.S2
open Go.RowKit Go.Proofs.Ytkjaeodnpgpfeaa.S0 Go.Proofs.YtkjaeodnpgpfeaaW.PrintWords Go.Proofs.YtkjaeodnpgpfeaaW.PrintLast Go.Proofs.YtkjaeodnpgpfeaaW.PrintMore
set_option linter.unusedVariables false

abbrev sval (a b c d : Int) : Value := .agg #[.int .i64 a, .int .i64 b, .int .i64 c, .int .i64 d]
/-- Block g is a slot. -/
def IsSlot (w : World) (g : Nat) (a b c d : Int) : Prop := w.heap[g]? = some (.cells #[.int .i64 a, .int .i64 b, .int .i64 c, .int .i64 d] 35 (0, 0))
theorem IsSlot.alloc {w : World} {g : Nat} {a b c d : Int} (h : IsSlot w g a b c d) (o : Obj) : IsSlot (w.alloc o) g a b c d := (Below.heap_alloc w o g (blk_lt h)).trans h
theorem IsSlot.drewN {w : World} {g : Nat} {a b c d : Int} (h : IsSlot w g a b c d) (n : Nat) : IsSlot (w.drewN n) g a b c d := h
theorem IsSlot.drew {w : World} {g : Nat} {a b c d : Int} (h : IsSlot w g a b c d) : IsSlot w.drew g a b c d := h
theorem only_drewN {a w : World} {row : Option Nat} (h : a.grownBy w row) (n : Nat) : a.grownBy (w.drewN n) row := ⟨h.os, h.tape, h.output, h.size, h.block⟩
theorem only_drew {a w : World} {row : Option Nat} (h : a.grownBy w row) : a.grownBy w.drew row := ⟨h.os, h.tape, h.output, h.size, h.block⟩
theorem only_alloc {a w : World} {row : Option Nat} (h : a.grownBy w row) (o : Obj) : a.grownBy (w.alloc o) row :=
  ⟨h.os, h.tape, h.output, Nat.le_trans h.size (by simp), fun i hi hne => (Below.heap_alloc w o i (Nat.lt_of_lt_of_le hi h.size)).trans (h.block i hi hne)⟩
theorem only_setCell {a w : World} {g : Nat} (h : a.grownBy w (some g)) (j : Nat) (u : Value) : a.grownBy (w.setCell ⟨g, j, none⟩ u) (some g) :=
  ⟨h.os, h.tape, h.output, by simpa [World.setCell] using h.size, fun i hi hne => (Below.heap_setCell w ⟨g, j, none⟩ u i (fun e => hne (by rw [e]))).trans (h.block i hi hne)⟩
theorem only_refl (w : World) (row : Option Nat) : w.grownBy w row := grown_of_below (Below.refl _ _) row
theorem IsSlot.set0 {w : World} {g : Nat} {a b c d : Int} (h : IsSlot w g a b c d) (x : Int) : IsSlot (w.setCell ⟨g, 0, none⟩ (.int .i64 x)) g x b c d := blk_set h 0 _
theorem IsSlot.set1 {w : World} {g : Nat} {a b c d : Int} (h : IsSlot w g a b c d) (x : Int) : IsSlot (w.setCell ⟨g, 1, none⟩ (.int .i64 x)) g a x c d := blk_set h 1 _
theorem IsSlot.set2 {w : World} {g : Nat} {a b c d : Int} (h : IsSlot w g a b c d) (x : Int) : IsSlot (w.setCell ⟨g, 2, none⟩ (.int .i64 x)) g a b x d := blk_set h 2 _
theorem IsSlot.set3 {w : World} {g : Nat} {a b c d : Int} (h : IsSlot w g a b c d) (x : Int) : IsSlot (w.setCell ⟨g, 3, none⟩ (.int .i64 x)) g a b c x := blk_set h 3 _

set_option maxHeartbeats 1000000 in
theorem of_low (a b c d v q : Int) (g : Nat) (w : World) (hs : IsSlot w g a b c d) (h1 : decide (v < 0) = true) : Calls Try.prog 44 #[.agg #[.int .i64 v, .int .i64 q], .pointer (some ⟨g, 0, none⟩)] w fun e w' => e = .returned (.bool false) ∧ IsSlot w' g a b c d ∧ w.grownBy w' (some g) := by
  have c0 : w.cell? ⟨g, 0, none⟩ = some (.int .i64 a) := blk_cell hs 0
  have c1 : w.cell? ⟨g, 1, none⟩ = some (.int .i64 b) := blk_cell hs 1
  have c2 : w.cell? ⟨g, 2, none⟩ = some (.int .i64 c) := blk_cell hs 2
  have c3 : w.cell? ⟨g, 3, none⟩ = some (.int .i64 d) := blk_cell hs 3
  have f0 : w.frozen? ⟨g, 0, none⟩ = false := blk_frozen hs 0
  have f1 : w.frozen? ⟨g, 1, none⟩ = false := blk_frozen hs 1
  have f2 : w.frozen? ⟨g, 2, none⟩ = false := blk_frozen hs 2
  have f3 : w.frozen? ⟨g, 3, none⟩ = false := blk_frozen hs 3
  have hg : g < w.heap.size := blk_lt hs
  have HB := Aside0.mk (only_refl w (some g))
  have HS := Aside0.mk hs
  clear hs
  go_enter Try.func44, Try.ntmps44
  go_wp2
  go_quiet (fail)
  go_wp2
  go_ret
  exact ⟨rfl, by repeat (with_reducible first | exact HS.out | apply IsSlot.set3 | apply IsSlot.set2 | apply IsSlot.set1 | apply IsSlot.set0 | apply IsSlot.drewN | apply IsSlot.drew | apply IsSlot.alloc), by repeat (with_reducible first | exact HB.out | apply only_drewN | apply only_drew | apply only_setCell | apply only_alloc)⟩

set_option maxHeartbeats 1000000 in
theorem of_old (a b c d v q : Int) (g : Nat) (w : World) (hs : IsSlot w g a b c d) (h1 : decide (v < 0) = false) (h2 : decide (q ≤ d) = true) : Calls Try.prog 44 #[.agg #[.int .i64 v, .int .i64 q], .pointer (some ⟨g, 0, none⟩)] w fun e w' => e = .returned (.bool false) ∧ IsSlot w' g a b c d ∧ w.grownBy w' (some g) := by
  have c0 : w.cell? ⟨g, 0, none⟩ = some (.int .i64 a) := blk_cell hs 0
  have c1 : w.cell? ⟨g, 1, none⟩ = some (.int .i64 b) := blk_cell hs 1
  have c2 : w.cell? ⟨g, 2, none⟩ = some (.int .i64 c) := blk_cell hs 2
  have c3 : w.cell? ⟨g, 3, none⟩ = some (.int .i64 d) := blk_cell hs 3
  have f0 : w.frozen? ⟨g, 0, none⟩ = false := blk_frozen hs 0
  have f1 : w.frozen? ⟨g, 1, none⟩ = false := blk_frozen hs 1
  have f2 : w.frozen? ⟨g, 2, none⟩ = false := blk_frozen hs 2
  have f3 : w.frozen? ⟨g, 3, none⟩ = false := blk_frozen hs 3
  have hg : g < w.heap.size := blk_lt hs
  have HB := Aside0.mk (only_refl w (some g))
  have HS := Aside0.mk hs
  clear hs
  go_enter Try.func44, Try.ntmps44
  go_wp2
  go_quiet (fail)
  go_wp2
  go_ret
  exact ⟨rfl, by repeat (with_reducible first | exact HS.out | apply IsSlot.set3 | apply IsSlot.set2 | apply IsSlot.set1 | apply IsSlot.set0 | apply IsSlot.drewN | apply IsSlot.drew | apply IsSlot.alloc), by repeat (with_reducible first | exact HB.out | apply only_drewN | apply only_drew | apply only_setCell | apply only_alloc)⟩

set_option maxHeartbeats 1000000 in
theorem of_off (a b c d v q : Int) (g : Nat) (w : World) (hs : IsSlot w g a b c d) (h1 : decide (v < 0) = false) (h2 : decide (q ≤ d) = false) (h3 : (a != 0) = false) : Calls Try.prog 44 #[.agg #[.int .i64 v, .int .i64 q], .pointer (some ⟨g, 0, none⟩)] w fun e w' => e = .returned (.bool true) ∧ IsSlot w' g a b v q ∧ w.grownBy w' (some g) := by
  have c0 : w.cell? ⟨g, 0, none⟩ = some (.int .i64 a) := blk_cell hs 0
  have c1 : w.cell? ⟨g, 1, none⟩ = some (.int .i64 b) := blk_cell hs 1
  have c2 : w.cell? ⟨g, 2, none⟩ = some (.int .i64 c) := blk_cell hs 2
  have c3 : w.cell? ⟨g, 3, none⟩ = some (.int .i64 d) := blk_cell hs 3
  have f0 : w.frozen? ⟨g, 0, none⟩ = false := blk_frozen hs 0
  have f1 : w.frozen? ⟨g, 1, none⟩ = false := blk_frozen hs 1
  have f2 : w.frozen? ⟨g, 2, none⟩ = false := blk_frozen hs 2
  have f3 : w.frozen? ⟨g, 3, none⟩ = false := blk_frozen hs 3
  have hg : g < w.heap.size := blk_lt hs
  have HB := Aside0.mk (only_refl w (some g))
  have HS := Aside0.mk hs
  clear hs
  go_enter Try.func44, Try.ntmps44
  go_wp2
  go_quiet (fail)
  go_wp2
  go_region
  go_wp2
  go_quiet (fail)
  go_wp2
  go_ret
  exact ⟨rfl, by repeat (with_reducible first | exact HS.out | apply IsSlot.set3 | apply IsSlot.set2 | apply IsSlot.set1 | apply IsSlot.set0 | apply IsSlot.drewN | apply IsSlot.drew | apply IsSlot.alloc), by repeat (with_reducible first | exact HB.out | apply only_drewN | apply only_drew | apply only_setCell | apply only_alloc)⟩

set_option maxHeartbeats 1000000 in
theorem of_same (a b c d v q : Int) (g : Nat) (w : World) (hs : IsSlot w g a b c d) (h1 : decide (v < 0) = false) (h2 : decide (q ≤ d) = false) (h3 : (a != 0) = true) (h4 : (b != v) = false) : Calls Try.prog 44 #[.agg #[.int .i64 v, .int .i64 q], .pointer (some ⟨g, 0, none⟩)] w fun e w' => e = .returned (.bool true) ∧ IsSlot w' g a b v q ∧ w.grownBy w' (some g) := by
  have c0 : w.cell? ⟨g, 0, none⟩ = some (.int .i64 a) := blk_cell hs 0
  have c1 : w.cell? ⟨g, 1, none⟩ = some (.int .i64 b) := blk_cell hs 1
  have c2 : w.cell? ⟨g, 2, none⟩ = some (.int .i64 c) := blk_cell hs 2
  have c3 : w.cell? ⟨g, 3, none⟩ = some (.int .i64 d) := blk_cell hs 3
  have f0 : w.frozen? ⟨g, 0, none⟩ = false := blk_frozen hs 0
  have f1 : w.frozen? ⟨g, 1, none⟩ = false := blk_frozen hs 1
  have f2 : w.frozen? ⟨g, 2, none⟩ = false := blk_frozen hs 2
  have f3 : w.frozen? ⟨g, 3, none⟩ = false := blk_frozen hs 3
  have hg : g < w.heap.size := blk_lt hs
  have HB := Aside0.mk (only_refl w (some g))
  have HS := Aside0.mk hs
  clear hs
  go_enter Try.func44, Try.ntmps44
  go_wp2
  go_quiet (fail)
  go_wp2
  go_region
  go_wp2
  go_quiet (fail)
  go_wp2
  go_ret
  exact ⟨rfl, by repeat (with_reducible first | exact HS.out | apply IsSlot.set3 | apply IsSlot.set2 | apply IsSlot.set1 | apply IsSlot.set0 | apply IsSlot.drewN | apply IsSlot.drew | apply IsSlot.alloc), by repeat (with_reducible first | exact HB.out | apply only_drewN | apply only_drew | apply only_setCell | apply only_alloc)⟩

set_option maxHeartbeats 1000000 in
theorem of_other (a b c d v q : Int) (g : Nat) (w : World) (hs : IsSlot w g a b c d) (h1 : decide (v < 0) = false) (h2 : decide (q ≤ d) = false) (h3 : (a != 0) = true) (h4 : (b != v) = true) : Calls Try.prog 44 #[.agg #[.int .i64 v, .int .i64 q], .pointer (some ⟨g, 0, none⟩)] w fun e w' => e = .returned (.bool true) ∧ IsSlot w' g 4 b v q ∧ w.grownBy w' (some g) := by
  have c0 : w.cell? ⟨g, 0, none⟩ = some (.int .i64 a) := blk_cell hs 0
  have c1 : w.cell? ⟨g, 1, none⟩ = some (.int .i64 b) := blk_cell hs 1
  have c2 : w.cell? ⟨g, 2, none⟩ = some (.int .i64 c) := blk_cell hs 2
  have c3 : w.cell? ⟨g, 3, none⟩ = some (.int .i64 d) := blk_cell hs 3
  have f0 : w.frozen? ⟨g, 0, none⟩ = false := blk_frozen hs 0
  have f1 : w.frozen? ⟨g, 1, none⟩ = false := blk_frozen hs 1
  have f2 : w.frozen? ⟨g, 2, none⟩ = false := blk_frozen hs 2
  have f3 : w.frozen? ⟨g, 3, none⟩ = false := blk_frozen hs 3
  have hg : g < w.heap.size := blk_lt hs
  have HB := Aside0.mk (only_refl w (some g))
  have HS := Aside0.mk hs
  clear hs
  go_enter Try.func44, Try.ntmps44
  go_wp2
  go_quiet (fail)
  go_wp2
  go_region
  go_wp2
  go_quiet (fail)
  go_wp2
  go_ret
  exact ⟨rfl, by repeat (with_reducible first | exact HS.out | apply IsSlot.set3 | apply IsSlot.set2 | apply IsSlot.set1 | apply IsSlot.set0 | apply IsSlot.drewN | apply IsSlot.drew | apply IsSlot.alloc), by repeat (with_reducible first | exact HB.out | apply only_drewN | apply only_drew | apply only_setCell | apply only_alloc)⟩

set_option maxHeartbeats 1000000 in
theorem stop_any (a b c d : Int) (g : Nat) (w : World) (hs : IsSlot w g a b c d) : Calls Try.prog 53 #[.pointer (some ⟨g, 0, none⟩)] w fun e w' => e = .returned (.bool (a != 0)) ∧ IsSlot w' g 0 0 c d ∧ w.grownBy w' (some g) := by
  have c0 : w.cell? ⟨g, 0, none⟩ = some (.int .i64 a) := blk_cell hs 0
  have c1 : w.cell? ⟨g, 1, none⟩ = some (.int .i64 b) := blk_cell hs 1
  have c2 : w.cell? ⟨g, 2, none⟩ = some (.int .i64 c) := blk_cell hs 2
  have c3 : w.cell? ⟨g, 3, none⟩ = some (.int .i64 d) := blk_cell hs 3
  have f0 : w.frozen? ⟨g, 0, none⟩ = false := blk_frozen hs 0
  have f1 : w.frozen? ⟨g, 1, none⟩ = false := blk_frozen hs 1
  have f2 : w.frozen? ⟨g, 2, none⟩ = false := blk_frozen hs 2
  have f3 : w.frozen? ⟨g, 3, none⟩ = false := blk_frozen hs 3
  have hg : g < w.heap.size := blk_lt hs
  have HB := Aside0.mk (only_refl w (some g))
  have HS := Aside0.mk hs
  clear hs
  go_enter Try.func53, Try.ntmps53
  go_wp2
  go_ret
  exact ⟨rfl, by repeat (with_reducible first | exact HS.out | apply IsSlot.set3 | apply IsSlot.set2 | apply IsSlot.set1 | apply IsSlot.set0 | apply IsSlot.drewN | apply IsSlot.drew | apply IsSlot.alloc), by repeat (with_reducible first | exact HB.out | apply only_drewN | apply only_drew | apply only_setCell | apply only_alloc)⟩

set_option maxHeartbeats 1000000 in
theorem turn_yes (a b c d x y : Int) (g : Nat) (w : World) (hs : IsSlot w g a b c d) (h1 : (a != x) = false) : Calls Try.prog 55 #[.agg #[.int .i64 x, .int .i64 y], .pointer (some ⟨g, 0, none⟩)] w fun e w' => e = .returned (.bool true) ∧ IsSlot w' g y b c d ∧ w.grownBy w' (some g) := by
  have c0 : w.cell? ⟨g, 0, none⟩ = some (.int .i64 a) := blk_cell hs 0
  have c1 : w.cell? ⟨g, 1, none⟩ = some (.int .i64 b) := blk_cell hs 1
  have c2 : w.cell? ⟨g, 2, none⟩ = some (.int .i64 c) := blk_cell hs 2
  have c3 : w.cell? ⟨g, 3, none⟩ = some (.int .i64 d) := blk_cell hs 3
  have f0 : w.frozen? ⟨g, 0, none⟩ = false := blk_frozen hs 0
  have f1 : w.frozen? ⟨g, 1, none⟩ = false := blk_frozen hs 1
  have f2 : w.frozen? ⟨g, 2, none⟩ = false := blk_frozen hs 2
  have f3 : w.frozen? ⟨g, 3, none⟩ = false := blk_frozen hs 3
  have hg : g < w.heap.size := blk_lt hs
  have HB := Aside0.mk (only_refl w (some g))
  have HS := Aside0.mk hs
  clear hs
  go_enter Try.func55, Try.ntmps55
  go_wp2
  go_quiet (fail)
  go_wp2
  go_ret
  exact ⟨rfl, by repeat (with_reducible first | exact HS.out | apply IsSlot.set3 | apply IsSlot.set2 | apply IsSlot.set1 | apply IsSlot.set0 | apply IsSlot.drewN | apply IsSlot.drew | apply IsSlot.alloc), by repeat (with_reducible first | exact HB.out | apply only_drewN | apply only_drew | apply only_setCell | apply only_alloc)⟩

set_option maxHeartbeats 1000000 in
theorem turn_no (a b c d x y : Int) (g : Nat) (w : World) (hs : IsSlot w g a b c d) (h1 : (a != x) = true) : Calls Try.prog 55 #[.agg #[.int .i64 x, .int .i64 y], .pointer (some ⟨g, 0, none⟩)] w fun e w' => e = .returned (.bool false) ∧ IsSlot w' g a b c d ∧ w.grownBy w' (some g) := by
  have c0 : w.cell? ⟨g, 0, none⟩ = some (.int .i64 a) := blk_cell hs 0
  have c1 : w.cell? ⟨g, 1, none⟩ = some (.int .i64 b) := blk_cell hs 1
  have c2 : w.cell? ⟨g, 2, none⟩ = some (.int .i64 c) := blk_cell hs 2
  have c3 : w.cell? ⟨g, 3, none⟩ = some (.int .i64 d) := blk_cell hs 3
  have f0 : w.frozen? ⟨g, 0, none⟩ = false := blk_frozen hs 0
  have f1 : w.frozen? ⟨g, 1, none⟩ = false := blk_frozen hs 1
  have f2 : w.frozen? ⟨g, 2, none⟩ = false := blk_frozen hs 2
  have f3 : w.frozen? ⟨g, 3, none⟩ = false := blk_frozen hs 3
  have hg : g < w.heap.size := blk_lt hs
  have HB := Aside0.mk (only_refl w (some g))
  have HS := Aside0.mk hs
  clear hs
  go_enter Try.func55, Try.ntmps55
  go_wp2
  go_quiet (fail)
  go_wp2
  go_ret
  exact ⟨rfl, by repeat (with_reducible first | exact HS.out | apply IsSlot.set3 | apply IsSlot.set2 | apply IsSlot.set1 | apply IsSlot.set0 | apply IsSlot.drewN | apply IsSlot.drew | apply IsSlot.alloc), by repeat (with_reducible first | exact HB.out | apply only_drewN | apply only_drew | apply only_setCell | apply only_alloc)⟩

set_option maxHeartbeats 1000000 in
theorem on_idle (a b c d : Int) (g : Nat) (w : World) (hs : IsSlot w g a b c d) (h1 : (a == 0) = true) (h2 : decide (0 < c) = false) (h3 : (a == 1) = false) (h4 : (a == 4) = false) : Calls Try.prog 54 #[.pointer (some ⟨g, 0, none⟩)] w fun e w' => e = .returned (.bool false) ∧ IsSlot w' g a b c d ∧ w.grownBy w' (some g) := by
  have c0 : w.cell? ⟨g, 0, none⟩ = some (.int .i64 a) := blk_cell hs 0
  have c1 : w.cell? ⟨g, 1, none⟩ = some (.int .i64 b) := blk_cell hs 1
  have c2 : w.cell? ⟨g, 2, none⟩ = some (.int .i64 c) := blk_cell hs 2
  have c3 : w.cell? ⟨g, 3, none⟩ = some (.int .i64 d) := blk_cell hs 3
  have f0 : w.frozen? ⟨g, 0, none⟩ = false := blk_frozen hs 0
  have f1 : w.frozen? ⟨g, 1, none⟩ = false := blk_frozen hs 1
  have f2 : w.frozen? ⟨g, 2, none⟩ = false := blk_frozen hs 2
  have f3 : w.frozen? ⟨g, 3, none⟩ = false := blk_frozen hs 3
  have hg : g < w.heap.size := blk_lt hs
  have HB := Aside0.mk (only_refl w (some g))
  have HS := Aside0.mk hs
  clear hs
  go_enter Try.func54, Try.ntmps54
  go_wp2
  go_ret
  exact ⟨rfl, by repeat (with_reducible first | exact HS.out | apply IsSlot.set3 | apply IsSlot.set2 | apply IsSlot.set1 | apply IsSlot.set0 | apply IsSlot.drewN | apply IsSlot.drew | apply IsSlot.alloc), by repeat (with_reducible first | exact HB.out | apply only_drewN | apply only_drew | apply only_setCell | apply only_alloc)⟩

set_option maxHeartbeats 1000000 in
theorem on_start (a b c d : Int) (g : Nat) (w : World) (hs : IsSlot w g a b c d) (h1 : (a == 0) = true) (h2 : decide (0 < c) = true) : Calls Try.prog 54 #[.pointer (some ⟨g, 0, none⟩)] w fun e w' => e = .returned (.bool true) ∧ IsSlot w' g 1 c c d ∧ w.grownBy w' (some g) := by
  have c0 : w.cell? ⟨g, 0, none⟩ = some (.int .i64 a) := blk_cell hs 0
  have c1 : w.cell? ⟨g, 1, none⟩ = some (.int .i64 b) := blk_cell hs 1
  have c2 : w.cell? ⟨g, 2, none⟩ = some (.int .i64 c) := blk_cell hs 2
  have c3 : w.cell? ⟨g, 3, none⟩ = some (.int .i64 d) := blk_cell hs 3
  have f0 : w.frozen? ⟨g, 0, none⟩ = false := blk_frozen hs 0
  have f1 : w.frozen? ⟨g, 1, none⟩ = false := blk_frozen hs 1
  have f2 : w.frozen? ⟨g, 2, none⟩ = false := blk_frozen hs 2
  have f3 : w.frozen? ⟨g, 3, none⟩ = false := blk_frozen hs 3
  have hg : g < w.heap.size := blk_lt hs
  have HB := Aside0.mk (only_refl w (some g))
  have HS := Aside0.mk hs
  clear hs
  go_enter Try.func54, Try.ntmps54
  go_wp2
  go_ret
  exact ⟨rfl, by repeat (with_reducible first | exact HS.out | apply IsSlot.set3 | apply IsSlot.set2 | apply IsSlot.set1 | apply IsSlot.set0 | apply IsSlot.drewN | apply IsSlot.drew | apply IsSlot.alloc), by repeat (with_reducible first | exact HB.out | apply only_drewN | apply only_drew | apply only_setCell | apply only_alloc)⟩

set_option maxHeartbeats 1000000 in
theorem on_ready (a b c d : Int) (g : Nat) (w : World) (hs : IsSlot w g a b c d) (h1 : (a == 0) = false) (h3 : (a == 1) = true) : Calls Try.prog 54 #[.pointer (some ⟨g, 0, none⟩)] w fun e w' => e = .returned (.bool true) ∧ IsSlot w' g 2 b c d ∧ w.grownBy w' (some g) := by
  have c0 : w.cell? ⟨g, 0, none⟩ = some (.int .i64 a) := blk_cell hs 0
  have c1 : w.cell? ⟨g, 1, none⟩ = some (.int .i64 b) := blk_cell hs 1
  have c2 : w.cell? ⟨g, 2, none⟩ = some (.int .i64 c) := blk_cell hs 2
  have c3 : w.cell? ⟨g, 3, none⟩ = some (.int .i64 d) := blk_cell hs 3
  have f0 : w.frozen? ⟨g, 0, none⟩ = false := blk_frozen hs 0
  have f1 : w.frozen? ⟨g, 1, none⟩ = false := blk_frozen hs 1
  have f2 : w.frozen? ⟨g, 2, none⟩ = false := blk_frozen hs 2
  have f3 : w.frozen? ⟨g, 3, none⟩ = false := blk_frozen hs 3
  have hg : g < w.heap.size := blk_lt hs
  have HB := Aside0.mk (only_refl w (some g))
  have HS := Aside0.mk hs
  clear hs
  go_enter Try.func54, Try.ntmps54
  go_wp2
  go_ret
  exact ⟨rfl, by repeat (with_reducible first | exact HS.out | apply IsSlot.set3 | apply IsSlot.set2 | apply IsSlot.set1 | apply IsSlot.set0 | apply IsSlot.drewN | apply IsSlot.drew | apply IsSlot.alloc), by repeat (with_reducible first | exact HB.out | apply only_drewN | apply only_drew | apply only_setCell | apply only_alloc)⟩

set_option maxHeartbeats 1000000 in
theorem on_stop (a b c d : Int) (g : Nat) (w : World) (hs : IsSlot w g a b c d) (h1 : (a == 0) = false) (h3 : (a == 1) = false) (h4 : (a == 4) = true) (h5 : (a != 0) = true) : Calls Try.prog 54 #[.pointer (some ⟨g, 0, none⟩)] w fun e w' => e = .returned (.bool true) ∧ IsSlot w' g 0 0 c d ∧ w.grownBy w' (some g) := by
  have c0 : w.cell? ⟨g, 0, none⟩ = some (.int .i64 a) := blk_cell hs 0
  have c1 : w.cell? ⟨g, 1, none⟩ = some (.int .i64 b) := blk_cell hs 1
  have c2 : w.cell? ⟨g, 2, none⟩ = some (.int .i64 c) := blk_cell hs 2
  have c3 : w.cell? ⟨g, 3, none⟩ = some (.int .i64 d) := blk_cell hs 3
  have f0 : w.frozen? ⟨g, 0, none⟩ = false := blk_frozen hs 0
  have f1 : w.frozen? ⟨g, 1, none⟩ = false := blk_frozen hs 1
  have f2 : w.frozen? ⟨g, 2, none⟩ = false := blk_frozen hs 2
  have f3 : w.frozen? ⟨g, 3, none⟩ = false := blk_frozen hs 3
  have hg : g < w.heap.size := blk_lt hs
  have HB := Aside0.mk (only_refl w (some g))
  have HS := Aside0.mk hs
  clear hs
  go_enter Try.func54, Try.ntmps54
  go_wp2
  go_ret
  exact ⟨rfl, by repeat (with_reducible first | exact HS.out | apply IsSlot.set3 | apply IsSlot.set2 | apply IsSlot.set1 | apply IsSlot.set0 | apply IsSlot.drewN | apply IsSlot.drew | apply IsSlot.alloc), by repeat (with_reducible first | exact HB.out | apply only_drewN | apply only_drew | apply only_setCell | apply only_alloc)⟩

set_option maxHeartbeats 1000000 in
theorem on_none (a b c d : Int) (g : Nat) (w : World) (hs : IsSlot w g a b c d) (h1 : (a == 0) = false) (h3 : (a == 1) = false) (h4 : (a == 4) = false) : Calls Try.prog 54 #[.pointer (some ⟨g, 0, none⟩)] w fun e w' => e = .returned (.bool false) ∧ IsSlot w' g a b c d ∧ w.grownBy w' (some g) := by
  have c0 : w.cell? ⟨g, 0, none⟩ = some (.int .i64 a) := blk_cell hs 0
  have c1 : w.cell? ⟨g, 1, none⟩ = some (.int .i64 b) := blk_cell hs 1
  have c2 : w.cell? ⟨g, 2, none⟩ = some (.int .i64 c) := blk_cell hs 2
  have c3 : w.cell? ⟨g, 3, none⟩ = some (.int .i64 d) := blk_cell hs 3
  have f0 : w.frozen? ⟨g, 0, none⟩ = false := blk_frozen hs 0
  have f1 : w.frozen? ⟨g, 1, none⟩ = false := blk_frozen hs 1
  have f2 : w.frozen? ⟨g, 2, none⟩ = false := blk_frozen hs 2
  have f3 : w.frozen? ⟨g, 3, none⟩ = false := blk_frozen hs 3
  have hg : g < w.heap.size := blk_lt hs
  have HB := Aside0.mk (only_refl w (some g))
  have HS := Aside0.mk hs
  clear hs
  go_enter Try.func54, Try.ntmps54
  go_wp2
  go_ret
  exact ⟨rfl, by repeat (with_reducible first | exact HS.out | apply IsSlot.set3 | apply IsSlot.set2 | apply IsSlot.set1 | apply IsSlot.set0 | apply IsSlot.drewN | apply IsSlot.drew | apply IsSlot.alloc), by repeat (with_reducible first | exact HB.out | apply only_drewN | apply only_drew | apply only_setCell | apply only_alloc)⟩
end Go.Proofs.Ytkjaeodnpgpfeaa.S2
