/-
  Proved here: what spec.step answers. No condition.
-/
import Derived.Test.YtloljhopccpeeaaPPlanEndsx1
import Derived.Outline
namespace Go.Proofs.Ytloljhopccpeeaa.B0
open Go.RowKit Go.Proofs.YtloljhopccpeeaaW.PrintWords Go.Proofs.YtloljhopccpeeaaW.PrintLast Go.Proofs.YtloljhopccpeeaaW.PrintMore
set_option linter.unusedVariables false
set_option linter.unusedSimpArgs false
attribute [local go_sem] max2_int min2_int max_two min_two

/-- Block g is these cells, none of them frozen. -/
def IsBlk (w : World) (g : Nat) (cs : Array Value) (t : TypeId) : Prop := w.heap[g]? = some (.cells cs t (0, 0))
theorem IsBlk.below {W w1 : World} {g : Nat} {t : TypeId} {cs : Array Value} (h : IsBlk W g cs t) (hb : Below W.heap.size W w1) : IsBlk w1 g cs t := (hb.block g (blk_lt h)).trans h
theorem IsBlk.alloc {w : World} {g : Nat} {t : TypeId} {cs : Array Value} (h : IsBlk w g cs t) (o : Obj) : IsBlk (w.alloc o) g cs t := (Below.heap_alloc w o g (blk_lt h)).trans h
theorem IsBlk.drewN {w : World} {g : Nat} {t : TypeId} {cs : Array Value} (h : IsBlk w g cs t) (n : Nat) : IsBlk (w.drewN n) g cs t := h
theorem IsBlk.drew {w : World} {g : Nat} {t : TypeId} {cs : Array Value} (h : IsBlk w g cs t) : IsBlk w.drew g cs t := h
theorem IsBlk.far {w : World} {g : Nat} {t : TypeId} {cs : Array Value} (h : IsBlk w g cs t) {p : Addr} (hp : g ≠ p.block) (u : Value) : IsBlk (w.setCell p u) g cs t := blk_far h hp u
theorem IsBlk.new {W : World} {g : Nat} (t : TypeId) (cs : Array Value) (hg : g = W.heap.size) : IsBlk (W.alloc (.cells cs t)) g cs t := by
  subst hg; exact heap_alloc_new W _

theorem ret_bool {a b : Bool} (h : a = b) : Ending.returned (.bool a) = .returned (.bool b) := by rw [h]
/-- A spec. -/
structure Sp where
  v : Int
  d : Int
  s : Int
  u : Int
  st : Int
  s0 : Int
  s1 : Int
  s2 : Int
  s3 : Int
  w : Int
  b : Int
  dl : Int
abbrev spc (x : Sp) : Array Value := #[.int .i64 x.v, .int .i64 x.d, .int .i64 x.s, .int .i64 x.u, .int .i64 x.st, .int .i64 x.s0, .int .i64 x.s1, .int .i64 x.s2, .int .i64 x.s3, .int .i64 x.w, .int .i64 x.b, .int .i64 x.dl]

/-- May a step be: the strategy, itself, the one before; is it not the first? -/
def stepB (st n last : Int) (i : Bool) : Bool :=
  if st ≠ 0 ∨ (i = true ∧ n = 0) then decide (n = 0) else if i = true ∧ last = 0 then false else decide (n > last ∧ n ≤ 100)

set_option maxHeartbeats 2000000 in
theorem step0 (v d s u st s0 s1 s2 s3 p q r : Int) (w : World) : Calls Try.prog 42 #[.agg #[.int .i64 v, .int .i64 d, .int .i64 s, .int .i64 u, .int .i64 st, .int .i64 s0, .int .i64 s1, .int .i64 s2, .int .i64 s3, .int .i64 p, .int .i64 q, .int .i64 r], .int .i64 0] w
    fun e w' => e = .returned (.bool (stepB st s0 0 false)) ∧ Below w.heap.size w w' := by
  have HB := Aside0.mk (Below.refl w.heap.size w)
  obtain ⟨z, hz⟩ : ∃ z, stepB st s0 0 false = z := ⟨_, rfl⟩
  rw [hz]
  have HZ := Aside0.mk hz
  clear hz
  go_enter Try.func42, Try.ntmps42
  go_wp2
  all_goals
    go_ret
    refine ⟨ret_bool (Bool.eq_iff_iff.2 ?_), by repeat (first | (with_reducible first | exact HB.out | apply below_alloc | apply pw_below_drewN | apply below_drew1) | refine below_set ?_ (by omega))⟩
    rw [← HZ.out]
    clear HB HZ
    unfold stepB
    (repeat' split) <;> simp_all <;> omega

set_option maxHeartbeats 2000000 in
theorem step1 (v d s u st s0 s1 s2 s3 p q r : Int) (w : World) : Calls Try.prog 42 #[.agg #[.int .i64 v, .int .i64 d, .int .i64 s, .int .i64 u, .int .i64 st, .int .i64 s0, .int .i64 s1, .int .i64 s2, .int .i64 s3, .int .i64 p, .int .i64 q, .int .i64 r], .int .i64 1] w
    fun e w' => e = .returned (.bool (stepB st s1 s0 true)) ∧ Below w.heap.size w w' := by
  have HB := Aside0.mk (Below.refl w.heap.size w)
  obtain ⟨z, hz⟩ : ∃ z, stepB st s1 s0 true = z := ⟨_, rfl⟩
  rw [hz]
  have HZ := Aside0.mk hz
  clear hz
  go_enter Try.func42, Try.ntmps42
  go_wp2
  all_goals
    go_ret
    refine ⟨ret_bool (Bool.eq_iff_iff.2 ?_), by repeat (first | (with_reducible first | exact HB.out | apply below_alloc | apply pw_below_drewN | apply below_drew1) | refine below_set ?_ (by omega))⟩
    rw [← HZ.out]
    clear HB HZ
    unfold stepB
    (repeat' split) <;> simp_all <;> omega

set_option maxHeartbeats 2000000 in
theorem step2 (v d s u st s0 s1 s2 s3 p q r : Int) (w : World) : Calls Try.prog 42 #[.agg #[.int .i64 v, .int .i64 d, .int .i64 s, .int .i64 u, .int .i64 st, .int .i64 s0, .int .i64 s1, .int .i64 s2, .int .i64 s3, .int .i64 p, .int .i64 q, .int .i64 r], .int .i64 2] w
    fun e w' => e = .returned (.bool (stepB st s2 s1 true)) ∧ Below w.heap.size w w' := by
  have HB := Aside0.mk (Below.refl w.heap.size w)
  obtain ⟨z, hz⟩ : ∃ z, stepB st s2 s1 true = z := ⟨_, rfl⟩
  rw [hz]
  have HZ := Aside0.mk hz
  clear hz
  go_enter Try.func42, Try.ntmps42
  go_wp2
  all_goals
    go_ret
    refine ⟨ret_bool (Bool.eq_iff_iff.2 ?_), by repeat (first | (with_reducible first | exact HB.out | apply below_alloc | apply pw_below_drewN | apply below_drew1) | refine below_set ?_ (by omega))⟩
    rw [← HZ.out]
    clear HB HZ
    unfold stepB
    (repeat' split) <;> simp_all <;> omega

set_option maxHeartbeats 2000000 in
theorem step3 (v d s u st s0 s1 s2 s3 p q r : Int) (w : World) : Calls Try.prog 42 #[.agg #[.int .i64 v, .int .i64 d, .int .i64 s, .int .i64 u, .int .i64 st, .int .i64 s0, .int .i64 s1, .int .i64 s2, .int .i64 s3, .int .i64 p, .int .i64 q, .int .i64 r], .int .i64 3] w
    fun e w' => e = .returned (.bool (stepB st s3 s2 true)) ∧ Below w.heap.size w w' := by
  have HB := Aside0.mk (Below.refl w.heap.size w)
  obtain ⟨z, hz⟩ : ∃ z, stepB st s3 s2 true = z := ⟨_, rfl⟩
  rw [hz]
  have HZ := Aside0.mk hz
  clear hz
  go_enter Try.func42, Try.ntmps42
  go_wp2
  all_goals
    go_ret
    refine ⟨ret_bool (Bool.eq_iff_iff.2 ?_), by repeat (first | (with_reducible first | exact HB.out | apply below_alloc | apply pw_below_drewN | apply below_drew1) | refine below_set ?_ (by omega))⟩
    rw [← HZ.out]
    clear HB HZ
    unfold stepB
    (repeat' split) <;> simp_all <;> omega
end Go.Proofs.Ytloljhopccpeeaa.B0
