/-
  Proved here: what the reference's New, Own answer. No condition.
-/
import Derived.Test.YtkjaeodnpgpfeaaV0
import Derived.Deep.QuietTactic
import Derived.BigQuiet
import Derived.Laws.ResultCell
namespace Go.Proofs.Ytkjaeodnpgpfeaa.V1
open Go.RowKit Go.Maps Go.Sort Go.Shelf Go.Proofs.Ytkjaeodnpgpfeaa.M Go.Proofs.Ytkjaeodnpgpfeaa.S0 Go.Proofs.Ytkjaeodnpgpfeaa.S4 Go.Proofs.Ytkjaeodnpgpfeaa.W0 Go.Proofs.YtkjaeodnpgpfeaaW.PrintWords Go.Proofs.YtkjaeodnpgpfeaaW.PrintLast Go.Proofs.YtkjaeodnpgpfeaaW.PrintMore Go.Proofs.Ytkjaeodnpgpfeaa.W1 Go.Proofs.Ytkjaeodnpgpfeaa.W2 Go.Proofs.Ytkjaeodnpgpfeaa.W3 Go.Proofs.Ytkjaeodnpgpfeaa.W4 Go.Proofs.Ytkjaeodnpgpfeaa.W5 Go.Proofs.Ytkjaeodnpgpfeaa.V0
set_option linter.unusedVariables false
set_option linter.unusedSimpArgs false
attribute [local go_sem] max2_int min2_int max_two min_two run_makeMap

def ownB (n m k : Int) : Bool := decide (0 ≤ k) && decide (k ≤ 15) && decide (k % m = n)
theorem own_a (n m seen : Int) (h : Nat → Sl) (k : Int) (w : World) (t1 : decide (0 ≤ k) = false) : Calls Try.prog 38 #[.agg (rv n m seen h), .int .i64 k] w fun e w' => e = .returned (.bool false) ∧ Below w.heap.size w w' := by
  have HB := Aside0.mk (Below.refl w.heap.size w)
  go_enter Try.func38, Try.ntmps38
  go_wp2
  go_quiet (fail)
  go_wp2
  go_ret
  exact ⟨rfl, by repeat (first | (with_reducible first | exact HB.out | apply below_alloc | apply pw_below_drewN | apply below_drew1) | refine below_set ?_ (by omega))⟩
theorem own_b (n m seen : Int) (h : Nat → Sl) (k : Int) (w : World) (t1 : decide (0 ≤ k) = true) (t2 : decide (k ≤ 15) = false) : Calls Try.prog 38 #[.agg (rv n m seen h), .int .i64 k] w fun e w' => e = .returned (.bool false) ∧ Below w.heap.size w w' := by
  have HB := Aside0.mk (Below.refl w.heap.size w)
  go_enter Try.func38, Try.ntmps38
  go_wp2
  go_quiet (fail)
  go_wp2
  go_ret
  exact ⟨rfl, by repeat (first | (with_reducible first | exact HB.out | apply below_alloc | apply pw_below_drewN | apply below_drew1) | refine below_set ?_ (by omega))⟩
theorem own_c (n m seen : Int) (h : Nat → Sl) (k r : Int) (x : Bool) (w : World) (h0 : 0 ≤ k) (t1 : decide (0 ≤ k) = true) (t2 : decide (k ≤ 15) = true) (hm : 1 ≤ m) (hr : k.tmod m = r) (hw : wrap64 r = r) (t3 : (r == n) = x) : Calls Try.prog 38 #[.agg (rv n m seen h), .int .i64 k] w fun e w' => e = .returned (.bool x) ∧ Below w.heap.size w w' := by
  have HB := Aside0.mk (Below.refl w.heap.size w)
  have hm0 : (m == 0) = false := by simp; omega
  have hw2 : IntKind.i64.wrap r = r := by rw [i64_w]; exact hw
  clear h0
  go_enter Try.func38, Try.ntmps38
  go_wp2
  have R : IsBlk (w.alloc (.cells (rv n m seen h) 47)) w.heap.size (rv n m seen h) 47 := IsBlk.new _ _ rfl
  have HB' : Aside0 (Below w.heap.size w (w.alloc (.cells (rv n m seen h) 47))) := ⟨below_alloc HB.out _⟩
  clear HB
  generalize (w.alloc (.cells (rv n m seen h) 47)) = w1 at *
  have HB := HB'
  clear HB'
  have R_0 := (blk_cell R 0).trans (rv_0 n m seen h)
  have R_1 := (blk_cell R 1).trans (rv_1 n m seen h)
  have R_2 := (blk_cell R 2).trans (rv_2 n m seen h)
  clear R
  go_quiet (fail)
  go_wp2
  go_ret
  exact ⟨rfl, by repeat (first | (with_reducible first | exact HB.out | apply below_alloc | apply pw_below_drewN | apply below_drew1) | refine below_set ?_ (by omega))⟩
theorem own_q (n m seen : Int) (h : Nat → Sl) (k : Int) (w : World) (hm : 1 ≤ m) (hm2 : m ≤ 16) : Calls Try.prog 38 #[.agg (rv n m seen h), .int .i64 k] w fun e w' => e = .returned (.bool (ownB n m k)) ∧ Below w.heap.size w w' := by
  unfold ownB
  by_cases h1 : 0 ≤ k
  · by_cases h2 : k ≤ 15
    · rw [decide_eq_true h1, decide_eq_true h2]
      have e : k.tmod m = k % m := Int.tmod_eq_emod_of_nonneg h1
      have hb := Int.emod_nonneg k (show m ≠ 0 by omega)
      have hb2 := Int.emod_lt_of_pos k (show 0 < m by omega)
      have he : (k % m == n) = decide (k % m = n) := rfl
      exact own_c n m seen h k _ _ w h1 (decide_eq_true h1) (decide_eq_true h2) hm e (wrap64_eq (by omega) (by omega)) he
    · rw [decide_eq_true h1, decide_eq_false h2]
      exact own_b n m seen h k w (decide_eq_true h1) (decide_eq_false h2)
  · rw [decide_eq_false h1]
    exact own_a n m seen h k w (decide_eq_false h1)
theorem loadW {w : World} {b : Nat} {cs : Array Value} (hb : IsBlk w b cs 47) (hs : cs.size = 67) : (loadVar 47 ⟨b, 0, none⟩).run Try.prog w = .ok (.agg cs) w := by
  have h := run_loadVar_mid (P := Try.prog) w b 0 47 cs.toList _ (range_of hb) Try.underlying47 rfl (by rw [infoW]; simp [hs])
  rwa [Array.toArray_toList] at h
theorem below_of_new {a w w1 : World} {g n : Nat} (h : Below n a w) (hg : w.grownBy w1 (some g)) (hn : n ≤ g) (hs : n ≤ w.heap.size) : Below n a w1 :=
  ⟨hg.os.trans h.os, hg.tape.trans h.tape, hg.output.trans h.output, Nat.le_trans h.size hg.size, fun i hi => (hg.block i (by omega) (by simp; omega)).trans (h.block i hi)⟩
/-- The end of a function that gives a record and one value more. -/
theorem retW {fn : Func} {p u : Tmp} {R : Ending → World → Prop} {a : Act} {w : World} (hres : fn.results = #[.cell p 47, .tmp u]) (b : Nat) (cs : Array Value) (v : Value) (hp : a.tmps.getD p undef = .pointer (some ⟨b, 0, none⟩)) (hu : a.tmps.getD u undef = v) (hb : IsBlk w b cs 47) (hs : cs.size = 67) (hd : a.defers = [])
    (hR : R (.returned (.tuple #[.agg cs, v])) w) : bodyPost Try.prog fn R .ret a w := by
  refine bodyPost_ret (v := .tuple #[.agg cs, v]) ?_ hd hR
  rw [results_cell_tmp hres, hp, hu]
  have e : (asAddr (.pointer (some ⟨b, 0, none⟩))).run Try.prog w = .ok ⟨b, 0, none⟩ w := rfl
  rw [e]
  simp only [Result.andThen_ok, loadW hb hs]

/-! ### New -/
set_option maxRecDepth 100000 in
theorem z67_is : Try.zeroCells47 = rv 0 0 0 fun _ => zs := by kernel_rfl
theorem z67_size : Try.zeroCells47.size = 67 := by rw [z67_is, rv_size]
theorem new16_build (n m : Int) : (Try.zeroCells47.setIfInBounds 0 (.int .i64 n)).setIfInBounds 1 (.int .i64 m) = rv n m 0 fun _ => zs := by
  rw [z67_is]
  refine Array.ext_getElem? fun i => ?_
  simp only [Array.getElem?_setIfInBounds, Array.size_setIfInBounds, rv_size]
  by_cases hi : i < 67
  · rw [rv_get _ _ _ _ i hi, rv_get _ _ _ _ i hi]
    by_cases e1 : 1 = i
    · subst e1; rfl
    · rw [if_neg e1]
      by_cases e0 : 0 = i
      · subst e0; rfl
      · rw [if_neg e0]
        unfold rcell
        have e1' : ¬ i = 1 := fun x => e1 x.symm
        have e0' : ¬ i = 0 := fun x => e0 x.symm
        rw [if_neg e0', if_neg e0', if_neg e1', if_neg e1']
  · rw [rv_out _ _ _ _ i (by omega), rv_out _ _ _ _ i (by omega)]
    rw [if_neg (by omega), if_neg (by omega)]
theorem new16_q (n m : Int) (w : World) (h1 : 1 ≤ m) (h2 : m ≤ 16) (h3 : 0 ≤ n) (h4 : n < m) : Calls Try.prog 16 #[.int .i64 n, .int .i64 m] w fun e w' => e = .returned (.tuple #[.agg (rv n m 0 fun _ => zs), .int .i64 0]) ∧ Below w.heap.size w w' := by
  have t1 : decide (m < 1) = false := decide_eq_false (by omega)
  have t2 : decide (16 < m) = false := decide_eq_false (by omega)
  have t3 : decide (n < 0) = false := decide_eq_false (by omega)
  have t4 : decide (m ≤ n) = false := decide_eq_false (by omega)
  clear h1 h2 h3 h4
  have HB := Aside0.mk (Below.refl w.heap.size w)
  go_enter Try.func16, Try.ntmps16
  go_wp2_with ((with_reducible refine wpList_storeW w.heap.size Try.zeroCells47 (rv n m 0 fun _ => zs) ?_ ?_ ?_ z67_size (rv_size _ _ _ _) (rv_one _ _ _ _) ?_); rfl; exact congrArg Value.agg (new16_build n m); exact IsBlk.new _ _ rfl; intro w1 hb1 hg)
  refine retW Try.results16 w.heap.size (rv n m 0 fun _ => zs) _ rfl rfl hb1 (rv_size _ _ _ _) rfl ⟨rfl, ?_⟩
  exact below_of_new (below_alloc HB.out _) hg (Nat.le_refl _) (by simp)
theorem new16_no (n m : Int) (w : World) (x1 x2 x3 x4 : Bool) (h1 : decide (m < 1) = x1) (h2 : decide (16 < m) = x2) (h3 : decide (n < 0) = x3) (h4 : decide (m ≤ n) = x4) (hx : (x1 || x2 || x3 || x4) = true) : Calls Try.prog 16 #[.int .i64 n, .int .i64 m] w fun e w' => e = .returned (.tuple #[.agg (rv 0 0 0 fun _ => zs), .int .i64 1]) ∧ Below w.heap.size w w' := by
  cases x1 <;> cases x2 <;> cases x3 <;> cases x4 <;> cases hx
  all_goals (
    have HB := Aside0.mk (Below.refl w.heap.size w)
    go_enter Try.func16, Try.ntmps16
    go_wp2_with ((with_reducible refine wpList_storeW w.heap.size Try.zeroCells47 (rv 0 0 0 fun _ => zs) ?_ ?_ ?_ z67_size (rv_size _ _ _ _) (rv_one _ _ _ _) ?_); rfl; exact congrArg Value.agg z67_is; exact IsBlk.new _ _ rfl; intro w1 hb1 hg)
    refine retW Try.results16 w.heap.size (rv 0 0 0 fun _ => zs) _ rfl rfl hb1 (rv_size _ _ _ _) rfl ⟨rfl, ?_⟩
    exact below_of_new (below_alloc HB.out _) hg (Nat.le_refl _) (by simp))
end Go.Proofs.Ytkjaeodnpgpfeaa.V1
