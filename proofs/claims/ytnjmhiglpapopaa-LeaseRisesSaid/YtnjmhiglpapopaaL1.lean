/-
  Proved here: what lease.New, Take answer and leave. No condition.
-/
import Derived.Test.YtnjmhiglpapopaaL0
import Derived.StillTailTactics
import Derived.Carry
namespace Go.Proofs.Ytnjmhiglpapopaa.L1
open Go.RowKit Go.Proofs.Ytnjmhiglpapopaa.M Go.Proofs.Ytnjmhiglpapopaa.L0 Go.Proofs.YtnjmhiglpapopaaW.PrintWords Go.Proofs.YtnjmhiglpapopaaW.PrintLast Go.Proofs.YtnjmhiglpapopaaW.PrintMore
set_option linter.unusedVariables false
set_option linter.unusedSimpArgs false
attribute [local go_sem] max2_int min2_int max_two min_two run_makeMap lv

def cut (n : Int) : Int := mn (mx n 0) 1048576
theorem cut_q (n : Int) (w : World) : Calls Try.prog 20 #[.int .i64 n] w fun e w' => e = .returned (.int .i64 (cut n)) ∧ w' = w := by
  obtain ⟨x, hx⟩ : ∃ x, mx n 0 = x := ⟨_, rfl⟩
  obtain ⟨y, hy⟩ : ∃ y, mn x 1048576 = y := ⟨_, rfl⟩
  have e : cut n = y := by unfold cut; rw [hx, hy]
  have hx_ : (if n < 0 then 0 else n) = x := hx
  have hy_ : (if 1048576 < x then 1048576 else x) = y := hy
  rw [e]
  clear e hx hy
  go_enter Try.func20, Try.ntmps20
  go_wp2
  go_ret
  exact ⟨rfl, rfl⟩

theorem new_q (n : Int) (w : World) : Calls Try.prog 9 #[.int .i64 n] w fun e w' => e = .returned (.pointer (some ⟨w.heap.size + 1, 0, none⟩)) ∧ Tab w' (w.heap.size + 1) w.heap.size (cut n) (fun _ => none) ∧ Below w.heap.size w w' ∧ w'.heap.size = w.heap.size + 2 := by
  have HB := Aside0.mk (Below.refl w.heap.size w)
  go_enter Try.func9, Try.ntmps9
  go_wp2_with (go_at_call 20; refine (cut_q _ _).mono ?_; rintro e w1 ⟨rfl, rfl⟩)
  go_ret
  refine ⟨rfl, ⟨?_, ?_⟩, by repeat (first | (with_reducible first | exact HB.out | apply below_alloc)), ?_⟩
  · exact IsBlk.new _ _ (by simp)
  · exact (MapIs.made w1 enc .string).alloc _
  · simp

def right (n : ByteArray) (h now ttl : Int) : Bool := n.toList != [] && decide ((n.size : Int) ≤ 16) && decide (0 ≤ h) && decide (h < 64) && decide (0 ≤ now) && decide (now ≤ 1099511627776) && decide (1 ≤ ttl) && decide (ttl ≤ 1048576)
theorem right_q (n : ByteArray) (h now ttl : Int) (w : World) : Calls Try.prog 21 #[.string n, .int .i64 h, .int .i64 now, .int .i64 ttl] w fun e w' => e = .returned (.bool (right n h now ttl)) ∧ Below w.heap.size w w' := by
  refine (PLeaseMargin.lease_right.calls n h now ttl (right n h now ttl) w ?_).mono ?_
  · unfold PLeaseMargin.lease_right.f right
    (repeat' split) <;> simp_all <;> omega
  · rintro e w' ⟨rfl, hd⟩
    exact ⟨rfl, hd.below⟩


theorem field40 (x y z : Value) (w : World) : (Instr.field 40 (.agg #[x, y, z]) 1).run Try.prog w = .ok y w := by
  simp [Instr.field, run_underlying Try.underlying40, part, asAgg, Result.andThen]
attribute [local go_sem] field40

def upd (g : ByteArray → Option Le) (n : ByteArray) (l : Le) : ByteArray → Option Le := fun k => if k = n then some l else g k
theorem put_lv (g : ByteArray → Option Le) (n : ByteArray) (l : Le) : put (fun k => (g k).map lv) n (lv l) = fun k => (upd g n l k).map lv := by
  funext k
  unfold put upd
  split <;> rfl
theorem below_grownBy {w w' : World} (h : Below w.heap.size w w') (row : Option Nat) : w.grownBy w' row := ⟨h.os, h.tape, h.output, h.size, fun k hk _ => h.block k hk⟩

theorem grown_then {w w2 w3 : World} {q : Nat} (h : Below w.heap.size w w2) (hg : w2.grownBy w3 (some q)) : w.grownBy w3 (some q) :=
  ⟨hg.os.trans h.os, hg.tape.trans h.tape, hg.output.trans h.output, Nat.le_trans h.size hg.size, fun k hk hne => (hg.block k (Nat.lt_of_lt_of_le hk h.size) hne).trans (h.block k hk)⟩
theorem IsBlk.grownBy {w w1 : World} {b q : Nat} {cs : Array Value} {t : TypeId} (h : IsBlk w b cs t) (hg : w.grownBy w1 (some q)) (hne : b ≠ q) : IsBlk w1 b cs t := (hg.block b (blk_lt h) (by simpa using hne)).trans h

set_option maxHeartbeats 1000000 in
theorem take_arg (b q : Nat) (m : Int) (g : ByteArray → Option Le) (n : ByteArray) (h now ttl : Int) (w : World) (hr : right n h now ttl = false) :
    Calls Try.prog 10 #[.pointer (some ⟨b, 0, none⟩), .string n, .int .i64 h, .int .i64 now, .int .i64 ttl] w fun e w' => e = .returned (.tuple #[.int .i64 0, .int .i64 1]) ∧ Below w.heap.size w w' := by
  have HB := Aside0.mk (Below.refl w.heap.size w)
  go_enter Try.func10, Try.ntmps10
  go_wp2_with fail
  refine (right_q n h now ttl _).mono ?_
  rw [hr]
  rintro e w1 ⟨rfl, hb1⟩
  have n0 := Aside0.mk (below_step (by repeat (first | (with_reducible first | exact HB.out | apply below_alloc) | refine below_set ?_ (by omega))) hb1)
  clear HB hb1
  have HB := n0
  clear n0
  go_wp2
  exact bodyPost_ret (v := .tuple #[.int .i64 0, .int .i64 1]) (by simp [results, Try.results10, go_sem]) rfl ⟨rfl, by repeat (first | (with_reducible first | exact HB.out | apply below_alloc | apply pw_below_drewN | apply below_drew1) | refine below_set ?_ (by omega))⟩

set_option maxHeartbeats 1000000 in
theorem take_held (b q : Nat) (m : Int) (g : ByteArray → Option Le) (n : ByteArray) (h now ttl : Int) (w : World) (ht : Tab w b q m g) (hr : right n h now ttl = true) (hf : free g m n now = false) :
    Calls Try.prog 10 #[.pointer (some ⟨b, 0, none⟩), .string n, .int .i64 h, .int .i64 now, .int .i64 ttl] w fun e w' => e = .returned (.tuple #[.int .i64 0, .int .i64 9]) ∧ Below w.heap.size w w' := by
  have HB := Aside0.mk (Below.refl w.heap.size w)
  have T0 := Aside0.mk ht
  clear ht
  go_enter Try.func10, Try.ntmps10
  go_wp2_with fail
  refine (right_q n h now ttl _).mono ?_
  rw [hr]
  rintro e w1 ⟨rfl, hb1⟩
  have n0 := Aside0.mk (below_step (by repeat (first | (with_reducible first | exact HB.out | apply below_alloc) | refine below_set ?_ (by omega))) hb1)
  have T1 := Aside0.mk (T0.out.below hb1)
  clear HB hb1 T0
  have HB := n0
  clear n0
  go_wp2_with fail
  refine (free_q b q m g n _ _ T1.out).mono ?_
  rw [hf]
  rintro e w2 ⟨rfl, hb1⟩
  have n0 := Aside0.mk (below_step (by repeat (first | (with_reducible first | exact HB.out | apply below_alloc) | refine below_set ?_ (by omega))) hb1)
  clear HB hb1
  have HB := n0
  clear n0
  go_wp2
  exact bodyPost_ret (v := .tuple #[.int .i64 0, .int .i64 9]) (by simp [results, Try.results10, go_sem]) rfl ⟨rfl, by repeat (first | (with_reducible first | exact HB.out | apply below_alloc | apply pw_below_drewN | apply below_drew1) | refine below_set ?_ (by omega))⟩

set_option maxHeartbeats 1000000 in
theorem take_ok (b q : Nat) (m : Int) (g : ByteArray → Option Le) (n : ByteArray) (h now ttl : Int) (w : World) (ht : Tab w b q m g) (hr : right n h now ttl = true) (hf : free g m n now = true) (e0 : Int) (he : wrap64 (((g n).getD noLe).e + 1) = e0) :
    Calls Try.prog 10 #[.pointer (some ⟨b, 0, none⟩), .string n, .int .i64 h, .int .i64 now, .int .i64 ttl] w fun e w' => e = .returned (.tuple #[.int .i64 e0, .int .i64 0]) ∧ Tab w' b q m (upd g n ⟨h, e0, late now ttl⟩) ∧ w.grownBy w' (some q) := by
  have HB := Aside0.mk (Below.refl w.heap.size w)
  have T0 := Aside0.mk ht
  clear ht
  go_enter Try.func10, Try.ntmps10
  go_wp2_with fail
  refine (right_q n h now ttl _).mono ?_
  rw [hr]
  rintro e w1 ⟨rfl, hb1⟩
  have n0 := Aside0.mk (below_step (by repeat (first | (with_reducible first | exact HB.out | apply below_alloc) | refine below_set ?_ (by omega))) hb1)
  have T1 := Aside0.mk (T0.out.below hb1)
  clear HB hb1 T0
  have HB := n0
  clear n0
  go_wp2_with fail
  refine (free_q b q m g n _ _ T1.out).mono ?_
  rw [hf]
  rintro e w2 ⟨rfl, hb1⟩
  have n0 := Aside0.mk (below_step (by repeat (first | (with_reducible first | exact HB.out | apply below_alloc) | refine below_set ?_ (by omega))) hb1)
  have T2 := Aside0.mk (T1.out.below hb1)
  clear HB hb1 T1
  have HB := n0
  clear n0
  have hl := blk_lt T2.out.blk
  have hc0 := blk_cell T2.out.blk 0
  have hc1 := blk_cell T2.out.blk 1
  have hu40 := Try.underlying40
  simp only [List.getElem?_toArray, List.getElem?_cons_zero, List.getElem?_cons_succ] at hc0 hc1
  go_wp2_with (at_lookup; refine wpList_look (f := fun k => (g k).map lv) (b := q) (enc := enc) _ rfl _ _ 49 rfl coded_string Try.underlying49 Try.underlying9 _ (zero40 _) rfl T2.out.map n rfl ?_)
  refine wp_region_still_tail 11 (by kernel_rfl) (by kernel_rfl) ?_
  simp only [List.take_succ_cons, List.take_zero, List.drop_succ_cons, List.drop_zero]
  repeat still_step
  still_call (late_q _ _ _)
  repeat still_step
  refine wpStill_nil ?_
  refine wpList_store _ rfl _ _ _ 49 rfl coded_string Try.underlying49 Try.underlying9 rfl (h := T2.out.map.drew) n rfl (lv ⟨h, e0, late now ttl⟩) rfl ?_
  intro w3 hM3 hg3
  rw [put_lv] at hM3
  have B3 := IsBlk.grownBy (T2.out.blk.drew) hg3 T2.out.ne
  have G3 := grown_then (below_drew1 HB.out) hg3
  go_wp2
  exact bodyPost_ret (v := .tuple #[.int .i64 e0, .int .i64 0]) (by simp [results, Try.results10, go_sem]) rfl ⟨rfl, ⟨B3, hM3⟩, G3⟩
end Go.Proofs.Ytnjmhiglpapopaa.L1
