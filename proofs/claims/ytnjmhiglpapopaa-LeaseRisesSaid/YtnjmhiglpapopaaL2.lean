/-
  Proved here: what lease.own, Renew, Drop answer and leave. No condition.
-/
import Derived.Test.YtnjmhiglpapopaaL1
namespace Go.Proofs.Ytnjmhiglpapopaa.L2
open Go.RowKit Go.Proofs.Ytnjmhiglpapopaa.M Go.Proofs.Ytnjmhiglpapopaa.L0 Go.Proofs.Ytnjmhiglpapopaa.L1 Go.Proofs.YtnjmhiglpapopaaW.PrintWords Go.Proofs.YtnjmhiglpapopaaW.PrintLast Go.Proofs.YtnjmhiglpapopaaW.PrintMore
set_option linter.unusedVariables false
set_option linter.unusedSimpArgs false
attribute [local go_sem] max2_int min2_int max_two min_two run_makeMap lv field40

def own (g : ByteArray → Option Le) (n : ByteArray) (a c : Int) : Le × Int :=
  match g n with
  | none => (noLe, 5)
  | some l => if ((l.h == a) && (l.e == c)) = true then (l, 0) else (l, 8)

set_option maxHeartbeats 1000000 in
theorem own_none (b q : Nat) (m : Int) (g : ByteArray → Option Le) (n : ByteArray) (a c : Int) (w : World) (ht : Tab w b q m g) (hg : g n = none) : Calls Try.prog 23 #[.pointer (some ⟨b, 0, none⟩), .string n, .int .i64 a, .int .i64 c] w fun e w' => e = .returned (.tuple #[lv noLe, .int .i64 5]) ∧ Below w.heap.size w w' := by
  have HB := Aside0.mk (Below.refl w.heap.size w)
  have T := Aside0.mk ht
  clear ht
  go_enter Try.func23, Try.ntmps23
  go_wp2_with fail
  refine (get_q b q m g n _ ?hT).mono ?_
  case hT => repeat (with_reducible first | exact T.out | apply Tab.alloc | apply Tab.drewN)
  rw [hg]
  rintro e w1 ⟨rfl, hb1⟩
  have n0 := Aside0.mk (below_step (by repeat (first | (with_reducible first | exact HB.out | apply below_alloc | apply pw_below_drewN | apply below_drew1) | refine below_set ?_ (by omega))) hb1)
  have nT := Aside0.mk (Tab.below (by repeat (with_reducible first | exact T.out | apply Tab.alloc | apply Tab.drewN)) hb1)
  have R : IsBlk w1 (w.heap.size) #[.int .i64 0, .int .i64 0, .int .i64 0] 40 := IsBlk.below (by repeat (first | ((refine IsBlk.new _ _ ?_); (simp; done)) | apply IsBlk.alloc | apply IsBlk.drewN)) hb1
  have R_0 := blk_cell R 0
  have R_1 := blk_cell R 1
  have R_2 := blk_cell R 2
  simp only [List.getElem?_toArray, List.getElem?_cons_zero, List.getElem?_cons_succ] at R_0 R_1 R_2
  have R_z0 := blk_frozen R 0
  have R_z1 := blk_frozen R 1
  have R_z2 := blk_frozen R 2
  have R_l := blk_lt R
  have R_ := Aside0.mk R
  clear R
  clear HB hb1 T
  have HB := n0
  have T := nT
  clear n0 nT
  go_wp2
  exact bodyPost_ret (v := .tuple #[lv noLe, .int .i64 5]) (by simp [results, Try.results23, go_sem, *]) rfl ⟨rfl, by repeat (first | (with_reducible first | exact HB.out | apply below_alloc | apply pw_below_drewN | apply below_drew1) | refine below_set ?_ (by omega))⟩

set_option maxHeartbeats 1000000 in
theorem own_other (b q : Nat) (m : Int) (g : ByteArray → Option Le) (n : ByteArray) (a c : Int) (w : World) (ht : Tab w b q m g) (l : Le) (hg : g n = some l) (x1 x2 : Bool) (hx1 : (l.h == a) = x1) (hx2 : (l.e == c) = x2) (hx : (x1 && x2) = false) : Calls Try.prog 23 #[.pointer (some ⟨b, 0, none⟩), .string n, .int .i64 a, .int .i64 c] w fun e w' => e = .returned (.tuple #[lv l, .int .i64 8]) ∧ Below w.heap.size w w' := by
  cases x1 <;> cases x2 <;> cases hx
  all_goals (
    have HB := Aside0.mk (Below.refl w.heap.size w)
    have T := Aside0.mk ht
    clear ht
    go_enter Try.func23, Try.ntmps23
    go_wp2_with fail
    refine (get_q b q m g n _ ?hT).mono ?_
    case hT => repeat (with_reducible first | exact T.out | apply Tab.alloc | apply Tab.drewN)
    rw [hg]
    rintro e w1 ⟨rfl, hb1⟩
    have n0 := Aside0.mk (below_step (by repeat (first | (with_reducible first | exact HB.out | apply below_alloc | apply pw_below_drewN | apply below_drew1) | refine below_set ?_ (by omega))) hb1)
    have nT := Aside0.mk (Tab.below (by repeat (with_reducible first | exact T.out | apply Tab.alloc | apply Tab.drewN)) hb1)
    have R : IsBlk w1 (w.heap.size) #[.int .i64 0, .int .i64 0, .int .i64 0] 40 := IsBlk.below (by repeat (first | ((refine IsBlk.new _ _ ?_); (simp; done)) | apply IsBlk.alloc | apply IsBlk.drewN)) hb1
    have R_0 := blk_cell R 0
    have R_1 := blk_cell R 1
    have R_2 := blk_cell R 2
    simp only [List.getElem?_toArray, List.getElem?_cons_zero, List.getElem?_cons_succ] at R_0 R_1 R_2
    have R_z0 := blk_frozen R 0
    have R_z1 := blk_frozen R 1
    have R_z2 := blk_frozen R 2
    have R_l := blk_lt R
    have R_ := Aside0.mk R
    clear R
    clear HB hb1 T
    have HB := n0
    have T := nT
    clear n0 nT
    go_wp2
    exact bodyPost_ret (v := .tuple #[lv l, .int .i64 8]) (by simp [results, Try.results23, go_sem, *]) rfl ⟨rfl, by repeat (first | (with_reducible first | exact HB.out | apply below_alloc | apply pw_below_drewN | apply below_drew1) | refine below_set ?_ (by omega))⟩
  )

set_option maxHeartbeats 1000000 in
theorem own_same (b q : Nat) (m : Int) (g : ByteArray → Option Le) (n : ByteArray) (a c : Int) (w : World) (ht : Tab w b q m g) (l : Le) (hg : g n = some l) (hx1 : (l.h == a) = true) (hx2 : (l.e == c) = true) : Calls Try.prog 23 #[.pointer (some ⟨b, 0, none⟩), .string n, .int .i64 a, .int .i64 c] w fun e w' => e = .returned (.tuple #[lv l, .int .i64 0]) ∧ Below w.heap.size w w' := by
  have HB := Aside0.mk (Below.refl w.heap.size w)
  have T := Aside0.mk ht
  clear ht
  go_enter Try.func23, Try.ntmps23
  go_wp2_with fail
  refine (get_q b q m g n _ ?hT).mono ?_
  case hT => repeat (with_reducible first | exact T.out | apply Tab.alloc | apply Tab.drewN)
  rw [hg]
  rintro e w1 ⟨rfl, hb1⟩
  have n0 := Aside0.mk (below_step (by repeat (first | (with_reducible first | exact HB.out | apply below_alloc | apply pw_below_drewN | apply below_drew1) | refine below_set ?_ (by omega))) hb1)
  have nT := Aside0.mk (Tab.below (by repeat (with_reducible first | exact T.out | apply Tab.alloc | apply Tab.drewN)) hb1)
  have R : IsBlk w1 (w.heap.size) #[.int .i64 0, .int .i64 0, .int .i64 0] 40 := IsBlk.below (by repeat (first | ((refine IsBlk.new _ _ ?_); (simp; done)) | apply IsBlk.alloc | apply IsBlk.drewN)) hb1
  have R_0 := blk_cell R 0
  have R_1 := blk_cell R 1
  have R_2 := blk_cell R 2
  simp only [List.getElem?_toArray, List.getElem?_cons_zero, List.getElem?_cons_succ] at R_0 R_1 R_2
  have R_z0 := blk_frozen R 0
  have R_z1 := blk_frozen R 1
  have R_z2 := blk_frozen R 2
  have R_l := blk_lt R
  have R_ := Aside0.mk R
  clear R
  clear HB hb1 T
  have HB := n0
  have T := nT
  clear n0 nT
  go_wp2
  exact bodyPost_ret (v := .tuple #[lv l, .int .i64 0]) (by simp [results, Try.results23, go_sem, *]) rfl ⟨rfl, by repeat (first | (with_reducible first | exact HB.out | apply below_alloc | apply pw_below_drewN | apply below_drew1) | refine below_set ?_ (by omega))⟩

theorem own_q (b q : Nat) (m : Int) (g : ByteArray → Option Le) (n : ByteArray) (a c : Int) (w : World) (ht : Tab w b q m g) : Calls Try.prog 23 #[.pointer (some ⟨b, 0, none⟩), .string n, .int .i64 a, .int .i64 c] w fun e w' => e = .returned (.tuple #[lv (own g n a c).1, .int .i64 (own g n a c).2]) ∧ Below w.heap.size w w' := by
  cases hg : g n with
  | none =>
    have e : own g n a c = (noLe, 5) := by unfold own; rw [hg]
    rw [e]
    exact own_none b q m g n a c w ht hg
  | some l =>
    by_cases hx : ((l.h == a) && (l.e == c)) = true
    · have e : own g n a c = (l, 0) := by unfold own; rw [hg]; exact if_pos hx
      rw [e]
      rw [Bool.and_eq_true] at hx
      exact own_same b q m g n a c w ht l hg hx.1 hx.2
    · have e : own g n a c = (l, 8) := by unfold own; rw [hg]; exact if_neg hx
      rw [e]
      rw [Bool.not_eq_true] at hx
      exact own_other b q m g n a c w ht l hg _ _ rfl rfl hx

end Go.Proofs.Ytnjmhiglpapopaa.L2
