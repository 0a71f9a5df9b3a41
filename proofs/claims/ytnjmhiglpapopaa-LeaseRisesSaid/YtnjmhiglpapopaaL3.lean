/-
  Proved here: what lease.Renew, Drop answer and leave. No condition.
-/
import Derived.Test.YtnjmhiglpapopaaL2
namespace Go.Proofs.Ytnjmhiglpapopaa.L3
open Go.RowKit Go.Proofs.Ytnjmhiglpapopaa.M Go.Proofs.Ytnjmhiglpapopaa.L0 Go.Proofs.Ytnjmhiglpapopaa.L1 Go.Proofs.Ytnjmhiglpapopaa.L2 Go.Proofs.YtnjmhiglpapopaaW.PrintWords Go.Proofs.YtnjmhiglpapopaaW.PrintLast Go.Proofs.YtnjmhiglpapopaaW.PrintMore
set_option linter.unusedVariables false
set_option linter.unusedSimpArgs false
attribute [local go_sem] max2_int min2_int max_two min_two run_makeMap lv field40

set_option maxHeartbeats 1000000 in
theorem renew_arg (b q : Nat) (m : Int) (g : ByteArray → Option Le) (n : ByteArray) (a c now ttl : Int) (w : World) (ht : Tab w b q m g) (hr : right n a now ttl = false) : Calls Try.prog 15 #[.pointer (some ⟨b, 0, none⟩), .string n, .int .i64 a, .int .i64 c, .int .i64 now, .int .i64 ttl] w fun e w' => e = .returned (.tuple #[.int .i64 0, .int .i64 1]) ∧ Below w.heap.size w w' := by
  have HB := Aside0.mk (Below.refl w.heap.size w)
  have T := Aside0.mk ht
  clear ht
  go_enter Try.func15, Try.ntmps15
  go_wp2_with fail
  refine (right_q n a now ttl _).mono ?_
  rw [hr]
  rintro e w1 ⟨rfl, hb1⟩
  have n0 := Aside0.mk (below_step (by repeat (first | (with_reducible first | exact HB.out | apply below_alloc | apply pw_below_drewN | apply below_drew1) | refine below_set ?_ (by omega))) hb1)
  have nT := Aside0.mk (Tab.below (by repeat (with_reducible first | exact T.out | apply Tab.alloc | apply Tab.drewN)) hb1)
  clear HB hb1 T
  have HB := n0
  have T := nT
  clear n0 nT
  go_wp2
  exact bodyPost_ret (v := .tuple #[.int .i64 0, .int .i64 1]) (by simp [results, Try.results15, go_sem, *]) rfl ⟨rfl, by repeat (first | (with_reducible first | exact HB.out | apply below_alloc | apply pw_below_drewN | apply below_drew1) | refine below_set ?_ (by omega))⟩

set_option maxHeartbeats 1000000 in
theorem renew_own (b q : Nat) (m : Int) (g : ByteArray → Option Le) (n : ByteArray) (a c now ttl : Int) (w : World) (ht : Tab w b q m g) (hr : right n a now ttl = true) (x : Int) (h1 e1 u1 : Int) (ho : own g n a c = (⟨h1, e1, u1⟩, x)) (hx : (x == 0) = false) : Calls Try.prog 15 #[.pointer (some ⟨b, 0, none⟩), .string n, .int .i64 a, .int .i64 c, .int .i64 now, .int .i64 ttl] w fun e w' => e = .returned (.tuple #[.int .i64 0, .int .i64 x]) ∧ Below w.heap.size w w' := by
  have HB := Aside0.mk (Below.refl w.heap.size w)
  have T := Aside0.mk ht
  clear ht
  go_enter Try.func15, Try.ntmps15
  go_wp2_with fail
  refine (right_q n a now ttl _).mono ?_
  rw [hr]
  rintro e w1 ⟨rfl, hb1⟩
  have n0 := Aside0.mk (below_step (by repeat (first | (with_reducible first | exact HB.out | apply below_alloc | apply pw_below_drewN | apply below_drew1) | refine below_set ?_ (by omega))) hb1)
  have nT := Aside0.mk (Tab.below (by repeat (with_reducible first | exact T.out | apply Tab.alloc | apply Tab.drewN)) hb1)
  clear HB hb1 T
  have HB := n0
  have T := nT
  clear n0 nT
  go_wp2_with fail
  refine (own_q b q m g n a c _ ?hT).mono ?_
  case hT => repeat (with_reducible first | exact T.out | apply Tab.alloc | apply Tab.drewN)
  rw [ho]
  rintro e w2 ⟨rfl, hb1⟩
  have n0 := Aside0.mk (below_step (by repeat (first | (with_reducible first | exact HB.out | apply below_alloc | apply pw_below_drewN | apply below_drew1) | refine below_set ?_ (by omega))) hb1)
  have nT := Aside0.mk (Tab.below (by repeat (with_reducible first | exact T.out | apply Tab.alloc | apply Tab.drewN)) hb1)
  clear HB hb1 T
  have HB := n0
  have T := nT
  clear n0 nT
  go_wp2
  exact bodyPost_ret (v := .tuple #[.int .i64 0, .int .i64 x]) (by simp [results, Try.results15, go_sem, *]) rfl ⟨rfl, by repeat (first | (with_reducible first | exact HB.out | apply below_alloc | apply pw_below_drewN | apply below_drew1) | refine below_set ?_ (by omega))⟩

set_option maxHeartbeats 1000000 in
theorem renew_late (b q : Nat) (m : Int) (g : ByteArray → Option Le) (n : ByteArray) (a c now ttl : Int) (w : World) (ht : Tab w b q m g) (hr : right n a now ttl = true) (h1 e1 u1 : Int) (ho : own g n a c = (⟨h1, e1, u1⟩, 0)) (hh : holds g n a c now = false) : Calls Try.prog 15 #[.pointer (some ⟨b, 0, none⟩), .string n, .int .i64 a, .int .i64 c, .int .i64 now, .int .i64 ttl] w fun e w' => e = .returned (.tuple #[.int .i64 0, .int .i64 9]) ∧ Below w.heap.size w w' := by
  have HB := Aside0.mk (Below.refl w.heap.size w)
  have T := Aside0.mk ht
  clear ht
  go_enter Try.func15, Try.ntmps15
  go_wp2_with fail
  refine (right_q n a now ttl _).mono ?_
  rw [hr]
  rintro e w1 ⟨rfl, hb1⟩
  have n0 := Aside0.mk (below_step (by repeat (first | (with_reducible first | exact HB.out | apply below_alloc | apply pw_below_drewN | apply below_drew1) | refine below_set ?_ (by omega))) hb1)
  have nT := Aside0.mk (Tab.below (by repeat (with_reducible first | exact T.out | apply Tab.alloc | apply Tab.drewN)) hb1)
  clear HB hb1 T
  have HB := n0
  have T := nT
  clear n0 nT
  go_wp2_with fail
  refine (own_q b q m g n a c _ ?hT).mono ?_
  case hT => repeat (with_reducible first | exact T.out | apply Tab.alloc | apply Tab.drewN)
  rw [ho]
  rintro e w2 ⟨rfl, hb1⟩
  have n0 := Aside0.mk (below_step (by repeat (first | (with_reducible first | exact HB.out | apply below_alloc | apply pw_below_drewN | apply below_drew1) | refine below_set ?_ (by omega))) hb1)
  have nT := Aside0.mk (Tab.below (by repeat (with_reducible first | exact T.out | apply Tab.alloc | apply Tab.drewN)) hb1)
  clear HB hb1 T
  have HB := n0
  have T := nT
  clear n0 nT
  go_wp2_with fail
  refine (holds_q b q m g n a c now _ ?hT).mono ?_
  case hT => repeat (with_reducible first | exact T.out | apply Tab.alloc | apply Tab.drewN)
  rw [hh]
  rintro e w3 ⟨rfl, hb1⟩
  have n0 := Aside0.mk (below_step (by repeat (first | (with_reducible first | exact HB.out | apply below_alloc | apply pw_below_drewN | apply below_drew1) | refine below_set ?_ (by omega))) hb1)
  have nT := Aside0.mk (Tab.below (by repeat (with_reducible first | exact T.out | apply Tab.alloc | apply Tab.drewN)) hb1)
  have D : IsBlk w3 (w2.heap.size) #[.int .i64 h1, .int .i64 e1, .int .i64 u1] 40 := IsBlk.below (by repeat (first | ((refine IsBlk.new _ _ ?_); (simp; done)) | apply IsBlk.alloc | apply IsBlk.drewN)) hb1
  have D_0 := blk_cell D 0
  have D_1 := blk_cell D 1
  have D_2 := blk_cell D 2
  simp only [List.getElem?_toArray, List.getElem?_cons_zero, List.getElem?_cons_succ] at D_0 D_1 D_2
  have D_z0 := blk_frozen D 0
  have D_z1 := blk_frozen D 1
  have D_z2 := blk_frozen D 2
  have D_l := blk_lt D
  have D_ := Aside0.mk D
  clear D
  clear HB hb1 T
  have HB := n0
  have T := nT
  clear n0 nT
  have hl := blk_lt T.out.blk
  have hc0 := blk_cell T.out.blk 0
  have hc1 := blk_cell T.out.blk 1
  simp only [List.getElem?_toArray, List.getElem?_cons_zero, List.getElem?_cons_succ] at hc0 hc1
  go_wp2
  exact bodyPost_ret (v := .tuple #[.int .i64 0, .int .i64 9]) (by simp [results, Try.results15, go_sem, *]) rfl ⟨rfl, by repeat (first | (with_reducible first | exact HB.out | apply below_alloc | apply pw_below_drewN | apply below_drew1) | refine below_set ?_ (by omega))⟩

set_option maxHeartbeats 1000000 in
theorem renew_ok (b q : Nat) (m : Int) (g : ByteArray → Option Le) (n : ByteArray) (a c now ttl : Int) (w : World) (ht : Tab w b q m g) (hr : right n a now ttl = true) (h1 e1 u1 : Int) (ho : own g n a c = (⟨h1, e1, u1⟩, 0)) (hh : holds g n a c now = true) (u2 : Int) (hu : mx u1 (late now ttl) = u2) : Calls Try.prog 15 #[.pointer (some ⟨b, 0, none⟩), .string n, .int .i64 a, .int .i64 c, .int .i64 now, .int .i64 ttl] w fun e w' => e = .returned (.tuple #[.int .i64 u2, .int .i64 0]) ∧ Tab w' b q m (upd g n ⟨h1, e1, u2⟩) ∧ w.grownBy w' (some q) := by
  have hu_ : (if u1 < late now ttl then late now ttl else u1) = u2 := hu
  have HB := Aside0.mk (Below.refl w.heap.size w)
  have T := Aside0.mk ht
  clear ht
  go_enter Try.func15, Try.ntmps15
  go_wp2_with fail
  refine (right_q n a now ttl _).mono ?_
  rw [hr]
  rintro e w1 ⟨rfl, hb1⟩
  have n0 := Aside0.mk (below_step (by repeat (first | (with_reducible first | exact HB.out | apply below_alloc | apply pw_below_drewN | apply below_drew1) | refine below_set ?_ (by omega))) hb1)
  have nT := Aside0.mk (Tab.below (by repeat (with_reducible first | exact T.out | apply Tab.alloc | apply Tab.drewN)) hb1)
  clear HB hb1 T
  have HB := n0
  have T := nT
  clear n0 nT
  go_wp2_with fail
  refine (own_q b q m g n a c _ ?hT).mono ?_
  case hT => repeat (with_reducible first | exact T.out | apply Tab.alloc | apply Tab.drewN)
  rw [ho]
  rintro e w2 ⟨rfl, hb1⟩
  have n0 := Aside0.mk (below_step (by repeat (first | (with_reducible first | exact HB.out | apply below_alloc | apply pw_below_drewN | apply below_drew1) | refine below_set ?_ (by omega))) hb1)
  have nT := Aside0.mk (Tab.below (by repeat (with_reducible first | exact T.out | apply Tab.alloc | apply Tab.drewN)) hb1)
  clear HB hb1 T
  have HB := n0
  have T := nT
  clear n0 nT
  have hb2 := blk_lt T.out.blk
  have hq2 := T.out.map.lt
  have hs2 := HB.out.size
  go_wp2_with fail
  refine (holds_q b q m g n a c now _ ?hT).mono ?_
  case hT => repeat (with_reducible first | exact T.out | apply Tab.alloc | apply Tab.drewN)
  rw [hh]
  rintro e w3 ⟨rfl, hb1⟩
  have n0 := Aside0.mk (below_step (by repeat (first | (with_reducible first | exact HB.out | apply below_alloc | apply pw_below_drewN | apply below_drew1) | refine below_set ?_ (by omega))) hb1)
  have nT := Aside0.mk (Tab.below (by repeat (with_reducible first | exact T.out | apply Tab.alloc | apply Tab.drewN)) hb1)
  have D : IsBlk w3 (w2.heap.size) #[.int .i64 h1, .int .i64 e1, .int .i64 u1] 40 := IsBlk.below (by repeat (first | ((refine IsBlk.new _ _ ?_); (simp; done)) | apply IsBlk.alloc | apply IsBlk.drewN)) hb1
  have D_0 := blk_cell D 0
  have D_1 := blk_cell D 1
  have D_2 := blk_cell D 2
  simp only [List.getElem?_toArray, List.getElem?_cons_zero, List.getElem?_cons_succ] at D_0 D_1 D_2
  have D_z0 := blk_frozen D 0
  have D_z1 := blk_frozen D 1
  have D_z2 := blk_frozen D 2
  have D_l := blk_lt D
  have D_ := Aside0.mk D
  clear D
  clear HB hb1 T
  have HB := n0
  have T := nT
  clear n0 nT
  have hl := blk_lt T.out.blk
  have hc0 := blk_cell T.out.blk 0
  have hc1 := blk_cell T.out.blk 1
  simp only [List.getElem?_toArray, List.getElem?_cons_zero, List.getElem?_cons_succ] at hc0 hc1
  go_wp2_with fail
  refine wp_region_still_tail 7 (by kernel_rfl) (by kernel_rfl) ?_
  simp only [List.take_succ_cons, List.take_zero, List.drop_succ_cons, List.drop_zero]
  repeat still_step
  still_call (late_q _ _ _)
  repeat still_step
  refine wpStill_nil ?_
  change wpList _ _ _ _ _ w3.drew
  have T4 : Aside0 (Tab (w3.drew) b q m g) := ⟨⟨T.out.blk.drew, T.out.map.drew⟩⟩
  have R : IsBlk (w3.drew) w2.heap.size #[.int .i64 h1, .int .i64 e1, .int .i64 u1] 40 := D_.out.drew
  have HB4 : Aside0 (Below w.heap.size w (w3.drew)) := ⟨below_drew1 HB.out⟩
  clear D_0 D_1 D_2 D_z0 D_z1 D_z2 D_l D_ hl hc0 hc1 HB T
  generalize (w3.drew) = w4 at *
  have D_0 := blk_cell R 0
  have D_1 := blk_cell R 1
  have D_2 := blk_cell R 2
  simp only [List.getElem?_toArray, List.getElem?_cons_zero, List.getElem?_cons_succ] at D_0 D_1 D_2
  have D_z0 := blk_frozen R 0
  have D_z1 := blk_frozen R 1
  have D_z2 := blk_frozen R 2
  have D_l := blk_lt R
  have D_ := Aside0.mk R
  clear R
  have T := T4
  have HB := HB4
  clear T4 HB4
  have hl := blk_lt T.out.blk
  have hc0 := blk_cell T.out.blk 0
  have hc1 := blk_cell T.out.blk 1
  simp only [List.getElem?_toArray, List.getElem?_cons_zero, List.getElem?_cons_succ] at hc0 hc1
  have hb3 : b ≠ w2.heap.size := by omega
  have hq3 : q ≠ w2.heap.size := by omega
  go_wp2_with fail
  have T4 : Aside0 (Tab (w4.setCell ⟨w2.heap.size, 2, none⟩ (.int .i64 u2)) b q m g) := ⟨T.out.far hb3 hq3 _⟩
  have R : IsBlk (w4.setCell ⟨w2.heap.size, 2, none⟩ (.int .i64 u2)) w2.heap.size #[.int .i64 h1, .int .i64 e1, .int .i64 u2] 40 := blk_set D_.out 2 _
  have HB4 : Aside0 (Below w.heap.size w (w4.setCell ⟨w2.heap.size, 2, none⟩ (.int .i64 u2))) := ⟨below_set HB.out (by omega)⟩
  clear D_0 D_1 D_2 D_z0 D_z1 D_z2 D_l D_ hl hc0 hc1 HB T
  generalize (w4.setCell ⟨w2.heap.size, 2, none⟩ (.int .i64 u2)) = w5 at *
  have D_0 := blk_cell R 0
  have D_1 := blk_cell R 1
  have D_2 := blk_cell R 2
  simp only [List.getElem?_toArray, List.getElem?_cons_zero, List.getElem?_cons_succ] at D_0 D_1 D_2
  have D_z0 := blk_frozen R 0
  have D_z1 := blk_frozen R 1
  have D_z2 := blk_frozen R 2
  have D_l := blk_lt R
  have D_ := Aside0.mk R
  clear R
  have T := T4
  have HB := HB4
  clear T4 HB4
  have hl := blk_lt T.out.blk
  have hc0 := blk_cell T.out.blk 0
  have hc1 := blk_cell T.out.blk 1
  simp only [List.getElem?_toArray, List.getElem?_cons_zero, List.getElem?_cons_succ] at hc0 hc1
  refine wp_region_still_tail 6 (by kernel_rfl) (by kernel_rfl) ?_
  simp only [List.take_succ_cons, List.take_zero, List.drop_succ_cons, List.drop_zero]
  repeat still_step
  refine wpStill_nil ?_
  refine wpList_store _ rfl _ _ _ 49 rfl coded_string Try.underlying49 Try.underlying9 rfl (h := T.out.map.drew) n rfl (lv ⟨h1, e1, u2⟩) rfl ?_
  intro w6 hM5 hg5
  rw [put_lv] at hM5
  have B5 := IsBlk.grownBy (T.out.blk.drew) hg5 T.out.ne
  have R := IsBlk.grownBy (D_.out.drew) hg5 (Ne.symm hq3)
  have G5 := grown_then (below_drew1 HB.out) hg5
  clear D_0 D_1 D_2 D_z0 D_z1 D_z2 D_l D_ hl hc0 hc1 HB T
  have D_0 := blk_cell R 0
  have D_1 := blk_cell R 1
  have D_2 := blk_cell R 2
  simp only [List.getElem?_toArray, List.getElem?_cons_zero, List.getElem?_cons_succ] at D_0 D_1 D_2
  have D_l := blk_lt R
  go_wp2
  exact bodyPost_ret (v := .tuple #[.int .i64 u2, .int .i64 0]) (by simp [results, Try.results15, go_sem]) rfl ⟨rfl, ⟨B5, hM5⟩, G5⟩

set_option maxHeartbeats 1000000 in
theorem drop_own (b q : Nat) (m : Int) (g : ByteArray → Option Le) (n : ByteArray) (a c : Int) (w : World) (ht : Tab w b q m g) (x : Int) (h1 e1 u1 : Int) (ho : own g n a c = (⟨h1, e1, u1⟩, x)) (hx : (x == 0) = false) : Calls Try.prog 16 #[.pointer (some ⟨b, 0, none⟩), .string n, .int .i64 a, .int .i64 c] w fun e w' => e = .returned (.int .i64 x) ∧ Below w.heap.size w w' := by
  have HB := Aside0.mk (Below.refl w.heap.size w)
  have T := Aside0.mk ht
  clear ht
  go_enter Try.func16, Try.ntmps16
  go_wp2_with fail
  refine (own_q b q m g n a c _ ?hT).mono ?_
  case hT => repeat (with_reducible first | exact T.out | apply Tab.alloc | apply Tab.drewN)
  rw [ho]
  rintro e w2 ⟨rfl, hb1⟩
  have n0 := Aside0.mk (below_step (by repeat (first | (with_reducible first | exact HB.out | apply below_alloc | apply pw_below_drewN | apply below_drew1) | refine below_set ?_ (by omega))) hb1)
  have nT := Aside0.mk (Tab.below (by repeat (with_reducible first | exact T.out | apply Tab.alloc | apply Tab.drewN)) hb1)
  clear HB hb1 T
  have HB := n0
  have T := nT
  clear n0 nT
  go_wp2
  exact bodyPost_ret (v := .int .i64 x) (by simp [results, Try.results16, go_sem, *]) rfl ⟨rfl, by repeat (first | (with_reducible first | exact HB.out | apply below_alloc | apply pw_below_drewN | apply below_drew1) | refine below_set ?_ (by omega))⟩

set_option maxHeartbeats 1000000 in
theorem drop_was (b q : Nat) (m : Int) (g : ByteArray → Option Le) (n : ByteArray) (a c : Int) (w : World) (ht : Tab w b q m g) (h1 e1 u1 : Int) (ho : own g n a c = (⟨h1, e1, u1⟩, 0)) (hx : (u1 == 0) = true) : Calls Try.prog 16 #[.pointer (some ⟨b, 0, none⟩), .string n, .int .i64 a, .int .i64 c] w fun e w' => e = .returned (.int .i64 10) ∧ Below w.heap.size w w' := by
  have HB := Aside0.mk (Below.refl w.heap.size w)
  have T := Aside0.mk ht
  clear ht
  go_enter Try.func16, Try.ntmps16
  go_wp2_with fail
  refine (own_q b q m g n a c _ ?hT).mono ?_
  case hT => repeat (with_reducible first | exact T.out | apply Tab.alloc | apply Tab.drewN)
  rw [ho]
  rintro e w2 ⟨rfl, hb1⟩
  have n0 := Aside0.mk (below_step (by repeat (first | (with_reducible first | exact HB.out | apply below_alloc | apply pw_below_drewN | apply below_drew1) | refine below_set ?_ (by omega))) hb1)
  have nT := Aside0.mk (Tab.below (by repeat (with_reducible first | exact T.out | apply Tab.alloc | apply Tab.drewN)) hb1)
  clear HB hb1 T
  have HB := n0
  have T := nT
  clear n0 nT
  go_wp2
  exact bodyPost_ret (v := .int .i64 10) (by simp [results, Try.results16, go_sem, *]) rfl ⟨rfl, by repeat (first | (with_reducible first | exact HB.out | apply below_alloc | apply pw_below_drewN | apply below_drew1) | refine below_set ?_ (by omega))⟩

set_option maxHeartbeats 1000000 in
theorem drop_ok (b q : Nat) (m : Int) (g : ByteArray → Option Le) (n : ByteArray) (a c : Int) (w : World) (ht : Tab w b q m g) (h1 e1 u1 : Int) (ho : own g n a c = (⟨h1, e1, u1⟩, 0)) (hx : (u1 == 0) = false) : Calls Try.prog 16 #[.pointer (some ⟨b, 0, none⟩), .string n, .int .i64 a, .int .i64 c] w fun e w' => e = .returned (.int .i64 0) ∧ Tab w' b q m (upd g n ⟨h1, e1, 0⟩) ∧ w.grownBy w' (some q) := by
  have HB := Aside0.mk (Below.refl w.heap.size w)
  have T := Aside0.mk ht
  clear ht
  go_enter Try.func16, Try.ntmps16
  go_wp2_with fail
  refine (own_q b q m g n a c _ ?hT).mono ?_
  case hT => repeat (with_reducible first | exact T.out | apply Tab.alloc | apply Tab.drewN)
  rw [ho]
  rintro e w2 ⟨rfl, hb1⟩
  have n0 := Aside0.mk (below_step (by repeat (first | (with_reducible first | exact HB.out | apply below_alloc | apply pw_below_drewN | apply below_drew1) | refine below_set ?_ (by omega))) hb1)
  have nT := Aside0.mk (Tab.below (by repeat (with_reducible first | exact T.out | apply Tab.alloc | apply Tab.drewN)) hb1)
  clear HB hb1 T
  have HB := n0
  have T := nT
  clear n0 nT
  have hb2 := blk_lt T.out.blk
  have hq2 := T.out.map.lt
  have hs2 := HB.out.size
  have hl := blk_lt T.out.blk
  have hc0 := blk_cell T.out.blk 0
  have hc1 := blk_cell T.out.blk 1
  simp only [List.getElem?_toArray, List.getElem?_cons_zero, List.getElem?_cons_succ] at hc0 hc1
  have hb3 : b ≠ w2.heap.size := by omega
  have hq3 : q ≠ w2.heap.size := by omega
  go_wp2_with fail
  have T4 : Aside0 (Tab (w2.alloc (.cells #[.int .i64 h1, .int .i64 e1, .int .i64 0] 40)) b q m g) := ⟨T.out.alloc _⟩
  have R : IsBlk (w2.alloc (.cells #[.int .i64 h1, .int .i64 e1, .int .i64 0] 40)) w2.heap.size #[.int .i64 h1, .int .i64 e1, .int .i64 0] 40 := IsBlk.new _ _ rfl
  have HB4 : Aside0 (Below w.heap.size w (w2.alloc (.cells #[.int .i64 h1, .int .i64 e1, .int .i64 0] 40))) := ⟨below_alloc HB.out _⟩
  clear hl hc0 hc1 HB T
  generalize (w2.alloc (.cells #[.int .i64 h1, .int .i64 e1, .int .i64 0] 40)) = w4 at *
  have D_0 := blk_cell R 0
  have D_1 := blk_cell R 1
  have D_2 := blk_cell R 2
  simp only [List.getElem?_toArray, List.getElem?_cons_zero, List.getElem?_cons_succ] at D_0 D_1 D_2
  have D_z0 := blk_frozen R 0
  have D_z1 := blk_frozen R 1
  have D_z2 := blk_frozen R 2
  have D_l := blk_lt R
  have D_ := Aside0.mk R
  clear R
  have T := T4
  have HB := HB4
  clear T4 HB4
  have hl := blk_lt T.out.blk
  have hc0 := blk_cell T.out.blk 0
  have hc1 := blk_cell T.out.blk 1
  simp only [List.getElem?_toArray, List.getElem?_cons_zero, List.getElem?_cons_succ] at hc0 hc1
  refine wp_region_still_tail 6 (by kernel_rfl) (by kernel_rfl) ?_
  simp only [List.take_succ_cons, List.take_zero, List.drop_succ_cons, List.drop_zero]
  repeat still_step
  refine wpStill_nil ?_
  refine wpList_store _ rfl _ _ _ 49 rfl coded_string Try.underlying49 Try.underlying9 rfl (h := T.out.map.drew) n rfl (lv ⟨h1, e1, 0⟩) rfl ?_
  intro w6 hM5 hg5
  rw [put_lv] at hM5
  have B5 := IsBlk.grownBy (T.out.blk.drew) hg5 T.out.ne
  have R := IsBlk.grownBy (D_.out.drew) hg5 (Ne.symm hq3)
  have G5 := grown_then (below_drew1 HB.out) hg5
  clear D_0 D_1 D_2 D_z0 D_z1 D_z2 D_l D_ hl hc0 hc1 HB T
  have D_0 := blk_cell R 0
  have D_1 := blk_cell R 1
  have D_2 := blk_cell R 2
  simp only [List.getElem?_toArray, List.getElem?_cons_zero, List.getElem?_cons_succ] at D_0 D_1 D_2
  have D_l := blk_lt R
  go_wp2
  exact bodyPost_ret (v := .int .i64 0) (by simp [results, Try.results16, go_sem]) rfl ⟨rfl, ⟨B5, hM5⟩, G5⟩
end Go.Proofs.Ytnjmhiglpapopaa.L3
