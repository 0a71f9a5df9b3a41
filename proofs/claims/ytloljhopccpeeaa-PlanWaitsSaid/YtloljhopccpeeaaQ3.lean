/-
  Proved here: what plan.Next, plan.Count answer. No condition.
-/
import Derived.Test.YtloljhopccpeeaaQ2
import Derived.WalkMore
import Derived.ScopeJumps
namespace Go.Proofs.Ytloljhopccpeeaa.Q3
open Go.RowKit Go.Sort Go.Proofs.Ytloljhopccpeeaa.B0 Go.Proofs.Ytloljhopccpeeaa.Pl Go.Proofs.Ytloljhopccpeeaa.Q1 Go.Proofs.Ytloljhopccpeeaa.Q2 Go.Proofs.YtloljhopccpeeaaW.PrintWords Go.Proofs.YtloljhopccpeeaaW.PrintLast Go.Proofs.YtloljhopccpeeaaW.PrintMore
open PPlanEnds (S35 z35 k35)
set_option linter.unusedVariables false
set_option linter.unusedSimpArgs false
attribute [local go_sem] max2_int min2_int max_two min_two
/-- A scope with jumps ahead to one label. -/
theorem wp_scope_once {P : Program} {a : Act} {w : World} {Q : Exit → Act → World → Prop} {c rest : Code} (l : Nat) (hf : findLabel c l = some rest)
    (first : c.wp P (Exit.jump l (fun a w => rest.wp P (Exit.noGoto Q) a w) Q) a w) : (Code.scope c).wp P Q a w := by
  refine wp_scope_jumps l (fun a w => rest.wp P (Exit.noGoto Q) a w) (fun _ _ => 0) hf first ?_
  intro a w h
  refine Code.wp_mono ?_ h
  intro e a w hq
  cases e <;> first | exact hq | exact (hq : False).elim

set_option maxRecDepth 100000 in
set_option maxHeartbeats 4000000 in
theorem count_q (nw t d lo hi : Int) (bl : Bool) (A : Option Addr) (c : Nat) (l : List S35) (w : World) (hr : Kd.C k35 w A l.length l) (hc : l.length ≤ c) (h16 : l.length ≤ 16) :
    Calls Try.prog 11 #[.agg #[.int .i64 nw, .int .i64 t, .int .i64 d, .int .i64 lo, .int .i64 hi, .bool bl], .slice A l.length c] w fun e w' => e = .returned (.tuple #[.int .i64 (cnt (isNew ⟨nw, t, d, lo, hi, bl⟩) l), .int .i64 (cnt (isOld ⟨nw, t, d, lo, hi, bl⟩) l), .int .i64 (cnt isThere l), .int .i64 (cnt isUp l)]) ∧ Below w.heap.size w w' := by
  have HB := Aside0.mk (Below.refl w.heap.size w)
  have HR := Aside0.mk hr
  obtain ⟨fr, efr⟩ : ∃ n, (cnt (isNew ⟨nw, t, d, lo, hi, bl⟩) l) = n := ⟨_, rfl⟩
  have bdfr := cnt_bound (isNew ⟨nw, t, d, lo, hi, bl⟩) l
  rw [efr] at bdfr
  obtain ⟨ol, eol⟩ : ∃ n, (cnt (isOld ⟨nw, t, d, lo, hi, bl⟩) l) = n := ⟨_, rfl⟩
  have bdol := cnt_bound (isOld ⟨nw, t, d, lo, hi, bl⟩) l
  rw [eol] at bdol
  obtain ⟨th, eth⟩ : ∃ n, (cnt isThere l) = n := ⟨_, rfl⟩
  have bdth := cnt_bound isThere l
  rw [eth] at bdth
  obtain ⟨up, eup⟩ : ∃ n, (cnt isUp l) = n := ⟨_, rfl⟩
  have bdup := cnt_bound isUp l
  rw [eup] at bdup
  obtain ⟨fu, efu⟩ : ∃ n, (cnt (newUp ⟨nw, t, d, lo, hi, bl⟩) l) = n := ⟨_, rfl⟩
  have bdfu := cnt_bound (newUp ⟨nw, t, d, lo, hi, bl⟩) l
  rw [efu] at bdfu
  have Efr := Aside0.mk efr
  have Eol := Aside0.mk eol
  have Eth := Aside0.mk eth
  have Eup := Aside0.mk eup
  have Efu := Aside0.mk efu
  clear efr eol eth eup efu
  clear hr
  have hm : (l.length : Int) ≤ 16 := by omega
  go_enter Try.func11, Try.ntmps11
  go_wp2_with fail
  (with_reducible refine (of_q nw t d lo hi bl A c l _ ?hC hc h16).mono ?_)
  case hC => exact Kd.C_below HR.out (by repeat (first | (with_reducible first | exact HB.out | apply below_alloc | apply pw_below_drewN | apply below_drew1) | refine below_set ?_ (by omega)))
  rw [Efr.out, Eol.out, Eth.out, Eup.out, Efu.out]
  rintro e w1 ⟨rfl, hb1⟩
  have D : IsBlk w1 w.heap.size #[.int .i64 nw, .int .i64 t, .int .i64 d, .int .i64 lo, .int .i64 hi, .bool bl] 29 := IsBlk.below (by repeat (first | ((refine IsBlk.new _ _ ?_); (simp; done)) | apply IsBlk.alloc | apply IsBlk.drewN)) hb1
  have n0 := Aside0.mk (below_step (by repeat (first | (with_reducible first | exact HB.out | apply below_alloc | apply pw_below_drewN | apply below_drew1) | refine below_set ?_ (by omega))) hb1)
  clear HB hb1
  have HB := n0
  clear n0
  go_wp2_with fail
  have T : IsBlk (w1.alloc (.cells #[.int .i64 nw, .int .i64 t, .int .i64 d, .int .i64 lo, .int .i64 hi, .bool bl, (.slice A l.length c), .int .i64 fr, .int .i64 ol, .int .i64 th, .int .i64 up, .int .i64 fu] 51)) w1.heap.size #[.int .i64 nw, .int .i64 t, .int .i64 d, .int .i64 lo, .int .i64 hi, .bool bl, (.slice A l.length c), .int .i64 fr, .int .i64 ol, .int .i64 th, .int .i64 up, .int .i64 fu] 51 := IsBlk.new _ _ rfl
  have T_0 := blk_cell T 0
  have T_1 := blk_cell T 1
  have T_2 := blk_cell T 2
  have T_3 := blk_cell T 3
  have T_4 := blk_cell T 4
  have T_5 := blk_cell T 5
  have T_6 := blk_cell T 6
  have T_7 := blk_cell T 7
  have T_8 := blk_cell T 8
  have T_9 := blk_cell T 9
  have T_10 := blk_cell T 10
  have T_11 := blk_cell T 11
  simp only [List.getElem?_toArray, List.getElem?_cons_zero, List.getElem?_cons_succ] at T_0 T_1 T_2 T_3 T_4 T_5 T_6 T_7 T_8 T_9 T_10 T_11
  have T_l := blk_lt T
  have HT := Aside0.mk T
  clear T
  refine start_ (n := 12) (S := fun w' => w'.cell? ⟨w1.heap.size, 7, none⟩ = some (.int .i64 fr) ∧ w'.cell? ⟨w1.heap.size, 8, none⟩ = some (.int .i64 ol) ∧ w'.cell? ⟨w1.heap.size, 9, none⟩ = some (.int .i64 th) ∧ w'.cell? ⟨w1.heap.size, 10, none⟩ = some (.int .i64 up)) (ds := []) #[false, false, false, false, false, false, false, false, false, false, false, false] (by kernel_rfl) rfl rfl ⟨T_7, T_8, T_9, T_10⟩ (fun hHeld => ?_)
  refine pure_ (i := 0) (N := some 12) (v := ?_) (a' := ?_) #[true, false, false, false, false, false, false, false, false, false, false, false] rfl rfl (by kernel_rfl) (fun _ _ _ h => h) (Or.inl ⟨by rfl, ?_⟩) ?_ ?_
  rotate_left
  · intro w'
    go_simp
    with_reducible rfl
  rotate_left
  · simp only [Act.put, List.setIfInBounds_toArray, List.set_cons_zero, List.set_cons_succ, i64_w, i32_w]
    rfl
  refine pure_ (i := 2) (N := some 14) (v := ?_) (a' := ?_) #[true, false, true, false, false, false, false, false, false, false, false, false] rfl rfl (by kernel_rfl) (fun _ _ _ h => h) (Or.inl ⟨by rfl, ?_⟩) ?_ ?_
  rotate_left
  · intro w'
    go_simp
    with_reducible rfl
  rotate_left
  · simp only [Act.put, List.setIfInBounds_toArray, List.set_cons_zero, List.set_cons_succ, i64_w, i32_w]
    rfl
  refine pure_ (i := 4) (N := some 16) (v := ?_) (a' := ?_) #[true, false, true, false, true, false, false, false, false, false, false, false] rfl rfl (by kernel_rfl) (fun _ _ _ h => h) (Or.inl ⟨by rfl, ?_⟩) ?_ ?_
  rotate_left
  · intro w'
    go_simp
    with_reducible rfl
  rotate_left
  · simp only [Act.put, List.setIfInBounds_toArray, List.set_cons_zero, List.set_cons_succ, i64_w, i32_w]
    rfl
  refine pure_ (i := 6) (N := some 18) (v := ?_) (a' := ?_) #[true, false, true, false, true, false, true, false, false, false, false, false] rfl rfl (by kernel_rfl) (fun _ _ _ h => h) (Or.inl ⟨by rfl, ?_⟩) ?_ ?_
  rotate_left
  · intro w'
    go_simp
    with_reducible rfl
  rotate_left
  · simp only [Act.put, List.setIfInBounds_toArray, List.set_cons_zero, List.set_cons_succ, i64_w, i32_w]
    rfl
  refine take_ (i := 1) (N := some 13) (v := ?_) (a' := ?_) #[true, true, true, false, true, false, true, false, false, false, false, false] rfl rfl (by kernel_rfl) (fun _ _ _ h => h) (Or.inl ⟨by rfl, ?_⟩) hHeld ?_ ?_
  rotate_left
  · rintro w' ⟨s0, s1, s2, s3⟩
    go_simp
    with_reducible rfl
  rotate_left
  · simp only [Act.put, List.setIfInBounds_toArray, List.set_cons_zero, List.set_cons_succ, i64_w, i32_w]
    rfl
  refine pure_ (i := 8) (N := some 4) (v := ?_) (a' := ?_) #[true, true, true, false, true, false, true, false, true, false, false, false] rfl rfl (by kernel_rfl) (fun _ _ _ h => h) (Or.inl ⟨by rfl, ?_⟩) ?_ ?_
  rotate_left
  · intro w'
    go_simp
    with_reducible rfl
  rotate_left
  · simp only [Act.put, List.setIfInBounds_toArray, List.set_cons_zero, List.set_cons_succ, i64_w, i32_w]
    rfl
  refine take_ (i := 3) (N := some 15) (v := ?_) (a' := ?_) #[true, true, true, true, true, false, true, false, true, false, false, false] rfl rfl (by kernel_rfl) (fun _ _ _ h => h) (Or.inl ⟨by rfl, ?_⟩) hHeld ?_ ?_
  rotate_left
  · rintro w' ⟨s0, s1, s2, s3⟩
    go_simp
    with_reducible rfl
  rotate_left
  · simp only [Act.put, List.setIfInBounds_toArray, List.set_cons_zero, List.set_cons_succ, i64_w, i32_w]
    rfl
  refine pure_ (i := 9) (N := some 5) (v := ?_) (a' := ?_) #[true, true, true, true, true, false, true, false, true, true, false, false] rfl rfl (by kernel_rfl) (fun _ _ _ h => h) (Or.inl ⟨by rfl, ?_⟩) ?_ ?_
  rotate_left
  · intro w'
    go_simp
    with_reducible rfl
  rotate_left
  · simp only [Act.put, List.setIfInBounds_toArray, List.set_cons_zero, List.set_cons_succ, i64_w, i32_w]
    rfl
  refine take_ (i := 5) (N := some 17) (v := ?_) (a' := ?_) #[true, true, true, true, true, true, true, false, true, true, false, false] rfl rfl (by kernel_rfl) (fun _ _ _ h => h) (Or.inl ⟨by rfl, ?_⟩) hHeld ?_ ?_
  rotate_left
  · rintro w' ⟨s0, s1, s2, s3⟩
    go_simp
    with_reducible rfl
  rotate_left
  · simp only [Act.put, List.setIfInBounds_toArray, List.set_cons_zero, List.set_cons_succ, i64_w, i32_w]
    rfl
  refine pure_ (i := 10) (N := some 6) (v := ?_) (a' := ?_) #[true, true, true, true, true, true, true, false, true, true, true, false] rfl rfl (by kernel_rfl) (fun _ _ _ h => h) (Or.inl ⟨by rfl, ?_⟩) ?_ ?_
  rotate_left
  · intro w'
    go_simp
    with_reducible rfl
  rotate_left
  · simp only [Act.put, List.setIfInBounds_toArray, List.set_cons_zero, List.set_cons_succ, i64_w, i32_w]
    rfl
  refine take_ (i := 7) (N := some 19) (v := ?_) (a' := ?_) #[true, true, true, true, true, true, true, true, true, true, true, false] rfl rfl (by kernel_rfl) (fun _ _ _ h => h) (Or.inl ⟨by rfl, ?_⟩) hHeld ?_ ?_
  rotate_left
  · rintro w' ⟨s0, s1, s2, s3⟩
    go_simp
    with_reducible rfl
  rotate_left
  · simp only [Act.put, List.setIfInBounds_toArray, List.set_cons_zero, List.set_cons_succ, i64_w, i32_w]
    rfl
  refine pure_ (i := 11) (N := some 7) (v := ?_) (a' := ?_) #[true, true, true, true, true, true, true, true, true, true, true, true] rfl rfl (by kernel_rfl) (fun _ _ _ h => h) (Or.inl ⟨by rfl, ?_⟩) ?_ ?_
  rotate_left
  · intro w'
    go_simp
    with_reducible rfl
  rotate_left
  · simp only [Act.put, List.setIfInBounds_toArray, List.set_cons_zero, List.set_cons_succ, i64_w, i32_w]
    rfl
  refine done_ (by kernel_rfl) ?_
  go_wp2
  refine bodyPost_ret (v := .tuple #[.int .i64 fr, .int .i64 ol, .int .i64 th, .int .i64 up]) (by simp [results, Try.results11, go_sem, *]) rfl ⟨?_, by repeat (first | (with_reducible first | exact HB.out | apply below_alloc | apply pw_below_drewN | apply below_drew1) | refine below_set ?_ (by omega))⟩
  rw [Efr.out, Eol.out, Eth.out, Eup.out]

set_option maxRecDepth 100000 in
set_option maxHeartbeats 16000000 in
theorem next_true (nw t d lo hi : Int) (A : Option Addr) (c : Nat) (l : List S35) (w : World) (hr : Kd.C k35 w A l.length l) (hc : l.length ≤ c) (h16 : l.length ≤ 16) :
    Calls Try.prog 10 #[.agg #[.int .i64 nw, .int .i64 t, .int .i64 d, .int .i64 lo, .int .i64 hi, .bool true], .slice A l.length c] w fun e w' => e = .returned (.tuple #[.int .i64 (nextV ⟨nw, t, d, lo, hi, true⟩ l).i, .int .i64 (nextV ⟨nw, t, d, lo, hi, true⟩ l).v, .bool (nextV ⟨nw, t, d, lo, hi, true⟩ l).is]) ∧ Below w.heap.size w w' := by
  have HB := Aside0.mk (Below.refl w.heap.size w)
  have HR := Aside0.mk hr
  obtain ⟨fr, efr⟩ : ∃ n, (cnt (isNew ⟨nw, t, d, lo, hi, true⟩) l) = n := ⟨_, rfl⟩
  have bdfr := cnt_bound (isNew ⟨nw, t, d, lo, hi, true⟩) l
  rw [efr] at bdfr
  obtain ⟨ol, eol⟩ : ∃ n, (cnt (isOld ⟨nw, t, d, lo, hi, true⟩) l) = n := ⟨_, rfl⟩
  have bdol := cnt_bound (isOld ⟨nw, t, d, lo, hi, true⟩) l
  rw [eol] at bdol
  obtain ⟨th, eth⟩ : ∃ n, (cnt isThere l) = n := ⟨_, rfl⟩
  have bdth := cnt_bound isThere l
  rw [eth] at bdth
  obtain ⟨up, eup⟩ : ∃ n, (cnt isUp l) = n := ⟨_, rfl⟩
  have bdup := cnt_bound isUp l
  rw [eup] at bdup
  obtain ⟨fu, efu⟩ : ∃ n, (cnt (newUp ⟨nw, t, d, lo, hi, true⟩) l) = n := ⟨_, rfl⟩
  have bdfu := cnt_bound (newUp ⟨nw, t, d, lo, hi, true⟩) l
  rw [efu] at bdfu
  have Efr := Aside0.mk efr
  have Eol := Aside0.mk eol
  have Eth := Aside0.mk eth
  have Eup := Aside0.mk eup
  have Efu := Aside0.mk efu
  clear efr eol eth eup efu
  clear hr
  have hm : (l.length : Int) ≤ 16 := by omega
  go_enter Try.func10, Try.ntmps10
  go_wp2_with fail
  refine wp_scope_once 0 (by rfl) ?_
  go_wp2_with fail
  (with_reducible refine (of_q nw t d lo hi true A c l _ ?hC hc h16).mono ?_)
  case hC => exact Kd.C_below HR.out (by repeat (first | (with_reducible first | exact HB.out | apply below_alloc | apply pw_below_drewN | apply below_drew1) | refine below_set ?_ (by omega)))
  rw [Efr.out, Eol.out, Eth.out, Eup.out, Efu.out]
  rintro e w1 ⟨rfl, hb1⟩
  have D : IsBlk w1 w.heap.size #[.int .i64 nw, .int .i64 t, .int .i64 d, .int .i64 lo, .int .i64 hi, .bool true] 29 := IsBlk.below (by repeat (first | ((refine IsBlk.new _ _ ?_); (simp; done)) | apply IsBlk.alloc | apply IsBlk.drewN)) hb1
  have n0 := Aside0.mk (below_step (by repeat (first | (with_reducible first | exact HB.out | apply below_alloc | apply pw_below_drewN | apply below_drew1) | refine below_set ?_ (by omega))) hb1)
  clear HB hb1
  have HB := n0
  clear n0
  have D_0 := blk_cell D 0
  have D_1 := blk_cell D 1
  have D_2 := blk_cell D 2
  have D_3 := blk_cell D 3
  have D_4 := blk_cell D 4
  have D_5 := blk_cell D 5
  simp only [List.getElem?_toArray, List.getElem?_cons_zero, List.getElem?_cons_succ] at D_0 D_1 D_2 D_3 D_4 D_5
  have D_l := blk_lt D
  have HD := Aside0.mk D
  clear D
  go_wp2_with fail
  have D' : IsBlk (w1.alloc (.cells #[.int .i64 nw, .int .i64 t, .int .i64 d, .int .i64 lo, .int .i64 hi, .bool true, (.slice A l.length c), .int .i64 fr, .int .i64 ol, .int .i64 th, .int .i64 up, .int .i64 fu] 51)) w.heap.size #[.int .i64 nw, .int .i64 t, .int .i64 d, .int .i64 lo, .int .i64 hi, .bool true] 29 := (by repeat (with_reducible first | exact HD.out | apply IsBlk.alloc | apply IsBlk.drewN | apply IsBlk.drew))
  clear D_0 D_1 D_2 D_3 D_4 D_5 D_l HD
  have D := D'
  clear D'
  have D_0 := blk_cell D 0
  have D_1 := blk_cell D 1
  have D_2 := blk_cell D 2
  have D_3 := blk_cell D 3
  have D_4 := blk_cell D 4
  have D_5 := blk_cell D 5
  simp only [List.getElem?_toArray, List.getElem?_cons_zero, List.getElem?_cons_succ] at D_0 D_1 D_2 D_3 D_4 D_5
  have D_l := blk_lt D
  have HD := Aside0.mk D
  clear D
  refine start_ (n := 4) (S := fun w' => w'.cell? ⟨w.heap.size, 0, none⟩ = some (.int .i64 nw)) (ds := []) #[false, false, false, false] (by kernel_rfl) rfl rfl (D_0) (fun hHeld => ?_)
  refine pure_ (i := 0) (N := some 13) (v := ?_) (a' := ?_) #[true, false, false, false] rfl rfl (by kernel_rfl) (fun _ _ _ h => h) (Or.inl ⟨by rfl, ?_⟩) ?_ ?_
  rotate_left
  · intro w'
    go_simp
    with_reducible rfl
  rotate_left
  · simp only [Act.put, List.setIfInBounds_toArray, List.set_cons_zero, List.set_cons_succ, i64_w, i32_w]
    rfl
  refine pure_ (i := 2) (N := some 8) (v := ?_) (a' := ?_) #[true, false, true, false] rfl rfl (by kernel_rfl) (fun _ _ _ h => h) (Or.inl ⟨by rfl, ?_⟩) ?_ ?_
  rotate_left
  · intro w'
    go_simp
    with_reducible rfl
  rotate_left
  · simp only [Act.put, List.setIfInBounds_toArray, List.set_cons_zero, List.set_cons_succ, i64_w, i32_w]
    rfl
  refine take_ (i := 1) (N := some 14) (v := ?_) (a' := ?_) #[true, true, true, false] rfl rfl (by kernel_rfl) (fun _ _ _ h => h) (Or.inl ⟨by rfl, ?_⟩) hHeld ?_ ?_
  rotate_left
  · intro w' s0
    go_simp
    with_reducible rfl
  rotate_left
  · simp only [Act.put, List.setIfInBounds_toArray, List.set_cons_zero, List.set_cons_succ, i64_w, i32_w]
    rfl
  refine pure_ (i := 3) (N := some 9) (v := ?_) (a' := ?_) #[true, true, true, true] rfl rfl (by kernel_rfl) (fun _ _ _ h => h) (Or.inl ⟨by rfl, ?_⟩) ?_ ?_
  rotate_left
  · intro w'
    go_simp
    with_reducible rfl
  rotate_left
  · simp only [Act.put, List.setIfInBounds_toArray, List.set_cons_zero, List.set_cons_succ, i64_w, i32_w]
    rfl
  refine done_ (by kernel_rfl) ?_
  have T0 : IsBlk ((w1.alloc (.cells #[.int .i64 nw, .int .i64 t, .int .i64 d, .int .i64 lo, .int .i64 hi, .bool true, (.slice A l.length c), .int .i64 fr, .int .i64 ol, .int .i64 th, .int .i64 up, .int .i64 fu] 51)).drew) w1.heap.size #[.int .i64 nw, .int .i64 t, .int .i64 d, .int .i64 lo, .int .i64 hi, .bool true, (.slice A l.length c), .int .i64 fr, .int .i64 ol, .int .i64 th, .int .i64 up, .int .i64 fu] 51 := (IsBlk.new _ _ rfl).drew
  have D0 : IsBlk ((w1.alloc (.cells #[.int .i64 nw, .int .i64 t, .int .i64 d, .int .i64 lo, .int .i64 hi, .bool true, (.slice A l.length c), .int .i64 fr, .int .i64 ol, .int .i64 th, .int .i64 up, .int .i64 fu] 51)).drew) w.heap.size #[.int .i64 nw, .int .i64 t, .int .i64 d, .int .i64 lo, .int .i64 hi, .bool true] 29 := HD.out.drew
  have n0 : Below w.heap.size w ((w1.alloc (.cells #[.int .i64 nw, .int .i64 t, .int .i64 d, .int .i64 lo, .int .i64 hi, .bool true, (.slice A l.length c), .int .i64 fr, .int .i64 ol, .int .i64 th, .int .i64 up, .int .i64 fu] 51)).drew) := (by repeat (first | (with_reducible first | exact HB.out | apply below_alloc | apply pw_below_drewN | apply below_drew1) | refine below_set ?_ (by omega)))
  clear D_0 D_1 D_2 D_3 D_4 D_5 D_l HD
  clear HB
  generalize (w1.alloc (.cells #[.int .i64 nw, .int .i64 t, .int .i64 d, .int .i64 lo, .int .i64 hi, .bool true, (.slice A l.length c), .int .i64 fr, .int .i64 ol, .int .i64 th, .int .i64 up, .int .i64 fu] 51)).drew = wa at *
  generalize w1.heap.size = gT at *
  have HT := Aside0.mk T0
  have HD := Aside0.mk D0
  have HB := Aside0.mk n0
  clear T0 D0 n0
  obtain ⟨j1, hj1⟩ : ∃ z, idx noneThere l = z := ⟨_, rfl⟩
  obtain ⟨j2, hj2⟩ : ∃ z, goesV ⟨nw, t, d, lo, hi, true⟩ (isOld ⟨nw, t, d, lo, hi, true⟩) l = z := ⟨_, rfl⟩
  obtain ⟨j4, hj4⟩ : ∃ z, goesV ⟨nw, t, d, lo, hi, true⟩ (isNew ⟨nw, t, d, lo, hi, true⟩) l = z := ⟨_, rfl⟩
  obtain ⟨x1, hx1⟩ : ∃ z, nI1 ⟨nw, t, d, lo, hi, true⟩ l = z := ⟨_, rfl⟩
  obtain ⟨x2, hx2⟩ : ∃ z, nI2 ⟨nw, t, d, lo, hi, true⟩ l = z := ⟨_, rfl⟩
  obtain ⟨x3, hx3⟩ : ∃ z, nI3 ⟨nw, t, d, lo, hi, true⟩ l = z := ⟨_, rfl⟩
  obtain ⟨x4, hx4⟩ : ∃ z, nI4 ⟨nw, t, d, lo, hi, true⟩ l = z := ⟨_, rfl⟩
  have low1 : -1 ≤ x1 := by
    have h1 := idx_low noneThere l
    rw [← hx1]; unfold nI1; split <;> omega
  have low2 : -1 ≤ x2 := by
    have h1 := goes_low ⟨nw, t, d, lo, hi, true⟩ (isOld ⟨nw, t, d, lo, hi, true⟩) l
    rw [← hx2]; unfold nI2; split <;> omega
  have low3 : -1 ≤ x3 := by
    have h1 := goes_low ⟨nw, t, d, lo, hi, true⟩ (isOld ⟨nw, t, d, lo, hi, true⟩) l
    rw [← hx3]; unfold nI3; split <;> omega
  have low4 : -1 ≤ x4 := by
    have h1 := goes_low ⟨nw, t, d, lo, hi, true⟩ (isNew ⟨nw, t, d, lo, hi, true⟩) l
    rw [← hx4]; unfold nI4; split <;> omega
  have q1 : x1 = if (decide (fr < t) && decide (th < hi)) = true then j1 else -1 := by
    rw [← hx1, ← hj1, ← Efr.out, ← Eth.out]; unfold nI1; simp only [Bool.and_eq_true, decide_eq_true_eq]
  have q2 : x2 = if (false) = true then j2 else -1 := by
    rw [← hx2, ← hj2]; (try rw [← Efr.out]); unfold nI2; simp
  have q3 : x3 = if (decide (d < fr + ol) && (decide (t ≤ fu) || decide (d < ol))) = true then j2 else -1 := by
    rw [← hx3, ← hj2, ← Efr.out, ← Eol.out]; (try rw [← Efu.out]); unfold nI3; simp [or_assoc]
  have q4 : x4 = if decide (t < fr) = true then j4 else -1 := by
    rw [← hx4, ← hj4, ← Efr.out]; unfold nI4; simp
  have hN : nextV ⟨nw, t, d, lo, hi, true⟩ l = if 0 ≤ x1 then ⟨x1, nw, true⟩ else if 0 ≤ x2 then ⟨x2, nw, true⟩ else if 0 ≤ x3 then ⟨x3, 0, true⟩ else if 0 ≤ x4 then ⟨x4, 0, true⟩ else ⟨0, 0, false⟩ := by
    rw [← hx1, ← hx2, ← hx3, ← hx4]; rfl
  have J1 := Aside0.mk hj1
  have J2 := Aside0.mk hj2
  have J4 := Aside0.mk hj4
  have Q1 := Aside0.mk q1
  have Q2 := Aside0.mk q2
  have Q3 := Aside0.mk q3
  have Q4 := Aside0.mk q4
  have HN := Aside0.mk hN
  clear hj1 hj2 hj4 hx1 hx2 hx3 hx4 q1 q2 q3 q4 hN
  have hfo : -9223372036854775808 ≤ fr + ol ∧ fr + ol ≤ 9223372036854775807 := by omega
  have D := HD.out
  have T := HT.out
  clear HD HT
  have D_0 := blk_cell D 0
  have D_1 := blk_cell D 1
  have D_2 := blk_cell D 2
  have D_3 := blk_cell D 3
  have D_4 := blk_cell D 4
  have D_5 := blk_cell D 5
  simp only [List.getElem?_toArray, List.getElem?_cons_zero, List.getElem?_cons_succ] at D_0 D_1 D_2 D_3 D_4 D_5
  have D_l := blk_lt D
  have HD := Aside0.mk D
  clear D
  have T_0 := blk_cell T 0
  have T_1 := blk_cell T 1
  have T_2 := blk_cell T 2
  have T_3 := blk_cell T 3
  have T_4 := blk_cell T 4
  have T_5 := blk_cell T 5
  have T_6 := blk_cell T 6
  have T_7 := blk_cell T 7
  have T_8 := blk_cell T 8
  have T_9 := blk_cell T 9
  have T_10 := blk_cell T 10
  have T_11 := blk_cell T 11
  simp only [List.getElem?_toArray, List.getElem?_cons_zero, List.getElem?_cons_succ] at T_0 T_1 T_2 T_3 T_4 T_5 T_6 T_7 T_8 T_9 T_10 T_11
  have T_l := blk_lt T
  have HT := Aside0.mk T
  clear T
  go_upto_region 3 with fail
  go_cut [26] (fun v26 wc => v26 = .bool (decide (fr < t) && decide (th < hi)) ∧ Aside0 (IsBlk wc w.heap.size #[.int .i64 nw, .int .i64 t, .int .i64 d, .int .i64 lo, .int .i64 hi, .bool true] 29) ∧ Aside0 (IsBlk wc gT #[.int .i64 nw, .int .i64 t, .int .i64 d, .int .i64 lo, .int .i64 hi, .bool true, (.slice A l.length c), .int .i64 fr, .int .i64 ol, .int .i64 th, .int .i64 up, .int .i64 fu] 51) ∧ Aside0 (Below w.heap.size w wc))
  case first =>
    cases z0 : decide (fr < t)
    · skip
      cases z1 : decide (th < hi)
      · skip
        go_wp2_with fail
        go_meet
        exact ⟨congrArg Value.bool (by simp [z0, z1]), ⟨(by repeat (with_reducible first | exact HD.out | apply IsBlk.alloc | apply IsBlk.drewN | apply IsBlk.drew))⟩, ⟨(by repeat (with_reducible first | exact HT.out | apply IsBlk.alloc | apply IsBlk.drewN | apply IsBlk.drew))⟩, ⟨by repeat (first | (with_reducible first | exact HB.out | apply below_alloc | apply pw_below_drewN | apply below_drew1) | refine below_set ?_ (by omega))⟩⟩
      · skip
        go_wp2_with fail
        go_meet
        exact ⟨congrArg Value.bool (by simp [z0, z1]), ⟨(by repeat (with_reducible first | exact HD.out | apply IsBlk.alloc | apply IsBlk.drewN | apply IsBlk.drew))⟩, ⟨(by repeat (with_reducible first | exact HT.out | apply IsBlk.alloc | apply IsBlk.drewN | apply IsBlk.drew))⟩, ⟨by repeat (first | (with_reducible first | exact HB.out | apply below_alloc | apply pw_below_drewN | apply below_drew1) | refine below_set ?_ (by omega))⟩⟩
    · skip
      cases z1 : decide (th < hi)
      · skip
        go_wp2_with fail
        go_meet
        exact ⟨congrArg Value.bool (by simp [z0, z1]), ⟨(by repeat (with_reducible first | exact HD.out | apply IsBlk.alloc | apply IsBlk.drewN | apply IsBlk.drew))⟩, ⟨(by repeat (with_reducible first | exact HT.out | apply IsBlk.alloc | apply IsBlk.drewN | apply IsBlk.drew))⟩, ⟨by repeat (first | (with_reducible first | exact HB.out | apply below_alloc | apply pw_below_drewN | apply below_drew1) | refine below_set ?_ (by omega))⟩⟩
      · skip
        go_wp2_with fail
        go_meet
        exact ⟨congrArg Value.bool (by simp [z0, z1]), ⟨(by repeat (with_reducible first | exact HD.out | apply IsBlk.alloc | apply IsBlk.drewN | apply IsBlk.drew))⟩, ⟨(by repeat (with_reducible first | exact HT.out | apply IsBlk.alloc | apply IsBlk.drewN | apply IsBlk.drew))⟩, ⟨by repeat (first | (with_reducible first | exact HB.out | apply below_alloc | apply pw_below_drewN | apply below_drew1) | refine below_set ?_ (by omega))⟩⟩
  case rest =>
    clear D_0 D_1 D_2 D_3 D_4 D_5 D_l T_0 T_1 T_2 T_3 T_4 T_5 T_6 T_7 T_8 T_9 T_10 T_11 T_l
    clear HD HT HB
    obtain ⟨rfl, HD, HT, HB⟩ := hcut
    obtain ⟨ww, hww⟩ : ∃ x, x = wc := ⟨_, rfl⟩
    subst hww
    have D := HD.out
    have T := HT.out
    clear HD HT
    have D_0 := blk_cell D 0
    have D_1 := blk_cell D 1
    have D_2 := blk_cell D 2
    have D_3 := blk_cell D 3
    have D_4 := blk_cell D 4
    have D_5 := blk_cell D 5
    simp only [List.getElem?_toArray, List.getElem?_cons_zero, List.getElem?_cons_succ] at D_0 D_1 D_2 D_3 D_4 D_5
    have D_l := blk_lt D
    have HD := Aside0.mk D
    clear D
    have T_0 := blk_cell T 0
    have T_1 := blk_cell T 1
    have T_2 := blk_cell T 2
    have T_3 := blk_cell T 3
    have T_4 := blk_cell T 4
    have T_5 := blk_cell T 5
    have T_6 := blk_cell T 6
    have T_7 := blk_cell T 7
    have T_8 := blk_cell T 8
    have T_9 := blk_cell T 9
    have T_10 := blk_cell T 10
    have T_11 := blk_cell T 11
    simp only [List.getElem?_toArray, List.getElem?_cons_zero, List.getElem?_cons_succ] at T_0 T_1 T_2 T_3 T_4 T_5 T_6 T_7 T_8 T_9 T_10 T_11
    have T_l := blk_lt T
    have HT := Aside0.mk T
    clear T
    go_upto_if 26 with fail
    go_cut [8] (fun v8 wc => v8 = .int .i64 (x1) ∧ Aside0 (IsBlk wc w.heap.size #[.int .i64 nw, .int .i64 t, .int .i64 d, .int .i64 lo, .int .i64 hi, .bool true] 29) ∧ Aside0 (IsBlk wc gT #[.int .i64 nw, .int .i64 t, .int .i64 d, .int .i64 lo, .int .i64 hi, .bool true, (.slice A l.length c), .int .i64 fr, .int .i64 ol, .int .i64 th, .int .i64 up, .int .i64 fu] 51) ∧ Aside0 (Below w.heap.size w wc))
    case first =>
      cases zc : (decide (fr < t) && decide (th < hi))
      · go_wp2_with fail
        go_meet
        exact ⟨congrArg (Value.int .i64) (by have h := Q1.out; rw [zc] at h; simpa using h.symm), ⟨(by repeat (with_reducible first | exact HD.out | apply IsBlk.alloc | apply IsBlk.drewN | apply IsBlk.drew))⟩, ⟨(by repeat (with_reducible first | exact HT.out | apply IsBlk.alloc | apply IsBlk.drewN | apply IsBlk.drew))⟩, ⟨by repeat (first | (with_reducible first | exact HB.out | apply below_alloc | apply pw_below_drewN | apply below_drew1) | refine below_set ?_ (by omega))⟩⟩
      · go_wp2_with fail
        (with_reducible refine (idxT_q A c l _ ?hC hc h16).mono ?_)
        case hC => exact Kd.C_below HR.out (by repeat (first | (with_reducible first | exact HB.out | apply below_alloc | apply pw_below_drewN | apply below_drew1) | refine below_set ?_ (by omega)))
        rw [J1.out]
        rintro e w2 ⟨rfl, hb1⟩
        have D' := IsBlk.below (by repeat (with_reducible first | exact HD.out | apply IsBlk.alloc | apply IsBlk.drewN | apply IsBlk.drew)) hb1
        have T' := IsBlk.below (by repeat (with_reducible first | exact HT.out | apply IsBlk.alloc | apply IsBlk.drewN | apply IsBlk.drew)) hb1
        clear D_0 D_1 D_2 D_3 D_4 D_5 D_l T_0 T_1 T_2 T_3 T_4 T_5 T_6 T_7 T_8 T_9 T_10 T_11 T_l
        clear HD HT
        have HD := Aside0.mk D'
        have HT := Aside0.mk T'
        clear D' T'
        have n0 := Aside0.mk (below_step (by repeat (first | (with_reducible first | exact HB.out | apply below_alloc | apply pw_below_drewN | apply below_drew1) | refine below_set ?_ (by omega))) hb1)
        clear HB hb1
        have HB := n0
        clear n0
        go_wp2_with fail
        go_meet
        exact ⟨congrArg (Value.int .i64) (by have h := Q1.out; rw [zc] at h; simpa using h.symm), ⟨(by repeat (with_reducible first | exact HD.out | apply IsBlk.alloc | apply IsBlk.drewN | apply IsBlk.drew))⟩, ⟨(by repeat (with_reducible first | exact HT.out | apply IsBlk.alloc | apply IsBlk.drewN | apply IsBlk.drew))⟩, ⟨by repeat (first | (with_reducible first | exact HB.out | apply below_alloc | apply pw_below_drewN | apply below_drew1) | refine below_set ?_ (by omega))⟩⟩
    case rest =>
      clear D_0 D_1 D_2 D_3 D_4 D_5 D_l T_0 T_1 T_2 T_3 T_4 T_5 T_6 T_7 T_8 T_9 T_10 T_11 T_l
      clear HD HT HB
      obtain ⟨rfl, HD, HT, HB⟩ := hcut
      obtain ⟨wv, hwv⟩ : ∃ x, x = wc := ⟨_, rfl⟩
      subst hwv
      have D := HD.out
      have T := HT.out
      clear HD HT
      have D_0 := blk_cell D 0
      have D_1 := blk_cell D 1
      have D_2 := blk_cell D 2
      have D_3 := blk_cell D 3
      have D_4 := blk_cell D 4
      have D_5 := blk_cell D 5
      simp only [List.getElem?_toArray, List.getElem?_cons_zero, List.getElem?_cons_succ] at D_0 D_1 D_2 D_3 D_4 D_5
      have D_l := blk_lt D
      have HD := Aside0.mk D
      clear D
      have T_0 := blk_cell T 0
      have T_1 := blk_cell T 1
      have T_2 := blk_cell T 2
      have T_3 := blk_cell T 3
      have T_4 := blk_cell T 4
      have T_5 := blk_cell T 5
      have T_6 := blk_cell T 6
      have T_7 := blk_cell T 7
      have T_8 := blk_cell T 8
      have T_9 := blk_cell T 9
      have T_10 := blk_cell T 10
      have T_11 := blk_cell T 11
      simp only [List.getElem?_toArray, List.getElem?_cons_zero, List.getElem?_cons_succ] at T_0 T_1 T_2 T_3 T_4 T_5 T_6 T_7 T_8 T_9 T_10 T_11
      have T_l := blk_lt T
      have HT := Aside0.mk T
      clear T
      cases hf : decide (0 ≤ x1)
      · have hf' : ¬ 0 ≤ x1 := by simpa using hf
        obtain rfl : x1 = -1 := by omega
        clear hf hf'
        clear D_0 D_1 D_2 D_3 D_4 D_5 D_l T_0 T_1 T_2 T_3 T_4 T_5 T_6 T_7 T_8 T_9 T_10 T_11 T_l
        have D := HD.out
        have T := HT.out
        clear HD HT
        have D_0 := blk_cell D 0
        have D_1 := blk_cell D 1
        have D_2 := blk_cell D 2
        have D_3 := blk_cell D 3
        have D_4 := blk_cell D 4
        have D_5 := blk_cell D 5
        simp only [List.getElem?_toArray, List.getElem?_cons_zero, List.getElem?_cons_succ] at D_0 D_1 D_2 D_3 D_4 D_5
        have D_l := blk_lt D
        have HD := Aside0.mk D
        clear D
        have T_0 := blk_cell T 0
        have T_1 := blk_cell T 1
        have T_2 := blk_cell T 2
        have T_3 := blk_cell T 3
        have T_4 := blk_cell T 4
        have T_5 := blk_cell T 5
        have T_6 := blk_cell T 6
        have T_7 := blk_cell T 7
        have T_8 := blk_cell T 8
        have T_9 := blk_cell T 9
        have T_10 := blk_cell T 10
        have T_11 := blk_cell T 11
        simp only [List.getElem?_toArray, List.getElem?_cons_zero, List.getElem?_cons_succ] at T_0 T_1 T_2 T_3 T_4 T_5 T_6 T_7 T_8 T_9 T_10 T_11
        have T_l := blk_lt T
        have HT := Aside0.mk T
        clear T
        go_upto_region 6 with fail
        go_cut [41] (fun v41 wc => v41 = .bool (false) ∧ Aside0 (IsBlk wc w.heap.size #[.int .i64 nw, .int .i64 t, .int .i64 d, .int .i64 lo, .int .i64 hi, .bool true] 29) ∧ Aside0 (IsBlk wc gT #[.int .i64 nw, .int .i64 t, .int .i64 d, .int .i64 lo, .int .i64 hi, .bool true, (.slice A l.length c), .int .i64 fr, .int .i64 ol, .int .i64 th, .int .i64 up, .int .i64 fu] 51) ∧ Aside0 (Below w.heap.size w wc))
        case first =>
          cases z0 : decide (fr < t)
          · skip
            go_wp2_with fail
            go_meet
            exact ⟨congrArg Value.bool (by simp [z0]), ⟨(by repeat (with_reducible first | exact HD.out | apply IsBlk.alloc | apply IsBlk.drewN | apply IsBlk.drew))⟩, ⟨(by repeat (with_reducible first | exact HT.out | apply IsBlk.alloc | apply IsBlk.drewN | apply IsBlk.drew))⟩, ⟨by repeat (first | (with_reducible first | exact HB.out | apply below_alloc | apply pw_below_drewN | apply below_drew1) | refine below_set ?_ (by omega))⟩⟩
          · skip
            go_wp2_with fail
            go_meet
            exact ⟨congrArg Value.bool (by simp [z0]), ⟨(by repeat (with_reducible first | exact HD.out | apply IsBlk.alloc | apply IsBlk.drewN | apply IsBlk.drew))⟩, ⟨(by repeat (with_reducible first | exact HT.out | apply IsBlk.alloc | apply IsBlk.drewN | apply IsBlk.drew))⟩, ⟨by repeat (first | (with_reducible first | exact HB.out | apply below_alloc | apply pw_below_drewN | apply below_drew1) | refine below_set ?_ (by omega))⟩⟩
        case rest =>
          clear D_0 D_1 D_2 D_3 D_4 D_5 D_l T_0 T_1 T_2 T_3 T_4 T_5 T_6 T_7 T_8 T_9 T_10 T_11 T_l
          clear HD HT HB
          obtain ⟨rfl, HD, HT, HB⟩ := hcut
          obtain ⟨ww, hww⟩ : ∃ x, x = wc := ⟨_, rfl⟩
          subst hww
          obtain rfl : x2 = -1 := by have h := Q2.out; simpa using h
          have D := HD.out
          have T := HT.out
          clear HD HT
          have D_0 := blk_cell D 0
          have D_1 := blk_cell D 1
          have D_2 := blk_cell D 2
          have D_3 := blk_cell D 3
          have D_4 := blk_cell D 4
          have D_5 := blk_cell D 5
          simp only [List.getElem?_toArray, List.getElem?_cons_zero, List.getElem?_cons_succ] at D_0 D_1 D_2 D_3 D_4 D_5
          have D_l := blk_lt D
          have HD := Aside0.mk D
          clear D
          have T_0 := blk_cell T 0
          have T_1 := blk_cell T 1
          have T_2 := blk_cell T 2
          have T_3 := blk_cell T 3
          have T_4 := blk_cell T 4
          have T_5 := blk_cell T 5
          have T_6 := blk_cell T 6
          have T_7 := blk_cell T 7
          have T_8 := blk_cell T 8
          have T_9 := blk_cell T 9
          have T_10 := blk_cell T 10
          have T_11 := blk_cell T 11
          simp only [List.getElem?_toArray, List.getElem?_cons_zero, List.getElem?_cons_succ] at T_0 T_1 T_2 T_3 T_4 T_5 T_6 T_7 T_8 T_9 T_10 T_11
          have T_l := blk_lt T
          have HT := Aside0.mk T
          clear T
          go_upto_region 10 with fail
          go_cut [74] (fun v74 wc => v74 = .bool (decide (d < fr + ol) && (decide (t ≤ fu) || decide (d < ol))) ∧ Aside0 (IsBlk wc w.heap.size #[.int .i64 nw, .int .i64 t, .int .i64 d, .int .i64 lo, .int .i64 hi, .bool true] 29) ∧ Aside0 (IsBlk wc gT #[.int .i64 nw, .int .i64 t, .int .i64 d, .int .i64 lo, .int .i64 hi, .bool true, (.slice A l.length c), .int .i64 fr, .int .i64 ol, .int .i64 th, .int .i64 up, .int .i64 fu] 51) ∧ Aside0 (Below w.heap.size w wc))
          case first =>
            cases z0 : decide (d < fr + ol)
            · skip
              cases z1 : decide (t ≤ fu)
              · skip
                cases z2 : decide (d < ol)
                · skip
                  go_wp2_with fail
                  go_meet
                  exact ⟨congrArg Value.bool (by simp [z0, z1, z2]), ⟨(by repeat (with_reducible first | exact HD.out | apply IsBlk.alloc | apply IsBlk.drewN | apply IsBlk.drew))⟩, ⟨(by repeat (with_reducible first | exact HT.out | apply IsBlk.alloc | apply IsBlk.drewN | apply IsBlk.drew))⟩, ⟨by repeat (first | (with_reducible first | exact HB.out | apply below_alloc | apply pw_below_drewN | apply below_drew1) | refine below_set ?_ (by omega))⟩⟩
                · skip
                  go_wp2_with fail
                  go_meet
                  exact ⟨congrArg Value.bool (by simp [z0, z1, z2]), ⟨(by repeat (with_reducible first | exact HD.out | apply IsBlk.alloc | apply IsBlk.drewN | apply IsBlk.drew))⟩, ⟨(by repeat (with_reducible first | exact HT.out | apply IsBlk.alloc | apply IsBlk.drewN | apply IsBlk.drew))⟩, ⟨by repeat (first | (with_reducible first | exact HB.out | apply below_alloc | apply pw_below_drewN | apply below_drew1) | refine below_set ?_ (by omega))⟩⟩
              · skip
                cases z2 : decide (d < ol)
                · skip
                  go_wp2_with fail
                  go_meet
                  exact ⟨congrArg Value.bool (by simp [z0, z1, z2]), ⟨(by repeat (with_reducible first | exact HD.out | apply IsBlk.alloc | apply IsBlk.drewN | apply IsBlk.drew))⟩, ⟨(by repeat (with_reducible first | exact HT.out | apply IsBlk.alloc | apply IsBlk.drewN | apply IsBlk.drew))⟩, ⟨by repeat (first | (with_reducible first | exact HB.out | apply below_alloc | apply pw_below_drewN | apply below_drew1) | refine below_set ?_ (by omega))⟩⟩
                · skip
                  go_wp2_with fail
                  go_meet
                  exact ⟨congrArg Value.bool (by simp [z0, z1, z2]), ⟨(by repeat (with_reducible first | exact HD.out | apply IsBlk.alloc | apply IsBlk.drewN | apply IsBlk.drew))⟩, ⟨(by repeat (with_reducible first | exact HT.out | apply IsBlk.alloc | apply IsBlk.drewN | apply IsBlk.drew))⟩, ⟨by repeat (first | (with_reducible first | exact HB.out | apply below_alloc | apply pw_below_drewN | apply below_drew1) | refine below_set ?_ (by omega))⟩⟩
            · skip
              cases z1 : decide (t ≤ fu)
              · skip
                cases z2 : decide (d < ol)
                · skip
                  go_wp2_with fail
                  go_meet
                  exact ⟨congrArg Value.bool (by simp [z0, z1, z2]), ⟨(by repeat (with_reducible first | exact HD.out | apply IsBlk.alloc | apply IsBlk.drewN | apply IsBlk.drew))⟩, ⟨(by repeat (with_reducible first | exact HT.out | apply IsBlk.alloc | apply IsBlk.drewN | apply IsBlk.drew))⟩, ⟨by repeat (first | (with_reducible first | exact HB.out | apply below_alloc | apply pw_below_drewN | apply below_drew1) | refine below_set ?_ (by omega))⟩⟩
                · skip
                  go_wp2_with fail
                  go_meet
                  exact ⟨congrArg Value.bool (by simp [z0, z1, z2]), ⟨(by repeat (with_reducible first | exact HD.out | apply IsBlk.alloc | apply IsBlk.drewN | apply IsBlk.drew))⟩, ⟨(by repeat (with_reducible first | exact HT.out | apply IsBlk.alloc | apply IsBlk.drewN | apply IsBlk.drew))⟩, ⟨by repeat (first | (with_reducible first | exact HB.out | apply below_alloc | apply pw_below_drewN | apply below_drew1) | refine below_set ?_ (by omega))⟩⟩
              · skip
                cases z2 : decide (d < ol)
                · skip
                  go_wp2_with fail
                  go_meet
                  exact ⟨congrArg Value.bool (by simp [z0, z1, z2]), ⟨(by repeat (with_reducible first | exact HD.out | apply IsBlk.alloc | apply IsBlk.drewN | apply IsBlk.drew))⟩, ⟨(by repeat (with_reducible first | exact HT.out | apply IsBlk.alloc | apply IsBlk.drewN | apply IsBlk.drew))⟩, ⟨by repeat (first | (with_reducible first | exact HB.out | apply below_alloc | apply pw_below_drewN | apply below_drew1) | refine below_set ?_ (by omega))⟩⟩
                · skip
                  go_wp2_with fail
                  go_meet
                  exact ⟨congrArg Value.bool (by simp [z0, z1, z2]), ⟨(by repeat (with_reducible first | exact HD.out | apply IsBlk.alloc | apply IsBlk.drewN | apply IsBlk.drew))⟩, ⟨(by repeat (with_reducible first | exact HT.out | apply IsBlk.alloc | apply IsBlk.drewN | apply IsBlk.drew))⟩, ⟨by repeat (first | (with_reducible first | exact HB.out | apply below_alloc | apply pw_below_drewN | apply below_drew1) | refine below_set ?_ (by omega))⟩⟩
          case rest =>
            clear D_0 D_1 D_2 D_3 D_4 D_5 D_l T_0 T_1 T_2 T_3 T_4 T_5 T_6 T_7 T_8 T_9 T_10 T_11 T_l
            clear HD HT HB
            obtain ⟨rfl, HD, HT, HB⟩ := hcut
            obtain ⟨ww, hww⟩ : ∃ x, x = wc := ⟨_, rfl⟩
            subst hww
            have D := HD.out
            have T := HT.out
            clear HD HT
            have D_0 := blk_cell D 0
            have D_1 := blk_cell D 1
            have D_2 := blk_cell D 2
            have D_3 := blk_cell D 3
            have D_4 := blk_cell D 4
            have D_5 := blk_cell D 5
            simp only [List.getElem?_toArray, List.getElem?_cons_zero, List.getElem?_cons_succ] at D_0 D_1 D_2 D_3 D_4 D_5
            have D_l := blk_lt D
            have HD := Aside0.mk D
            clear D
            have T_0 := blk_cell T 0
            have T_1 := blk_cell T 1
            have T_2 := blk_cell T 2
            have T_3 := blk_cell T 3
            have T_4 := blk_cell T 4
            have T_5 := blk_cell T 5
            have T_6 := blk_cell T 6
            have T_7 := blk_cell T 7
            have T_8 := blk_cell T 8
            have T_9 := blk_cell T 9
            have T_10 := blk_cell T 10
            have T_11 := blk_cell T 11
            simp only [List.getElem?_toArray, List.getElem?_cons_zero, List.getElem?_cons_succ] at T_0 T_1 T_2 T_3 T_4 T_5 T_6 T_7 T_8 T_9 T_10 T_11
            have T_l := blk_lt T
            have HT := Aside0.mk T
            clear T
            go_upto_if 74 with fail
            go_cut [8] (fun v8 wc => v8 = .int .i64 (x3) ∧ Aside0 (IsBlk wc w.heap.size #[.int .i64 nw, .int .i64 t, .int .i64 d, .int .i64 lo, .int .i64 hi, .bool true] 29) ∧ Aside0 (IsBlk wc gT #[.int .i64 nw, .int .i64 t, .int .i64 d, .int .i64 lo, .int .i64 hi, .bool true, (.slice A l.length c), .int .i64 fr, .int .i64 ol, .int .i64 th, .int .i64 up, .int .i64 fu] 51) ∧ Aside0 (Below w.heap.size w wc))
            case first =>
              cases zc : (decide (d < fr + ol) && (decide (t ≤ fu) || decide (d < ol)))
              · go_wp2_with fail
                go_meet
                exact ⟨congrArg (Value.int .i64) (by have h := Q3.out; rw [zc] at h; simpa using h.symm), ⟨(by repeat (with_reducible first | exact HD.out | apply IsBlk.alloc | apply IsBlk.drewN | apply IsBlk.drew))⟩, ⟨(by repeat (with_reducible first | exact HT.out | apply IsBlk.alloc | apply IsBlk.drewN | apply IsBlk.drew))⟩, ⟨by repeat (first | (with_reducible first | exact HB.out | apply below_alloc | apply pw_below_drewN | apply below_drew1) | refine below_set ?_ (by omega))⟩⟩
              · go_wp2_with fail
                (with_reducible refine (goesO_q nw t d lo hi true fr ol th fu A c l _ ?hC hc h16 up Eup.out.symm).mono ?_)
                case hC => exact Kd.C_below HR.out (by repeat (first | (with_reducible first | exact HB.out | apply below_alloc | apply pw_below_drewN | apply below_drew1) | refine below_set ?_ (by omega)))
                rw [J2.out]
                rintro e w2 ⟨rfl, hb1⟩
                have D' := IsBlk.below (by repeat (with_reducible first | exact HD.out | apply IsBlk.alloc | apply IsBlk.drewN | apply IsBlk.drew)) hb1
                have T' := IsBlk.below (by repeat (with_reducible first | exact HT.out | apply IsBlk.alloc | apply IsBlk.drewN | apply IsBlk.drew)) hb1
                clear D_0 D_1 D_2 D_3 D_4 D_5 D_l T_0 T_1 T_2 T_3 T_4 T_5 T_6 T_7 T_8 T_9 T_10 T_11 T_l
                clear HD HT
                have HD := Aside0.mk D'
                have HT := Aside0.mk T'
                clear D' T'
                have n0 := Aside0.mk (below_step (by repeat (first | (with_reducible first | exact HB.out | apply below_alloc | apply pw_below_drewN | apply below_drew1) | refine below_set ?_ (by omega))) hb1)
                clear HB hb1
                have HB := n0
                clear n0
                go_wp2_with fail
                go_meet
                exact ⟨congrArg (Value.int .i64) (by have h := Q3.out; rw [zc] at h; simpa using h.symm), ⟨(by repeat (with_reducible first | exact HD.out | apply IsBlk.alloc | apply IsBlk.drewN | apply IsBlk.drew))⟩, ⟨(by repeat (with_reducible first | exact HT.out | apply IsBlk.alloc | apply IsBlk.drewN | apply IsBlk.drew))⟩, ⟨by repeat (first | (with_reducible first | exact HB.out | apply below_alloc | apply pw_below_drewN | apply below_drew1) | refine below_set ?_ (by omega))⟩⟩
            case rest =>
              clear D_0 D_1 D_2 D_3 D_4 D_5 D_l T_0 T_1 T_2 T_3 T_4 T_5 T_6 T_7 T_8 T_9 T_10 T_11 T_l
              clear HD HT HB
              obtain ⟨rfl, HD, HT, HB⟩ := hcut
              obtain ⟨wv, hwv⟩ : ∃ x, x = wc := ⟨_, rfl⟩
              subst hwv
              have D := HD.out
              have T := HT.out
              clear HD HT
              have D_0 := blk_cell D 0
              have D_1 := blk_cell D 1
              have D_2 := blk_cell D 2
              have D_3 := blk_cell D 3
              have D_4 := blk_cell D 4
              have D_5 := blk_cell D 5
              simp only [List.getElem?_toArray, List.getElem?_cons_zero, List.getElem?_cons_succ] at D_0 D_1 D_2 D_3 D_4 D_5
              have D_l := blk_lt D
              have HD := Aside0.mk D
              clear D
              have T_0 := blk_cell T 0
              have T_1 := blk_cell T 1
              have T_2 := blk_cell T 2
              have T_3 := blk_cell T 3
              have T_4 := blk_cell T 4
              have T_5 := blk_cell T 5
              have T_6 := blk_cell T 6
              have T_7 := blk_cell T 7
              have T_8 := blk_cell T 8
              have T_9 := blk_cell T 9
              have T_10 := blk_cell T 10
              have T_11 := blk_cell T 11
              simp only [List.getElem?_toArray, List.getElem?_cons_zero, List.getElem?_cons_succ] at T_0 T_1 T_2 T_3 T_4 T_5 T_6 T_7 T_8 T_9 T_10 T_11
              have T_l := blk_lt T
              have HT := Aside0.mk T
              clear T
              go_upto_region 12 with fail
              go_cut [87] (fun v87 wc => v87 = .bool (decide (x3 < 0) && decide (t < fr)) ∧ Aside0 (IsBlk wc w.heap.size #[.int .i64 nw, .int .i64 t, .int .i64 d, .int .i64 lo, .int .i64 hi, .bool true] 29) ∧ Aside0 (IsBlk wc gT #[.int .i64 nw, .int .i64 t, .int .i64 d, .int .i64 lo, .int .i64 hi, .bool true, (.slice A l.length c), .int .i64 fr, .int .i64 ol, .int .i64 th, .int .i64 up, .int .i64 fu] 51) ∧ Aside0 (Below w.heap.size w wc))
              case first =>
                cases z0 : decide (x3 < 0)
                · skip
                  cases z1 : decide (t < fr)
                  · skip
                    go_wp2_with fail
                    go_meet
                    exact ⟨congrArg Value.bool (by simp [z0, z1]), ⟨(by repeat (with_reducible first | exact HD.out | apply IsBlk.alloc | apply IsBlk.drewN | apply IsBlk.drew))⟩, ⟨(by repeat (with_reducible first | exact HT.out | apply IsBlk.alloc | apply IsBlk.drewN | apply IsBlk.drew))⟩, ⟨by repeat (first | (with_reducible first | exact HB.out | apply below_alloc | apply pw_below_drewN | apply below_drew1) | refine below_set ?_ (by omega))⟩⟩
                  · skip
                    go_wp2_with fail
                    go_meet
                    exact ⟨congrArg Value.bool (by simp [z0, z1]), ⟨(by repeat (with_reducible first | exact HD.out | apply IsBlk.alloc | apply IsBlk.drewN | apply IsBlk.drew))⟩, ⟨(by repeat (with_reducible first | exact HT.out | apply IsBlk.alloc | apply IsBlk.drewN | apply IsBlk.drew))⟩, ⟨by repeat (first | (with_reducible first | exact HB.out | apply below_alloc | apply pw_below_drewN | apply below_drew1) | refine below_set ?_ (by omega))⟩⟩
                · skip
                  cases z1 : decide (t < fr)
                  · skip
                    go_wp2_with fail
                    go_meet
                    exact ⟨congrArg Value.bool (by simp [z0, z1]), ⟨(by repeat (with_reducible first | exact HD.out | apply IsBlk.alloc | apply IsBlk.drewN | apply IsBlk.drew))⟩, ⟨(by repeat (with_reducible first | exact HT.out | apply IsBlk.alloc | apply IsBlk.drewN | apply IsBlk.drew))⟩, ⟨by repeat (first | (with_reducible first | exact HB.out | apply below_alloc | apply pw_below_drewN | apply below_drew1) | refine below_set ?_ (by omega))⟩⟩
                  · skip
                    go_wp2_with fail
                    go_meet
                    exact ⟨congrArg Value.bool (by simp [z0, z1]), ⟨(by repeat (with_reducible first | exact HD.out | apply IsBlk.alloc | apply IsBlk.drewN | apply IsBlk.drew))⟩, ⟨(by repeat (with_reducible first | exact HT.out | apply IsBlk.alloc | apply IsBlk.drewN | apply IsBlk.drew))⟩, ⟨by repeat (first | (with_reducible first | exact HB.out | apply below_alloc | apply pw_below_drewN | apply below_drew1) | refine below_set ?_ (by omega))⟩⟩
              case rest =>
                clear D_0 D_1 D_2 D_3 D_4 D_5 D_l T_0 T_1 T_2 T_3 T_4 T_5 T_6 T_7 T_8 T_9 T_10 T_11 T_l
                clear HD HT HB
                obtain ⟨rfl, HD, HT, HB⟩ := hcut
                obtain ⟨ww, hww⟩ : ∃ x, x = wc := ⟨_, rfl⟩
                subst hww
                have D := HD.out
                have T := HT.out
                clear HD HT
                have D_0 := blk_cell D 0
                have D_1 := blk_cell D 1
                have D_2 := blk_cell D 2
                have D_3 := blk_cell D 3
                have D_4 := blk_cell D 4
                have D_5 := blk_cell D 5
                simp only [List.getElem?_toArray, List.getElem?_cons_zero, List.getElem?_cons_succ] at D_0 D_1 D_2 D_3 D_4 D_5
                have D_l := blk_lt D
                have HD := Aside0.mk D
                clear D
                have T_0 := blk_cell T 0
                have T_1 := blk_cell T 1
                have T_2 := blk_cell T 2
                have T_3 := blk_cell T 3
                have T_4 := blk_cell T 4
                have T_5 := blk_cell T 5
                have T_6 := blk_cell T 6
                have T_7 := blk_cell T 7
                have T_8 := blk_cell T 8
                have T_9 := blk_cell T 9
                have T_10 := blk_cell T 10
                have T_11 := blk_cell T 11
                simp only [List.getElem?_toArray, List.getElem?_cons_zero, List.getElem?_cons_succ] at T_0 T_1 T_2 T_3 T_4 T_5 T_6 T_7 T_8 T_9 T_10 T_11
                have T_l := blk_lt T
                have HT := Aside0.mk T
                clear T
                go_upto_if 87 with fail
                go_cut [8] (fun v8 wc => v8 = .int .i64 (if x3 < 0 then x4 else x3) ∧ Aside0 (IsBlk wc w.heap.size #[.int .i64 nw, .int .i64 t, .int .i64 d, .int .i64 lo, .int .i64 hi, .bool true] 29) ∧ Aside0 (IsBlk wc gT #[.int .i64 nw, .int .i64 t, .int .i64 d, .int .i64 lo, .int .i64 hi, .bool true, (.slice A l.length c), .int .i64 fr, .int .i64 ol, .int .i64 th, .int .i64 up, .int .i64 fu] 51) ∧ Aside0 (Below w.heap.size w wc))
                case first =>
                  cases zc : (decide (x3 < 0) && decide (t < fr))
                  · go_wp2_with fail
                    go_meet
                    exact ⟨congrArg (Value.int .i64) (by have h := Q4.out; simp at zc; split <;> (try simp [*] at h) <;> omega), ⟨(by repeat (with_reducible first | exact HD.out | apply IsBlk.alloc | apply IsBlk.drewN | apply IsBlk.drew))⟩, ⟨(by repeat (with_reducible first | exact HT.out | apply IsBlk.alloc | apply IsBlk.drewN | apply IsBlk.drew))⟩, ⟨by repeat (first | (with_reducible first | exact HB.out | apply below_alloc | apply pw_below_drewN | apply below_drew1) | refine below_set ?_ (by omega))⟩⟩
                  · go_wp2_with fail
                    (with_reducible refine (goesN_q nw t d lo hi true fr ol th fu A c l _ ?hC hc h16 up Eup.out.symm).mono ?_)
                    case hC => exact Kd.C_below HR.out (by repeat (first | (with_reducible first | exact HB.out | apply below_alloc | apply pw_below_drewN | apply below_drew1) | refine below_set ?_ (by omega)))
                    rw [J4.out]
                    rintro e w2 ⟨rfl, hb1⟩
                    have D' := IsBlk.below (by repeat (with_reducible first | exact HD.out | apply IsBlk.alloc | apply IsBlk.drewN | apply IsBlk.drew)) hb1
                    have T' := IsBlk.below (by repeat (with_reducible first | exact HT.out | apply IsBlk.alloc | apply IsBlk.drewN | apply IsBlk.drew)) hb1
                    clear D_0 D_1 D_2 D_3 D_4 D_5 D_l T_0 T_1 T_2 T_3 T_4 T_5 T_6 T_7 T_8 T_9 T_10 T_11 T_l
                    clear HD HT
                    have HD := Aside0.mk D'
                    have HT := Aside0.mk T'
                    clear D' T'
                    have n0 := Aside0.mk (below_step (by repeat (first | (with_reducible first | exact HB.out | apply below_alloc | apply pw_below_drewN | apply below_drew1) | refine below_set ?_ (by omega))) hb1)
                    clear HB hb1
                    have HB := n0
                    clear n0
                    go_wp2_with fail
                    go_meet
                    exact ⟨congrArg (Value.int .i64) (by have h := Q4.out; simp at zc; rw [if_pos zc.1]; simp [zc.2] at h; exact h.symm), ⟨(by repeat (with_reducible first | exact HD.out | apply IsBlk.alloc | apply IsBlk.drewN | apply IsBlk.drew))⟩, ⟨(by repeat (with_reducible first | exact HT.out | apply IsBlk.alloc | apply IsBlk.drewN | apply IsBlk.drew))⟩, ⟨by repeat (first | (with_reducible first | exact HB.out | apply below_alloc | apply pw_below_drewN | apply below_drew1) | refine below_set ?_ (by omega))⟩⟩
                case rest =>
                  clear D_0 D_1 D_2 D_3 D_4 D_5 D_l T_0 T_1 T_2 T_3 T_4 T_5 T_6 T_7 T_8 T_9 T_10 T_11 T_l
                  clear HD HT HB
                  obtain ⟨rfl, HD, HT, HB⟩ := hcut
                  obtain ⟨wv, hwv⟩ : ∃ x, x = wc := ⟨_, rfl⟩
                  subst hwv
                  obtain ⟨y, hy⟩ : ∃ y, (if x3 < 0 then x4 else x3) = y := ⟨_, rfl⟩
                  rw [hy]
                  have HY := Aside0.mk hy
                  clear hy
                  have D := HD.out
                  have T := HT.out
                  clear HD HT
                  have D_0 := blk_cell D 0
                  have D_1 := blk_cell D 1
                  have D_2 := blk_cell D 2
                  have D_3 := blk_cell D 3
                  have D_4 := blk_cell D 4
                  have D_5 := blk_cell D 5
                  simp only [List.getElem?_toArray, List.getElem?_cons_zero, List.getElem?_cons_succ] at D_0 D_1 D_2 D_3 D_4 D_5
                  have D_l := blk_lt D
                  have HD := Aside0.mk D
                  clear D
                  have T_0 := blk_cell T 0
                  have T_1 := blk_cell T 1
                  have T_2 := blk_cell T 2
                  have T_3 := blk_cell T 3
                  have T_4 := blk_cell T 4
                  have T_5 := blk_cell T 5
                  have T_6 := blk_cell T 6
                  have T_7 := blk_cell T 7
                  have T_8 := blk_cell T 8
                  have T_9 := blk_cell T 9
                  have T_10 := blk_cell T 10
                  have T_11 := blk_cell T 11
                  simp only [List.getElem?_toArray, List.getElem?_cons_zero, List.getElem?_cons_succ] at T_0 T_1 T_2 T_3 T_4 T_5 T_6 T_7 T_8 T_9 T_10 T_11
                  have T_l := blk_lt T
                  have HT := Aside0.mk T
                  clear T
                  cases h4 : decide (y < 0)
                  · have h4' : ¬ y < 0 := by simpa using h4
                    go_wp2_with fail
                    (try go_step3)
                    (try go_wp2_with fail)
                    simp only [Exit.noGoto, Exit.jump]
                    refine bodyPost_ret (v := .tuple #[.int .i64 y, .int .i64 0, .bool true]) (by simp [results, Try.results10, go_sem, *]) rfl ⟨?_, by repeat (first | (with_reducible first | exact HB.out | apply below_alloc | apply pw_below_drewN | apply below_drew1) | refine below_set ?_ (by omega))⟩
                    rw [HN.out, if_neg (by omega), if_neg (by omega)]
                    have hy := HY.out
                    split at hy
                    · rw [if_neg (by omega), if_pos (by omega), hy]
                    · rw [if_pos (by omega), hy]
                  · have h4' : y < 0 := by simpa using h4
                    go_wp2_with fail
                    simp only [Exit.noGoto, Exit.jump]
                    refine bodyPost_ret (v := .tuple #[.int .i64 0, .int .i64 0, .bool false]) (by simp [results, Try.results10, go_sem, *]) rfl ⟨?_, by repeat (first | (with_reducible first | exact HB.out | apply below_alloc | apply pw_below_drewN | apply below_drew1) | refine below_set ?_ (by omega))⟩
                    rw [HN.out, if_neg (by omega), if_neg (by omega)]
                    have hy := HY.out
                    split at hy
                    · rw [if_neg (by omega), if_neg (by omega)]
                    · omega
      · have hf' : 0 ≤ x1 := by simpa using hf
        go_wp2_with fail
        go_step3
        refine ⟨rfl, ?_⟩
        go_wp2_with fail
        (try go_step3)
        (try go_wp2_with fail)
        simp only [Exit.noGoto, Exit.jump]
        refine bodyPost_ret (v := .tuple #[.int .i64 x1, .int .i64 nw, .bool true]) (by simp [results, Try.results10, go_sem, *]) rfl ⟨?_, by repeat (first | (with_reducible first | exact HB.out | apply below_alloc | apply pw_below_drewN | apply below_drew1) | refine below_set ?_ (by omega))⟩
        rw [HN.out, if_pos hf']

set_option maxRecDepth 100000 in
set_option maxHeartbeats 16000000 in
theorem next_false (nw t d lo hi : Int) (A : Option Addr) (c : Nat) (l : List S35) (w : World) (hr : Kd.C k35 w A l.length l) (hc : l.length ≤ c) (h16 : l.length ≤ 16) :
    Calls Try.prog 10 #[.agg #[.int .i64 nw, .int .i64 t, .int .i64 d, .int .i64 lo, .int .i64 hi, .bool false], .slice A l.length c] w fun e w' => e = .returned (.tuple #[.int .i64 (nextV ⟨nw, t, d, lo, hi, false⟩ l).i, .int .i64 (nextV ⟨nw, t, d, lo, hi, false⟩ l).v, .bool (nextV ⟨nw, t, d, lo, hi, false⟩ l).is]) ∧ Below w.heap.size w w' := by
  have HB := Aside0.mk (Below.refl w.heap.size w)
  have HR := Aside0.mk hr
  obtain ⟨fr, efr⟩ : ∃ n, (cnt (isNew ⟨nw, t, d, lo, hi, false⟩) l) = n := ⟨_, rfl⟩
  have bdfr := cnt_bound (isNew ⟨nw, t, d, lo, hi, false⟩) l
  rw [efr] at bdfr
  obtain ⟨ol, eol⟩ : ∃ n, (cnt (isOld ⟨nw, t, d, lo, hi, false⟩) l) = n := ⟨_, rfl⟩
  have bdol := cnt_bound (isOld ⟨nw, t, d, lo, hi, false⟩) l
  rw [eol] at bdol
  obtain ⟨th, eth⟩ : ∃ n, (cnt isThere l) = n := ⟨_, rfl⟩
  have bdth := cnt_bound isThere l
  rw [eth] at bdth
  obtain ⟨up, eup⟩ : ∃ n, (cnt isUp l) = n := ⟨_, rfl⟩
  have bdup := cnt_bound isUp l
  rw [eup] at bdup
  obtain ⟨fu, efu⟩ : ∃ n, (cnt (newUp ⟨nw, t, d, lo, hi, false⟩) l) = n := ⟨_, rfl⟩
  have bdfu := cnt_bound (newUp ⟨nw, t, d, lo, hi, false⟩) l
  rw [efu] at bdfu
  have Efr := Aside0.mk efr
  have Eol := Aside0.mk eol
  have Eth := Aside0.mk eth
  have Eup := Aside0.mk eup
  have Efu := Aside0.mk efu
  clear efr eol eth eup efu
  clear hr
  have hm : (l.length : Int) ≤ 16 := by omega
  go_enter Try.func10, Try.ntmps10
  go_wp2_with fail
  refine wp_scope_once 0 (by rfl) ?_
  go_wp2_with fail
  (with_reducible refine (of_q nw t d lo hi false A c l _ ?hC hc h16).mono ?_)
  case hC => exact Kd.C_below HR.out (by repeat (first | (with_reducible first | exact HB.out | apply below_alloc | apply pw_below_drewN | apply below_drew1) | refine below_set ?_ (by omega)))
  rw [Efr.out, Eol.out, Eth.out, Eup.out, Efu.out]
  rintro e w1 ⟨rfl, hb1⟩
  have D : IsBlk w1 w.heap.size #[.int .i64 nw, .int .i64 t, .int .i64 d, .int .i64 lo, .int .i64 hi, .bool false] 29 := IsBlk.below (by repeat (first | ((refine IsBlk.new _ _ ?_); (simp; done)) | apply IsBlk.alloc | apply IsBlk.drewN)) hb1
  have n0 := Aside0.mk (below_step (by repeat (first | (with_reducible first | exact HB.out | apply below_alloc | apply pw_below_drewN | apply below_drew1) | refine below_set ?_ (by omega))) hb1)
  clear HB hb1
  have HB := n0
  clear n0
  have D_0 := blk_cell D 0
  have D_1 := blk_cell D 1
  have D_2 := blk_cell D 2
  have D_3 := blk_cell D 3
  have D_4 := blk_cell D 4
  have D_5 := blk_cell D 5
  simp only [List.getElem?_toArray, List.getElem?_cons_zero, List.getElem?_cons_succ] at D_0 D_1 D_2 D_3 D_4 D_5
  have D_l := blk_lt D
  have HD := Aside0.mk D
  clear D
  go_wp2_with fail
  have D' : IsBlk (w1.alloc (.cells #[.int .i64 nw, .int .i64 t, .int .i64 d, .int .i64 lo, .int .i64 hi, .bool false, (.slice A l.length c), .int .i64 fr, .int .i64 ol, .int .i64 th, .int .i64 up, .int .i64 fu] 51)) w.heap.size #[.int .i64 nw, .int .i64 t, .int .i64 d, .int .i64 lo, .int .i64 hi, .bool false] 29 := (by repeat (with_reducible first | exact HD.out | apply IsBlk.alloc | apply IsBlk.drewN | apply IsBlk.drew))
  clear D_0 D_1 D_2 D_3 D_4 D_5 D_l HD
  have D := D'
  clear D'
  have D_0 := blk_cell D 0
  have D_1 := blk_cell D 1
  have D_2 := blk_cell D 2
  have D_3 := blk_cell D 3
  have D_4 := blk_cell D 4
  have D_5 := blk_cell D 5
  simp only [List.getElem?_toArray, List.getElem?_cons_zero, List.getElem?_cons_succ] at D_0 D_1 D_2 D_3 D_4 D_5
  have D_l := blk_lt D
  have HD := Aside0.mk D
  clear D
  refine start_ (n := 4) (S := fun w' => w'.cell? ⟨w.heap.size, 0, none⟩ = some (.int .i64 nw)) (ds := []) #[false, false, false, false] (by kernel_rfl) rfl rfl (D_0) (fun hHeld => ?_)
  refine pure_ (i := 0) (N := some 13) (v := ?_) (a' := ?_) #[true, false, false, false] rfl rfl (by kernel_rfl) (fun _ _ _ h => h) (Or.inl ⟨by rfl, ?_⟩) ?_ ?_
  rotate_left
  · intro w'
    go_simp
    with_reducible rfl
  rotate_left
  · simp only [Act.put, List.setIfInBounds_toArray, List.set_cons_zero, List.set_cons_succ, i64_w, i32_w]
    rfl
  refine pure_ (i := 2) (N := some 8) (v := ?_) (a' := ?_) #[true, false, true, false] rfl rfl (by kernel_rfl) (fun _ _ _ h => h) (Or.inl ⟨by rfl, ?_⟩) ?_ ?_
  rotate_left
  · intro w'
    go_simp
    with_reducible rfl
  rotate_left
  · simp only [Act.put, List.setIfInBounds_toArray, List.set_cons_zero, List.set_cons_succ, i64_w, i32_w]
    rfl
  refine take_ (i := 1) (N := some 14) (v := ?_) (a' := ?_) #[true, true, true, false] rfl rfl (by kernel_rfl) (fun _ _ _ h => h) (Or.inl ⟨by rfl, ?_⟩) hHeld ?_ ?_
  rotate_left
  · intro w' s0
    go_simp
    with_reducible rfl
  rotate_left
  · simp only [Act.put, List.setIfInBounds_toArray, List.set_cons_zero, List.set_cons_succ, i64_w, i32_w]
    rfl
  refine pure_ (i := 3) (N := some 9) (v := ?_) (a' := ?_) #[true, true, true, true] rfl rfl (by kernel_rfl) (fun _ _ _ h => h) (Or.inl ⟨by rfl, ?_⟩) ?_ ?_
  rotate_left
  · intro w'
    go_simp
    with_reducible rfl
  rotate_left
  · simp only [Act.put, List.setIfInBounds_toArray, List.set_cons_zero, List.set_cons_succ, i64_w, i32_w]
    rfl
  refine done_ (by kernel_rfl) ?_
  have T0 : IsBlk ((w1.alloc (.cells #[.int .i64 nw, .int .i64 t, .int .i64 d, .int .i64 lo, .int .i64 hi, .bool false, (.slice A l.length c), .int .i64 fr, .int .i64 ol, .int .i64 th, .int .i64 up, .int .i64 fu] 51)).drew) w1.heap.size #[.int .i64 nw, .int .i64 t, .int .i64 d, .int .i64 lo, .int .i64 hi, .bool false, (.slice A l.length c), .int .i64 fr, .int .i64 ol, .int .i64 th, .int .i64 up, .int .i64 fu] 51 := (IsBlk.new _ _ rfl).drew
  have D0 : IsBlk ((w1.alloc (.cells #[.int .i64 nw, .int .i64 t, .int .i64 d, .int .i64 lo, .int .i64 hi, .bool false, (.slice A l.length c), .int .i64 fr, .int .i64 ol, .int .i64 th, .int .i64 up, .int .i64 fu] 51)).drew) w.heap.size #[.int .i64 nw, .int .i64 t, .int .i64 d, .int .i64 lo, .int .i64 hi, .bool false] 29 := HD.out.drew
  have n0 : Below w.heap.size w ((w1.alloc (.cells #[.int .i64 nw, .int .i64 t, .int .i64 d, .int .i64 lo, .int .i64 hi, .bool false, (.slice A l.length c), .int .i64 fr, .int .i64 ol, .int .i64 th, .int .i64 up, .int .i64 fu] 51)).drew) := (by repeat (first | (with_reducible first | exact HB.out | apply below_alloc | apply pw_below_drewN | apply below_drew1) | refine below_set ?_ (by omega)))
  clear D_0 D_1 D_2 D_3 D_4 D_5 D_l HD
  clear HB
  generalize (w1.alloc (.cells #[.int .i64 nw, .int .i64 t, .int .i64 d, .int .i64 lo, .int .i64 hi, .bool false, (.slice A l.length c), .int .i64 fr, .int .i64 ol, .int .i64 th, .int .i64 up, .int .i64 fu] 51)).drew = wa at *
  generalize w1.heap.size = gT at *
  have HT := Aside0.mk T0
  have HD := Aside0.mk D0
  have HB := Aside0.mk n0
  clear T0 D0 n0
  obtain ⟨j1, hj1⟩ : ∃ z, idx noneThere l = z := ⟨_, rfl⟩
  obtain ⟨j2, hj2⟩ : ∃ z, goesV ⟨nw, t, d, lo, hi, false⟩ (isOld ⟨nw, t, d, lo, hi, false⟩) l = z := ⟨_, rfl⟩
  obtain ⟨j4, hj4⟩ : ∃ z, goesV ⟨nw, t, d, lo, hi, false⟩ (isNew ⟨nw, t, d, lo, hi, false⟩) l = z := ⟨_, rfl⟩
  obtain ⟨x1, hx1⟩ : ∃ z, nI1 ⟨nw, t, d, lo, hi, false⟩ l = z := ⟨_, rfl⟩
  obtain ⟨x2, hx2⟩ : ∃ z, nI2 ⟨nw, t, d, lo, hi, false⟩ l = z := ⟨_, rfl⟩
  obtain ⟨x3, hx3⟩ : ∃ z, nI3 ⟨nw, t, d, lo, hi, false⟩ l = z := ⟨_, rfl⟩
  obtain ⟨x4, hx4⟩ : ∃ z, nI4 ⟨nw, t, d, lo, hi, false⟩ l = z := ⟨_, rfl⟩
  have low1 : -1 ≤ x1 := by
    have h1 := idx_low noneThere l
    rw [← hx1]; unfold nI1; split <;> omega
  have low2 : -1 ≤ x2 := by
    have h1 := goes_low ⟨nw, t, d, lo, hi, false⟩ (isOld ⟨nw, t, d, lo, hi, false⟩) l
    rw [← hx2]; unfold nI2; split <;> omega
  have low3 : -1 ≤ x3 := by
    have h1 := goes_low ⟨nw, t, d, lo, hi, false⟩ (isOld ⟨nw, t, d, lo, hi, false⟩) l
    rw [← hx3]; unfold nI3; split <;> omega
  have low4 : -1 ≤ x4 := by
    have h1 := goes_low ⟨nw, t, d, lo, hi, false⟩ (isNew ⟨nw, t, d, lo, hi, false⟩) l
    rw [← hx4]; unfold nI4; split <;> omega
  have q1 : x1 = if (decide (fr < t) && decide (th < hi)) = true then j1 else -1 := by
    rw [← hx1, ← hj1, ← Efr.out, ← Eth.out]; unfold nI1; simp only [Bool.and_eq_true, decide_eq_true_eq]
  have q2 : x2 = if (decide (fr < t)) = true then j2 else -1 := by
    rw [← hx2, ← hj2]; (try rw [← Efr.out]); unfold nI2; simp
  have q3 : x3 = if (decide (d < fr + ol)) = true then j2 else -1 := by
    rw [← hx3, ← hj2, ← Efr.out, ← Eol.out]; (try rw [← Efu.out]); unfold nI3; simp [or_assoc]
  have q4 : x4 = if decide (t < fr) = true then j4 else -1 := by
    rw [← hx4, ← hj4, ← Efr.out]; unfold nI4; simp
  have hN : nextV ⟨nw, t, d, lo, hi, false⟩ l = if 0 ≤ x1 then ⟨x1, nw, true⟩ else if 0 ≤ x2 then ⟨x2, nw, true⟩ else if 0 ≤ x3 then ⟨x3, 0, true⟩ else if 0 ≤ x4 then ⟨x4, 0, true⟩ else ⟨0, 0, false⟩ := by
    rw [← hx1, ← hx2, ← hx3, ← hx4]; rfl
  have J1 := Aside0.mk hj1
  have J2 := Aside0.mk hj2
  have J4 := Aside0.mk hj4
  have Q1 := Aside0.mk q1
  have Q2 := Aside0.mk q2
  have Q3 := Aside0.mk q3
  have Q4 := Aside0.mk q4
  have HN := Aside0.mk hN
  clear hj1 hj2 hj4 hx1 hx2 hx3 hx4 q1 q2 q3 q4 hN
  have hfo : -9223372036854775808 ≤ fr + ol ∧ fr + ol ≤ 9223372036854775807 := by omega
  have D := HD.out
  have T := HT.out
  clear HD HT
  have D_0 := blk_cell D 0
  have D_1 := blk_cell D 1
  have D_2 := blk_cell D 2
  have D_3 := blk_cell D 3
  have D_4 := blk_cell D 4
  have D_5 := blk_cell D 5
  simp only [List.getElem?_toArray, List.getElem?_cons_zero, List.getElem?_cons_succ] at D_0 D_1 D_2 D_3 D_4 D_5
  have D_l := blk_lt D
  have HD := Aside0.mk D
  clear D
  have T_0 := blk_cell T 0
  have T_1 := blk_cell T 1
  have T_2 := blk_cell T 2
  have T_3 := blk_cell T 3
  have T_4 := blk_cell T 4
  have T_5 := blk_cell T 5
  have T_6 := blk_cell T 6
  have T_7 := blk_cell T 7
  have T_8 := blk_cell T 8
  have T_9 := blk_cell T 9
  have T_10 := blk_cell T 10
  have T_11 := blk_cell T 11
  simp only [List.getElem?_toArray, List.getElem?_cons_zero, List.getElem?_cons_succ] at T_0 T_1 T_2 T_3 T_4 T_5 T_6 T_7 T_8 T_9 T_10 T_11
  have T_l := blk_lt T
  have HT := Aside0.mk T
  clear T
  go_upto_region 3 with fail
  go_cut [26] (fun v26 wc => v26 = .bool (decide (fr < t) && decide (th < hi)) ∧ Aside0 (IsBlk wc w.heap.size #[.int .i64 nw, .int .i64 t, .int .i64 d, .int .i64 lo, .int .i64 hi, .bool false] 29) ∧ Aside0 (IsBlk wc gT #[.int .i64 nw, .int .i64 t, .int .i64 d, .int .i64 lo, .int .i64 hi, .bool false, (.slice A l.length c), .int .i64 fr, .int .i64 ol, .int .i64 th, .int .i64 up, .int .i64 fu] 51) ∧ Aside0 (Below w.heap.size w wc))
  case first =>
    cases z0 : decide (fr < t)
    · skip
      cases z1 : decide (th < hi)
      · skip
        go_wp2_with fail
        go_meet
        exact ⟨congrArg Value.bool (by simp [z0, z1]), ⟨(by repeat (with_reducible first | exact HD.out | apply IsBlk.alloc | apply IsBlk.drewN | apply IsBlk.drew))⟩, ⟨(by repeat (with_reducible first | exact HT.out | apply IsBlk.alloc | apply IsBlk.drewN | apply IsBlk.drew))⟩, ⟨by repeat (first | (with_reducible first | exact HB.out | apply below_alloc | apply pw_below_drewN | apply below_drew1) | refine below_set ?_ (by omega))⟩⟩
      · skip
        go_wp2_with fail
        go_meet
        exact ⟨congrArg Value.bool (by simp [z0, z1]), ⟨(by repeat (with_reducible first | exact HD.out | apply IsBlk.alloc | apply IsBlk.drewN | apply IsBlk.drew))⟩, ⟨(by repeat (with_reducible first | exact HT.out | apply IsBlk.alloc | apply IsBlk.drewN | apply IsBlk.drew))⟩, ⟨by repeat (first | (with_reducible first | exact HB.out | apply below_alloc | apply pw_below_drewN | apply below_drew1) | refine below_set ?_ (by omega))⟩⟩
    · skip
      cases z1 : decide (th < hi)
      · skip
        go_wp2_with fail
        go_meet
        exact ⟨congrArg Value.bool (by simp [z0, z1]), ⟨(by repeat (with_reducible first | exact HD.out | apply IsBlk.alloc | apply IsBlk.drewN | apply IsBlk.drew))⟩, ⟨(by repeat (with_reducible first | exact HT.out | apply IsBlk.alloc | apply IsBlk.drewN | apply IsBlk.drew))⟩, ⟨by repeat (first | (with_reducible first | exact HB.out | apply below_alloc | apply pw_below_drewN | apply below_drew1) | refine below_set ?_ (by omega))⟩⟩
      · skip
        go_wp2_with fail
        go_meet
        exact ⟨congrArg Value.bool (by simp [z0, z1]), ⟨(by repeat (with_reducible first | exact HD.out | apply IsBlk.alloc | apply IsBlk.drewN | apply IsBlk.drew))⟩, ⟨(by repeat (with_reducible first | exact HT.out | apply IsBlk.alloc | apply IsBlk.drewN | apply IsBlk.drew))⟩, ⟨by repeat (first | (with_reducible first | exact HB.out | apply below_alloc | apply pw_below_drewN | apply below_drew1) | refine below_set ?_ (by omega))⟩⟩
  case rest =>
    clear D_0 D_1 D_2 D_3 D_4 D_5 D_l T_0 T_1 T_2 T_3 T_4 T_5 T_6 T_7 T_8 T_9 T_10 T_11 T_l
    clear HD HT HB
    obtain ⟨rfl, HD, HT, HB⟩ := hcut
    obtain ⟨ww, hww⟩ : ∃ x, x = wc := ⟨_, rfl⟩
    subst hww
    have D := HD.out
    have T := HT.out
    clear HD HT
    have D_0 := blk_cell D 0
    have D_1 := blk_cell D 1
    have D_2 := blk_cell D 2
    have D_3 := blk_cell D 3
    have D_4 := blk_cell D 4
    have D_5 := blk_cell D 5
    simp only [List.getElem?_toArray, List.getElem?_cons_zero, List.getElem?_cons_succ] at D_0 D_1 D_2 D_3 D_4 D_5
    have D_l := blk_lt D
    have HD := Aside0.mk D
    clear D
    have T_0 := blk_cell T 0
    have T_1 := blk_cell T 1
    have T_2 := blk_cell T 2
    have T_3 := blk_cell T 3
    have T_4 := blk_cell T 4
    have T_5 := blk_cell T 5
    have T_6 := blk_cell T 6
    have T_7 := blk_cell T 7
    have T_8 := blk_cell T 8
    have T_9 := blk_cell T 9
    have T_10 := blk_cell T 10
    have T_11 := blk_cell T 11
    simp only [List.getElem?_toArray, List.getElem?_cons_zero, List.getElem?_cons_succ] at T_0 T_1 T_2 T_3 T_4 T_5 T_6 T_7 T_8 T_9 T_10 T_11
    have T_l := blk_lt T
    have HT := Aside0.mk T
    clear T
    go_upto_if 26 with fail
    go_cut [8] (fun v8 wc => v8 = .int .i64 (x1) ∧ Aside0 (IsBlk wc w.heap.size #[.int .i64 nw, .int .i64 t, .int .i64 d, .int .i64 lo, .int .i64 hi, .bool false] 29) ∧ Aside0 (IsBlk wc gT #[.int .i64 nw, .int .i64 t, .int .i64 d, .int .i64 lo, .int .i64 hi, .bool false, (.slice A l.length c), .int .i64 fr, .int .i64 ol, .int .i64 th, .int .i64 up, .int .i64 fu] 51) ∧ Aside0 (Below w.heap.size w wc))
    case first =>
      cases zc : (decide (fr < t) && decide (th < hi))
      · go_wp2_with fail
        go_meet
        exact ⟨congrArg (Value.int .i64) (by have h := Q1.out; rw [zc] at h; simpa using h.symm), ⟨(by repeat (with_reducible first | exact HD.out | apply IsBlk.alloc | apply IsBlk.drewN | apply IsBlk.drew))⟩, ⟨(by repeat (with_reducible first | exact HT.out | apply IsBlk.alloc | apply IsBlk.drewN | apply IsBlk.drew))⟩, ⟨by repeat (first | (with_reducible first | exact HB.out | apply below_alloc | apply pw_below_drewN | apply below_drew1) | refine below_set ?_ (by omega))⟩⟩
      · go_wp2_with fail
        (with_reducible refine (idxT_q A c l _ ?hC hc h16).mono ?_)
        case hC => exact Kd.C_below HR.out (by repeat (first | (with_reducible first | exact HB.out | apply below_alloc | apply pw_below_drewN | apply below_drew1) | refine below_set ?_ (by omega)))
        rw [J1.out]
        rintro e w2 ⟨rfl, hb1⟩
        have D' := IsBlk.below (by repeat (with_reducible first | exact HD.out | apply IsBlk.alloc | apply IsBlk.drewN | apply IsBlk.drew)) hb1
        have T' := IsBlk.below (by repeat (with_reducible first | exact HT.out | apply IsBlk.alloc | apply IsBlk.drewN | apply IsBlk.drew)) hb1
        clear D_0 D_1 D_2 D_3 D_4 D_5 D_l T_0 T_1 T_2 T_3 T_4 T_5 T_6 T_7 T_8 T_9 T_10 T_11 T_l
        clear HD HT
        have HD := Aside0.mk D'
        have HT := Aside0.mk T'
        clear D' T'
        have n0 := Aside0.mk (below_step (by repeat (first | (with_reducible first | exact HB.out | apply below_alloc | apply pw_below_drewN | apply below_drew1) | refine below_set ?_ (by omega))) hb1)
        clear HB hb1
        have HB := n0
        clear n0
        go_wp2_with fail
        go_meet
        exact ⟨congrArg (Value.int .i64) (by have h := Q1.out; rw [zc] at h; simpa using h.symm), ⟨(by repeat (with_reducible first | exact HD.out | apply IsBlk.alloc | apply IsBlk.drewN | apply IsBlk.drew))⟩, ⟨(by repeat (with_reducible first | exact HT.out | apply IsBlk.alloc | apply IsBlk.drewN | apply IsBlk.drew))⟩, ⟨by repeat (first | (with_reducible first | exact HB.out | apply below_alloc | apply pw_below_drewN | apply below_drew1) | refine below_set ?_ (by omega))⟩⟩
    case rest =>
      clear D_0 D_1 D_2 D_3 D_4 D_5 D_l T_0 T_1 T_2 T_3 T_4 T_5 T_6 T_7 T_8 T_9 T_10 T_11 T_l
      clear HD HT HB
      obtain ⟨rfl, HD, HT, HB⟩ := hcut
      obtain ⟨wv, hwv⟩ : ∃ x, x = wc := ⟨_, rfl⟩
      subst hwv
      have D := HD.out
      have T := HT.out
      clear HD HT
      have D_0 := blk_cell D 0
      have D_1 := blk_cell D 1
      have D_2 := blk_cell D 2
      have D_3 := blk_cell D 3
      have D_4 := blk_cell D 4
      have D_5 := blk_cell D 5
      simp only [List.getElem?_toArray, List.getElem?_cons_zero, List.getElem?_cons_succ] at D_0 D_1 D_2 D_3 D_4 D_5
      have D_l := blk_lt D
      have HD := Aside0.mk D
      clear D
      have T_0 := blk_cell T 0
      have T_1 := blk_cell T 1
      have T_2 := blk_cell T 2
      have T_3 := blk_cell T 3
      have T_4 := blk_cell T 4
      have T_5 := blk_cell T 5
      have T_6 := blk_cell T 6
      have T_7 := blk_cell T 7
      have T_8 := blk_cell T 8
      have T_9 := blk_cell T 9
      have T_10 := blk_cell T 10
      have T_11 := blk_cell T 11
      simp only [List.getElem?_toArray, List.getElem?_cons_zero, List.getElem?_cons_succ] at T_0 T_1 T_2 T_3 T_4 T_5 T_6 T_7 T_8 T_9 T_10 T_11
      have T_l := blk_lt T
      have HT := Aside0.mk T
      clear T
      cases hf : decide (0 ≤ x1)
      · have hf' : ¬ 0 ≤ x1 := by simpa using hf
        obtain rfl : x1 = -1 := by omega
        clear hf hf'
        clear D_0 D_1 D_2 D_3 D_4 D_5 D_l T_0 T_1 T_2 T_3 T_4 T_5 T_6 T_7 T_8 T_9 T_10 T_11 T_l
        have D := HD.out
        have T := HT.out
        clear HD HT
        have D_0 := blk_cell D 0
        have D_1 := blk_cell D 1
        have D_2 := blk_cell D 2
        have D_3 := blk_cell D 3
        have D_4 := blk_cell D 4
        have D_5 := blk_cell D 5
        simp only [List.getElem?_toArray, List.getElem?_cons_zero, List.getElem?_cons_succ] at D_0 D_1 D_2 D_3 D_4 D_5
        have D_l := blk_lt D
        have HD := Aside0.mk D
        clear D
        have T_0 := blk_cell T 0
        have T_1 := blk_cell T 1
        have T_2 := blk_cell T 2
        have T_3 := blk_cell T 3
        have T_4 := blk_cell T 4
        have T_5 := blk_cell T 5
        have T_6 := blk_cell T 6
        have T_7 := blk_cell T 7
        have T_8 := blk_cell T 8
        have T_9 := blk_cell T 9
        have T_10 := blk_cell T 10
        have T_11 := blk_cell T 11
        simp only [List.getElem?_toArray, List.getElem?_cons_zero, List.getElem?_cons_succ] at T_0 T_1 T_2 T_3 T_4 T_5 T_6 T_7 T_8 T_9 T_10 T_11
        have T_l := blk_lt T
        have HT := Aside0.mk T
        clear T
        go_upto_region 6 with fail
        go_cut [41] (fun v41 wc => v41 = .bool (decide (fr < t)) ∧ Aside0 (IsBlk wc w.heap.size #[.int .i64 nw, .int .i64 t, .int .i64 d, .int .i64 lo, .int .i64 hi, .bool false] 29) ∧ Aside0 (IsBlk wc gT #[.int .i64 nw, .int .i64 t, .int .i64 d, .int .i64 lo, .int .i64 hi, .bool false, (.slice A l.length c), .int .i64 fr, .int .i64 ol, .int .i64 th, .int .i64 up, .int .i64 fu] 51) ∧ Aside0 (Below w.heap.size w wc))
        case first =>
          cases z0 : decide (fr < t)
          · skip
            go_wp2_with fail
            go_meet
            exact ⟨congrArg Value.bool (by simp [z0]), ⟨(by repeat (with_reducible first | exact HD.out | apply IsBlk.alloc | apply IsBlk.drewN | apply IsBlk.drew))⟩, ⟨(by repeat (with_reducible first | exact HT.out | apply IsBlk.alloc | apply IsBlk.drewN | apply IsBlk.drew))⟩, ⟨by repeat (first | (with_reducible first | exact HB.out | apply below_alloc | apply pw_below_drewN | apply below_drew1) | refine below_set ?_ (by omega))⟩⟩
          · skip
            go_wp2_with fail
            go_meet
            exact ⟨congrArg Value.bool (by simp [z0]), ⟨(by repeat (with_reducible first | exact HD.out | apply IsBlk.alloc | apply IsBlk.drewN | apply IsBlk.drew))⟩, ⟨(by repeat (with_reducible first | exact HT.out | apply IsBlk.alloc | apply IsBlk.drewN | apply IsBlk.drew))⟩, ⟨by repeat (first | (with_reducible first | exact HB.out | apply below_alloc | apply pw_below_drewN | apply below_drew1) | refine below_set ?_ (by omega))⟩⟩
        case rest =>
          clear D_0 D_1 D_2 D_3 D_4 D_5 D_l T_0 T_1 T_2 T_3 T_4 T_5 T_6 T_7 T_8 T_9 T_10 T_11 T_l
          clear HD HT HB
          obtain ⟨rfl, HD, HT, HB⟩ := hcut
          obtain ⟨ww, hww⟩ : ∃ x, x = wc := ⟨_, rfl⟩
          subst hww
          have D := HD.out
          have T := HT.out
          clear HD HT
          have D_0 := blk_cell D 0
          have D_1 := blk_cell D 1
          have D_2 := blk_cell D 2
          have D_3 := blk_cell D 3
          have D_4 := blk_cell D 4
          have D_5 := blk_cell D 5
          simp only [List.getElem?_toArray, List.getElem?_cons_zero, List.getElem?_cons_succ] at D_0 D_1 D_2 D_3 D_4 D_5
          have D_l := blk_lt D
          have HD := Aside0.mk D
          clear D
          have T_0 := blk_cell T 0
          have T_1 := blk_cell T 1
          have T_2 := blk_cell T 2
          have T_3 := blk_cell T 3
          have T_4 := blk_cell T 4
          have T_5 := blk_cell T 5
          have T_6 := blk_cell T 6
          have T_7 := blk_cell T 7
          have T_8 := blk_cell T 8
          have T_9 := blk_cell T 9
          have T_10 := blk_cell T 10
          have T_11 := blk_cell T 11
          simp only [List.getElem?_toArray, List.getElem?_cons_zero, List.getElem?_cons_succ] at T_0 T_1 T_2 T_3 T_4 T_5 T_6 T_7 T_8 T_9 T_10 T_11
          have T_l := blk_lt T
          have HT := Aside0.mk T
          clear T
          go_upto_if 41 with fail
          go_cut [8] (fun v8 wc => v8 = .int .i64 (x2) ∧ Aside0 (IsBlk wc w.heap.size #[.int .i64 nw, .int .i64 t, .int .i64 d, .int .i64 lo, .int .i64 hi, .bool false] 29) ∧ Aside0 (IsBlk wc gT #[.int .i64 nw, .int .i64 t, .int .i64 d, .int .i64 lo, .int .i64 hi, .bool false, (.slice A l.length c), .int .i64 fr, .int .i64 ol, .int .i64 th, .int .i64 up, .int .i64 fu] 51) ∧ Aside0 (Below w.heap.size w wc))
          case first =>
            cases zc : (decide (fr < t))
            · go_wp2_with fail
              go_meet
              exact ⟨congrArg (Value.int .i64) (by have h := Q2.out; rw [zc] at h; simpa using h.symm), ⟨(by repeat (with_reducible first | exact HD.out | apply IsBlk.alloc | apply IsBlk.drewN | apply IsBlk.drew))⟩, ⟨(by repeat (with_reducible first | exact HT.out | apply IsBlk.alloc | apply IsBlk.drewN | apply IsBlk.drew))⟩, ⟨by repeat (first | (with_reducible first | exact HB.out | apply below_alloc | apply pw_below_drewN | apply below_drew1) | refine below_set ?_ (by omega))⟩⟩
            · go_wp2_with fail
              (with_reducible refine (goesO_q nw t d lo hi false fr ol th fu A c l _ ?hC hc h16 up Eup.out.symm).mono ?_)
              case hC => exact Kd.C_below HR.out (by repeat (first | (with_reducible first | exact HB.out | apply below_alloc | apply pw_below_drewN | apply below_drew1) | refine below_set ?_ (by omega)))
              rw [J2.out]
              rintro e w2 ⟨rfl, hb1⟩
              have D' := IsBlk.below (by repeat (with_reducible first | exact HD.out | apply IsBlk.alloc | apply IsBlk.drewN | apply IsBlk.drew)) hb1
              have T' := IsBlk.below (by repeat (with_reducible first | exact HT.out | apply IsBlk.alloc | apply IsBlk.drewN | apply IsBlk.drew)) hb1
              clear D_0 D_1 D_2 D_3 D_4 D_5 D_l T_0 T_1 T_2 T_3 T_4 T_5 T_6 T_7 T_8 T_9 T_10 T_11 T_l
              clear HD HT
              have HD := Aside0.mk D'
              have HT := Aside0.mk T'
              clear D' T'
              have n0 := Aside0.mk (below_step (by repeat (first | (with_reducible first | exact HB.out | apply below_alloc | apply pw_below_drewN | apply below_drew1) | refine below_set ?_ (by omega))) hb1)
              clear HB hb1
              have HB := n0
              clear n0
              go_wp2_with fail
              go_meet
              exact ⟨congrArg (Value.int .i64) (by have h := Q2.out; rw [zc] at h; simpa using h.symm), ⟨(by repeat (with_reducible first | exact HD.out | apply IsBlk.alloc | apply IsBlk.drewN | apply IsBlk.drew))⟩, ⟨(by repeat (with_reducible first | exact HT.out | apply IsBlk.alloc | apply IsBlk.drewN | apply IsBlk.drew))⟩, ⟨by repeat (first | (with_reducible first | exact HB.out | apply below_alloc | apply pw_below_drewN | apply below_drew1) | refine below_set ?_ (by omega))⟩⟩
          case rest =>
            clear D_0 D_1 D_2 D_3 D_4 D_5 D_l T_0 T_1 T_2 T_3 T_4 T_5 T_6 T_7 T_8 T_9 T_10 T_11 T_l
            clear HD HT HB
            obtain ⟨rfl, HD, HT, HB⟩ := hcut
            obtain ⟨wv, hwv⟩ : ∃ x, x = wc := ⟨_, rfl⟩
            subst hwv
            have D := HD.out
            have T := HT.out
            clear HD HT
            have D_0 := blk_cell D 0
            have D_1 := blk_cell D 1
            have D_2 := blk_cell D 2
            have D_3 := blk_cell D 3
            have D_4 := blk_cell D 4
            have D_5 := blk_cell D 5
            simp only [List.getElem?_toArray, List.getElem?_cons_zero, List.getElem?_cons_succ] at D_0 D_1 D_2 D_3 D_4 D_5
            have D_l := blk_lt D
            have HD := Aside0.mk D
            clear D
            have T_0 := blk_cell T 0
            have T_1 := blk_cell T 1
            have T_2 := blk_cell T 2
            have T_3 := blk_cell T 3
            have T_4 := blk_cell T 4
            have T_5 := blk_cell T 5
            have T_6 := blk_cell T 6
            have T_7 := blk_cell T 7
            have T_8 := blk_cell T 8
            have T_9 := blk_cell T 9
            have T_10 := blk_cell T 10
            have T_11 := blk_cell T 11
            simp only [List.getElem?_toArray, List.getElem?_cons_zero, List.getElem?_cons_succ] at T_0 T_1 T_2 T_3 T_4 T_5 T_6 T_7 T_8 T_9 T_10 T_11
            have T_l := blk_lt T
            have HT := Aside0.mk T
            clear T
            cases hf : decide (0 ≤ x2)
            · have hf' : ¬ 0 ≤ x2 := by simpa using hf
              obtain rfl : x2 = -1 := by omega
              clear hf hf'
              clear D_0 D_1 D_2 D_3 D_4 D_5 D_l T_0 T_1 T_2 T_3 T_4 T_5 T_6 T_7 T_8 T_9 T_10 T_11 T_l
              have D := HD.out
              have T := HT.out
              clear HD HT
              have D_0 := blk_cell D 0
              have D_1 := blk_cell D 1
              have D_2 := blk_cell D 2
              have D_3 := blk_cell D 3
              have D_4 := blk_cell D 4
              have D_5 := blk_cell D 5
              simp only [List.getElem?_toArray, List.getElem?_cons_zero, List.getElem?_cons_succ] at D_0 D_1 D_2 D_3 D_4 D_5
              have D_l := blk_lt D
              have HD := Aside0.mk D
              clear D
              have T_0 := blk_cell T 0
              have T_1 := blk_cell T 1
              have T_2 := blk_cell T 2
              have T_3 := blk_cell T 3
              have T_4 := blk_cell T 4
              have T_5 := blk_cell T 5
              have T_6 := blk_cell T 6
              have T_7 := blk_cell T 7
              have T_8 := blk_cell T 8
              have T_9 := blk_cell T 9
              have T_10 := blk_cell T 10
              have T_11 := blk_cell T 11
              simp only [List.getElem?_toArray, List.getElem?_cons_zero, List.getElem?_cons_succ] at T_0 T_1 T_2 T_3 T_4 T_5 T_6 T_7 T_8 T_9 T_10 T_11
              have T_l := blk_lt T
              have HT := Aside0.mk T
              clear T
              go_upto_region 10 with fail
              go_cut [74] (fun v74 wc => v74 = .bool (decide (d < fr + ol)) ∧ Aside0 (IsBlk wc w.heap.size #[.int .i64 nw, .int .i64 t, .int .i64 d, .int .i64 lo, .int .i64 hi, .bool false] 29) ∧ Aside0 (IsBlk wc gT #[.int .i64 nw, .int .i64 t, .int .i64 d, .int .i64 lo, .int .i64 hi, .bool false, (.slice A l.length c), .int .i64 fr, .int .i64 ol, .int .i64 th, .int .i64 up, .int .i64 fu] 51) ∧ Aside0 (Below w.heap.size w wc))
              case first =>
                cases z0 : decide (d < fr + ol)
                · skip
                  go_wp2_with fail
                  go_meet
                  exact ⟨congrArg Value.bool (by simp [z0]), ⟨(by repeat (with_reducible first | exact HD.out | apply IsBlk.alloc | apply IsBlk.drewN | apply IsBlk.drew))⟩, ⟨(by repeat (with_reducible first | exact HT.out | apply IsBlk.alloc | apply IsBlk.drewN | apply IsBlk.drew))⟩, ⟨by repeat (first | (with_reducible first | exact HB.out | apply below_alloc | apply pw_below_drewN | apply below_drew1) | refine below_set ?_ (by omega))⟩⟩
                · skip
                  go_wp2_with fail
                  go_meet
                  exact ⟨congrArg Value.bool (by simp [z0]), ⟨(by repeat (with_reducible first | exact HD.out | apply IsBlk.alloc | apply IsBlk.drewN | apply IsBlk.drew))⟩, ⟨(by repeat (with_reducible first | exact HT.out | apply IsBlk.alloc | apply IsBlk.drewN | apply IsBlk.drew))⟩, ⟨by repeat (first | (with_reducible first | exact HB.out | apply below_alloc | apply pw_below_drewN | apply below_drew1) | refine below_set ?_ (by omega))⟩⟩
              case rest =>
                clear D_0 D_1 D_2 D_3 D_4 D_5 D_l T_0 T_1 T_2 T_3 T_4 T_5 T_6 T_7 T_8 T_9 T_10 T_11 T_l
                clear HD HT HB
                obtain ⟨rfl, HD, HT, HB⟩ := hcut
                obtain ⟨ww, hww⟩ : ∃ x, x = wc := ⟨_, rfl⟩
                subst hww
                have D := HD.out
                have T := HT.out
                clear HD HT
                have D_0 := blk_cell D 0
                have D_1 := blk_cell D 1
                have D_2 := blk_cell D 2
                have D_3 := blk_cell D 3
                have D_4 := blk_cell D 4
                have D_5 := blk_cell D 5
                simp only [List.getElem?_toArray, List.getElem?_cons_zero, List.getElem?_cons_succ] at D_0 D_1 D_2 D_3 D_4 D_5
                have D_l := blk_lt D
                have HD := Aside0.mk D
                clear D
                have T_0 := blk_cell T 0
                have T_1 := blk_cell T 1
                have T_2 := blk_cell T 2
                have T_3 := blk_cell T 3
                have T_4 := blk_cell T 4
                have T_5 := blk_cell T 5
                have T_6 := blk_cell T 6
                have T_7 := blk_cell T 7
                have T_8 := blk_cell T 8
                have T_9 := blk_cell T 9
                have T_10 := blk_cell T 10
                have T_11 := blk_cell T 11
                simp only [List.getElem?_toArray, List.getElem?_cons_zero, List.getElem?_cons_succ] at T_0 T_1 T_2 T_3 T_4 T_5 T_6 T_7 T_8 T_9 T_10 T_11
                have T_l := blk_lt T
                have HT := Aside0.mk T
                clear T
                go_upto_if 74 with fail
                go_cut [8] (fun v8 wc => v8 = .int .i64 (x3) ∧ Aside0 (IsBlk wc w.heap.size #[.int .i64 nw, .int .i64 t, .int .i64 d, .int .i64 lo, .int .i64 hi, .bool false] 29) ∧ Aside0 (IsBlk wc gT #[.int .i64 nw, .int .i64 t, .int .i64 d, .int .i64 lo, .int .i64 hi, .bool false, (.slice A l.length c), .int .i64 fr, .int .i64 ol, .int .i64 th, .int .i64 up, .int .i64 fu] 51) ∧ Aside0 (Below w.heap.size w wc))
                case first =>
                  cases zc : (decide (d < fr + ol))
                  · go_wp2_with fail
                    go_meet
                    exact ⟨congrArg (Value.int .i64) (by have h := Q3.out; rw [zc] at h; simpa using h.symm), ⟨(by repeat (with_reducible first | exact HD.out | apply IsBlk.alloc | apply IsBlk.drewN | apply IsBlk.drew))⟩, ⟨(by repeat (with_reducible first | exact HT.out | apply IsBlk.alloc | apply IsBlk.drewN | apply IsBlk.drew))⟩, ⟨by repeat (first | (with_reducible first | exact HB.out | apply below_alloc | apply pw_below_drewN | apply below_drew1) | refine below_set ?_ (by omega))⟩⟩
                  · go_wp2_with fail
                    (with_reducible refine (goesO_q nw t d lo hi false fr ol th fu A c l _ ?hC hc h16 up Eup.out.symm).mono ?_)
                    case hC => exact Kd.C_below HR.out (by repeat (first | (with_reducible first | exact HB.out | apply below_alloc | apply pw_below_drewN | apply below_drew1) | refine below_set ?_ (by omega)))
                    rw [J2.out]
                    rintro e w2 ⟨rfl, hb1⟩
                    have D' := IsBlk.below (by repeat (with_reducible first | exact HD.out | apply IsBlk.alloc | apply IsBlk.drewN | apply IsBlk.drew)) hb1
                    have T' := IsBlk.below (by repeat (with_reducible first | exact HT.out | apply IsBlk.alloc | apply IsBlk.drewN | apply IsBlk.drew)) hb1
                    clear D_0 D_1 D_2 D_3 D_4 D_5 D_l T_0 T_1 T_2 T_3 T_4 T_5 T_6 T_7 T_8 T_9 T_10 T_11 T_l
                    clear HD HT
                    have HD := Aside0.mk D'
                    have HT := Aside0.mk T'
                    clear D' T'
                    have n0 := Aside0.mk (below_step (by repeat (first | (with_reducible first | exact HB.out | apply below_alloc | apply pw_below_drewN | apply below_drew1) | refine below_set ?_ (by omega))) hb1)
                    clear HB hb1
                    have HB := n0
                    clear n0
                    go_wp2_with fail
                    go_meet
                    exact ⟨congrArg (Value.int .i64) (by have h := Q3.out; rw [zc] at h; simpa using h.symm), ⟨(by repeat (with_reducible first | exact HD.out | apply IsBlk.alloc | apply IsBlk.drewN | apply IsBlk.drew))⟩, ⟨(by repeat (with_reducible first | exact HT.out | apply IsBlk.alloc | apply IsBlk.drewN | apply IsBlk.drew))⟩, ⟨by repeat (first | (with_reducible first | exact HB.out | apply below_alloc | apply pw_below_drewN | apply below_drew1) | refine below_set ?_ (by omega))⟩⟩
                case rest =>
                  clear D_0 D_1 D_2 D_3 D_4 D_5 D_l T_0 T_1 T_2 T_3 T_4 T_5 T_6 T_7 T_8 T_9 T_10 T_11 T_l
                  clear HD HT HB
                  obtain ⟨rfl, HD, HT, HB⟩ := hcut
                  obtain ⟨wv, hwv⟩ : ∃ x, x = wc := ⟨_, rfl⟩
                  subst hwv
                  have D := HD.out
                  have T := HT.out
                  clear HD HT
                  have D_0 := blk_cell D 0
                  have D_1 := blk_cell D 1
                  have D_2 := blk_cell D 2
                  have D_3 := blk_cell D 3
                  have D_4 := blk_cell D 4
                  have D_5 := blk_cell D 5
                  simp only [List.getElem?_toArray, List.getElem?_cons_zero, List.getElem?_cons_succ] at D_0 D_1 D_2 D_3 D_4 D_5
                  have D_l := blk_lt D
                  have HD := Aside0.mk D
                  clear D
                  have T_0 := blk_cell T 0
                  have T_1 := blk_cell T 1
                  have T_2 := blk_cell T 2
                  have T_3 := blk_cell T 3
                  have T_4 := blk_cell T 4
                  have T_5 := blk_cell T 5
                  have T_6 := blk_cell T 6
                  have T_7 := blk_cell T 7
                  have T_8 := blk_cell T 8
                  have T_9 := blk_cell T 9
                  have T_10 := blk_cell T 10
                  have T_11 := blk_cell T 11
                  simp only [List.getElem?_toArray, List.getElem?_cons_zero, List.getElem?_cons_succ] at T_0 T_1 T_2 T_3 T_4 T_5 T_6 T_7 T_8 T_9 T_10 T_11
                  have T_l := blk_lt T
                  have HT := Aside0.mk T
                  clear T
                  go_upto_region 12 with fail
                  go_cut [87] (fun v87 wc => v87 = .bool (decide (x3 < 0) && decide (t < fr)) ∧ Aside0 (IsBlk wc w.heap.size #[.int .i64 nw, .int .i64 t, .int .i64 d, .int .i64 lo, .int .i64 hi, .bool false] 29) ∧ Aside0 (IsBlk wc gT #[.int .i64 nw, .int .i64 t, .int .i64 d, .int .i64 lo, .int .i64 hi, .bool false, (.slice A l.length c), .int .i64 fr, .int .i64 ol, .int .i64 th, .int .i64 up, .int .i64 fu] 51) ∧ Aside0 (Below w.heap.size w wc))
                  case first =>
                    cases z0 : decide (x3 < 0)
                    · skip
                      cases z1 : decide (t < fr)
                      · skip
                        go_wp2_with fail
                        go_meet
                        exact ⟨congrArg Value.bool (by simp [z0, z1]), ⟨(by repeat (with_reducible first | exact HD.out | apply IsBlk.alloc | apply IsBlk.drewN | apply IsBlk.drew))⟩, ⟨(by repeat (with_reducible first | exact HT.out | apply IsBlk.alloc | apply IsBlk.drewN | apply IsBlk.drew))⟩, ⟨by repeat (first | (with_reducible first | exact HB.out | apply below_alloc | apply pw_below_drewN | apply below_drew1) | refine below_set ?_ (by omega))⟩⟩
                      · skip
                        go_wp2_with fail
                        go_meet
                        exact ⟨congrArg Value.bool (by simp [z0, z1]), ⟨(by repeat (with_reducible first | exact HD.out | apply IsBlk.alloc | apply IsBlk.drewN | apply IsBlk.drew))⟩, ⟨(by repeat (with_reducible first | exact HT.out | apply IsBlk.alloc | apply IsBlk.drewN | apply IsBlk.drew))⟩, ⟨by repeat (first | (with_reducible first | exact HB.out | apply below_alloc | apply pw_below_drewN | apply below_drew1) | refine below_set ?_ (by omega))⟩⟩
                    · skip
                      cases z1 : decide (t < fr)
                      · skip
                        go_wp2_with fail
                        go_meet
                        exact ⟨congrArg Value.bool (by simp [z0, z1]), ⟨(by repeat (with_reducible first | exact HD.out | apply IsBlk.alloc | apply IsBlk.drewN | apply IsBlk.drew))⟩, ⟨(by repeat (with_reducible first | exact HT.out | apply IsBlk.alloc | apply IsBlk.drewN | apply IsBlk.drew))⟩, ⟨by repeat (first | (with_reducible first | exact HB.out | apply below_alloc | apply pw_below_drewN | apply below_drew1) | refine below_set ?_ (by omega))⟩⟩
                      · skip
                        go_wp2_with fail
                        go_meet
                        exact ⟨congrArg Value.bool (by simp [z0, z1]), ⟨(by repeat (with_reducible first | exact HD.out | apply IsBlk.alloc | apply IsBlk.drewN | apply IsBlk.drew))⟩, ⟨(by repeat (with_reducible first | exact HT.out | apply IsBlk.alloc | apply IsBlk.drewN | apply IsBlk.drew))⟩, ⟨by repeat (first | (with_reducible first | exact HB.out | apply below_alloc | apply pw_below_drewN | apply below_drew1) | refine below_set ?_ (by omega))⟩⟩
                  case rest =>
                    clear D_0 D_1 D_2 D_3 D_4 D_5 D_l T_0 T_1 T_2 T_3 T_4 T_5 T_6 T_7 T_8 T_9 T_10 T_11 T_l
                    clear HD HT HB
                    obtain ⟨rfl, HD, HT, HB⟩ := hcut
                    obtain ⟨ww, hww⟩ : ∃ x, x = wc := ⟨_, rfl⟩
                    subst hww
                    have D := HD.out
                    have T := HT.out
                    clear HD HT
                    have D_0 := blk_cell D 0
                    have D_1 := blk_cell D 1
                    have D_2 := blk_cell D 2
                    have D_3 := blk_cell D 3
                    have D_4 := blk_cell D 4
                    have D_5 := blk_cell D 5
                    simp only [List.getElem?_toArray, List.getElem?_cons_zero, List.getElem?_cons_succ] at D_0 D_1 D_2 D_3 D_4 D_5
                    have D_l := blk_lt D
                    have HD := Aside0.mk D
                    clear D
                    have T_0 := blk_cell T 0
                    have T_1 := blk_cell T 1
                    have T_2 := blk_cell T 2
                    have T_3 := blk_cell T 3
                    have T_4 := blk_cell T 4
                    have T_5 := blk_cell T 5
                    have T_6 := blk_cell T 6
                    have T_7 := blk_cell T 7
                    have T_8 := blk_cell T 8
                    have T_9 := blk_cell T 9
                    have T_10 := blk_cell T 10
                    have T_11 := blk_cell T 11
                    simp only [List.getElem?_toArray, List.getElem?_cons_zero, List.getElem?_cons_succ] at T_0 T_1 T_2 T_3 T_4 T_5 T_6 T_7 T_8 T_9 T_10 T_11
                    have T_l := blk_lt T
                    have HT := Aside0.mk T
                    clear T
                    go_upto_if 87 with fail
                    go_cut [8] (fun v8 wc => v8 = .int .i64 (if x3 < 0 then x4 else x3) ∧ Aside0 (IsBlk wc w.heap.size #[.int .i64 nw, .int .i64 t, .int .i64 d, .int .i64 lo, .int .i64 hi, .bool false] 29) ∧ Aside0 (IsBlk wc gT #[.int .i64 nw, .int .i64 t, .int .i64 d, .int .i64 lo, .int .i64 hi, .bool false, (.slice A l.length c), .int .i64 fr, .int .i64 ol, .int .i64 th, .int .i64 up, .int .i64 fu] 51) ∧ Aside0 (Below w.heap.size w wc))
                    case first =>
                      cases zc : (decide (x3 < 0) && decide (t < fr))
                      · go_wp2_with fail
                        go_meet
                        exact ⟨congrArg (Value.int .i64) (by have h := Q4.out; simp at zc; split <;> (try simp [*] at h) <;> omega), ⟨(by repeat (with_reducible first | exact HD.out | apply IsBlk.alloc | apply IsBlk.drewN | apply IsBlk.drew))⟩, ⟨(by repeat (with_reducible first | exact HT.out | apply IsBlk.alloc | apply IsBlk.drewN | apply IsBlk.drew))⟩, ⟨by repeat (first | (with_reducible first | exact HB.out | apply below_alloc | apply pw_below_drewN | apply below_drew1) | refine below_set ?_ (by omega))⟩⟩
                      · go_wp2_with fail
                        (with_reducible refine (goesN_q nw t d lo hi false fr ol th fu A c l _ ?hC hc h16 up Eup.out.symm).mono ?_)
                        case hC => exact Kd.C_below HR.out (by repeat (first | (with_reducible first | exact HB.out | apply below_alloc | apply pw_below_drewN | apply below_drew1) | refine below_set ?_ (by omega)))
                        rw [J4.out]
                        rintro e w2 ⟨rfl, hb1⟩
                        have D' := IsBlk.below (by repeat (with_reducible first | exact HD.out | apply IsBlk.alloc | apply IsBlk.drewN | apply IsBlk.drew)) hb1
                        have T' := IsBlk.below (by repeat (with_reducible first | exact HT.out | apply IsBlk.alloc | apply IsBlk.drewN | apply IsBlk.drew)) hb1
                        clear D_0 D_1 D_2 D_3 D_4 D_5 D_l T_0 T_1 T_2 T_3 T_4 T_5 T_6 T_7 T_8 T_9 T_10 T_11 T_l
                        clear HD HT
                        have HD := Aside0.mk D'
                        have HT := Aside0.mk T'
                        clear D' T'
                        have n0 := Aside0.mk (below_step (by repeat (first | (with_reducible first | exact HB.out | apply below_alloc | apply pw_below_drewN | apply below_drew1) | refine below_set ?_ (by omega))) hb1)
                        clear HB hb1
                        have HB := n0
                        clear n0
                        go_wp2_with fail
                        go_meet
                        exact ⟨congrArg (Value.int .i64) (by have h := Q4.out; simp at zc; rw [if_pos zc.1]; simp [zc.2] at h; exact h.symm), ⟨(by repeat (with_reducible first | exact HD.out | apply IsBlk.alloc | apply IsBlk.drewN | apply IsBlk.drew))⟩, ⟨(by repeat (with_reducible first | exact HT.out | apply IsBlk.alloc | apply IsBlk.drewN | apply IsBlk.drew))⟩, ⟨by repeat (first | (with_reducible first | exact HB.out | apply below_alloc | apply pw_below_drewN | apply below_drew1) | refine below_set ?_ (by omega))⟩⟩
                    case rest =>
                      clear D_0 D_1 D_2 D_3 D_4 D_5 D_l T_0 T_1 T_2 T_3 T_4 T_5 T_6 T_7 T_8 T_9 T_10 T_11 T_l
                      clear HD HT HB
                      obtain ⟨rfl, HD, HT, HB⟩ := hcut
                      obtain ⟨wv, hwv⟩ : ∃ x, x = wc := ⟨_, rfl⟩
                      subst hwv
                      obtain ⟨y, hy⟩ : ∃ y, (if x3 < 0 then x4 else x3) = y := ⟨_, rfl⟩
                      rw [hy]
                      have HY := Aside0.mk hy
                      clear hy
                      have D := HD.out
                      have T := HT.out
                      clear HD HT
                      have D_0 := blk_cell D 0
                      have D_1 := blk_cell D 1
                      have D_2 := blk_cell D 2
                      have D_3 := blk_cell D 3
                      have D_4 := blk_cell D 4
                      have D_5 := blk_cell D 5
                      simp only [List.getElem?_toArray, List.getElem?_cons_zero, List.getElem?_cons_succ] at D_0 D_1 D_2 D_3 D_4 D_5
                      have D_l := blk_lt D
                      have HD := Aside0.mk D
                      clear D
                      have T_0 := blk_cell T 0
                      have T_1 := blk_cell T 1
                      have T_2 := blk_cell T 2
                      have T_3 := blk_cell T 3
                      have T_4 := blk_cell T 4
                      have T_5 := blk_cell T 5
                      have T_6 := blk_cell T 6
                      have T_7 := blk_cell T 7
                      have T_8 := blk_cell T 8
                      have T_9 := blk_cell T 9
                      have T_10 := blk_cell T 10
                      have T_11 := blk_cell T 11
                      simp only [List.getElem?_toArray, List.getElem?_cons_zero, List.getElem?_cons_succ] at T_0 T_1 T_2 T_3 T_4 T_5 T_6 T_7 T_8 T_9 T_10 T_11
                      have T_l := blk_lt T
                      have HT := Aside0.mk T
                      clear T
                      cases h4 : decide (y < 0)
                      · have h4' : ¬ y < 0 := by simpa using h4
                        go_wp2_with fail
                        (try go_step3)
                        (try go_wp2_with fail)
                        simp only [Exit.noGoto, Exit.jump]
                        refine bodyPost_ret (v := .tuple #[.int .i64 y, .int .i64 0, .bool true]) (by simp [results, Try.results10, go_sem, *]) rfl ⟨?_, by repeat (first | (with_reducible first | exact HB.out | apply below_alloc | apply pw_below_drewN | apply below_drew1) | refine below_set ?_ (by omega))⟩
                        rw [HN.out, if_neg (by omega), if_neg (by omega)]
                        have hy := HY.out
                        split at hy
                        · rw [if_neg (by omega), if_pos (by omega), hy]
                        · rw [if_pos (by omega), hy]
                      · have h4' : y < 0 := by simpa using h4
                        go_wp2_with fail
                        simp only [Exit.noGoto, Exit.jump]
                        refine bodyPost_ret (v := .tuple #[.int .i64 0, .int .i64 0, .bool false]) (by simp [results, Try.results10, go_sem, *]) rfl ⟨?_, by repeat (first | (with_reducible first | exact HB.out | apply below_alloc | apply pw_below_drewN | apply below_drew1) | refine below_set ?_ (by omega))⟩
                        rw [HN.out, if_neg (by omega), if_neg (by omega)]
                        have hy := HY.out
                        split at hy
                        · rw [if_neg (by omega), if_neg (by omega)]
                        · omega
            · have hf' : 0 ≤ x2 := by simpa using hf
              go_wp2_with fail
              go_step3
              refine ⟨rfl, ?_⟩
              go_wp2_with fail
              (try go_step3)
              (try go_wp2_with fail)
              simp only [Exit.noGoto, Exit.jump]
              refine bodyPost_ret (v := .tuple #[.int .i64 x2, .int .i64 nw, .bool true]) (by simp [results, Try.results10, go_sem, *]) rfl ⟨?_, by repeat (first | (with_reducible first | exact HB.out | apply below_alloc | apply pw_below_drewN | apply below_drew1) | refine below_set ?_ (by omega))⟩
              rw [HN.out, if_neg (by omega), if_pos hf']
      · have hf' : 0 ≤ x1 := by simpa using hf
        go_wp2_with fail
        go_step3
        refine ⟨rfl, ?_⟩
        go_wp2_with fail
        (try go_step3)
        (try go_wp2_with fail)
        simp only [Exit.noGoto, Exit.jump]
        refine bodyPost_ret (v := .tuple #[.int .i64 x1, .int .i64 nw, .bool true]) (by simp [results, Try.results10, go_sem, *]) rfl ⟨?_, by repeat (first | (with_reducible first | exact HB.out | apply below_alloc | apply pw_below_drewN | apply below_drew1) | refine below_set ?_ (by omega))⟩
        rw [HN.out, if_pos hf']
theorem next_q (nw t d lo hi : Int) (bl : Bool) (A : Option Addr) (c : Nat) (l : List S35) (w : World) (hr : Kd.C k35 w A l.length l) (hc : l.length ≤ c) (h16 : l.length ≤ 16) :
    Calls Try.prog 10 #[.agg #[.int .i64 nw, .int .i64 t, .int .i64 d, .int .i64 lo, .int .i64 hi, .bool bl], .slice A l.length c] w fun e w' => e = .returned (.tuple #[.int .i64 (nextV ⟨nw, t, d, lo, hi, bl⟩ l).i, .int .i64 (nextV ⟨nw, t, d, lo, hi, bl⟩ l).v, .bool (nextV ⟨nw, t, d, lo, hi, bl⟩ l).is]) ∧ Below w.heap.size w w' := by
  cases bl with
  | true => exact next_true nw t d lo hi A c l w hr hc h16
  | false => exact next_false nw t d lo hi A c l w hr hc h16
end Go.Proofs.Ytloljhopccpeeaa.Q3

