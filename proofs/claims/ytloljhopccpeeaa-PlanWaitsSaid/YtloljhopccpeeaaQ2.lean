/-
  Proved here: what slices.IndexFunc answers for what plan hands it; what plan's goes answers. No condition.
-/
import Derived.Test.YtloljhopccpeeaaQ1
namespace Go.Proofs.Ytloljhopccpeeaa.Q2
open Go.RowKit Go.Sort Go.Proofs.Ytloljhopccpeeaa.B0 Go.Proofs.Ytloljhopccpeeaa.Pl Go.Proofs.Ytloljhopccpeeaa.Q1 Go.Proofs.YtloljhopccpeeaaW.PrintWords Go.Proofs.YtloljhopccpeeaaW.PrintLast Go.Proofs.YtloljhopccpeeaaW.PrintMore
open PPlanEnds (S35 z35 k35)
set_option linter.unusedVariables false
set_option linter.unusedSimpArgs false
attribute [local go_sem] max2_int min2_int max_two min_two

theorem free_q (v s : Int) (b : Bool) (w : World) : Calls Try.prog 23 #[.agg #[.int .i64 v, .int .i64 s, .bool b]] w fun e w' => e = .returned (.bool (noneThere ⟨v, s, b⟩)) ∧ Below w.heap.size w w' := by
  have HB := Aside0.mk (Below.refl w.heap.size w)
  go_enter Try.func23, Try.ntmps23
  go_wp2_with fail
  (with_reducible refine (there_q v s b _).mono ?_)
  rintro e w1 ⟨rfl, hb1⟩
  have n0 := Aside0.mk (below_step (by repeat (first | (with_reducible first | exact HB.out | apply below_alloc | apply pw_below_drewN | apply below_drew1) | refine below_set ?_ (by omega))) hb1)
  clear HB hb1
  have HB := n0
  clear n0
  go_wp2
  go_ret
  exact ⟨ret_bool (by unfold noneThere; simp), by repeat (first | (with_reducible first | exact HB.out | apply below_alloc | apply pw_below_drewN | apply below_drew1) | refine below_set ?_ (by omega))⟩

set_option maxHeartbeats 2000000 in
theorem pendO_q (nw t d lo hi : Int) (bl : Bool) (sv : Value) (c0 c1 c2 c3 c4 : Int) (v s : Int) (b : Bool) (g : Nat) (w : World) (hF : w.cell? ⟨g, 0, none⟩ = some (.func (.func 26) #[.agg #[.int .i64 nw, .int .i64 t, .int .i64 d, .int .i64 lo, .int .i64 hi, .bool bl, sv, .int .i64 c0, .int .i64 c1, .int .i64 c2, .int .i64 c3, .int .i64 c4]] #[])) :
    Calls Try.prog 35 #[.agg #[.int .i64 v, .int .i64 s, .bool b], .pointer (some ⟨g, 0, none⟩)] w fun e w' => e = .returned (.bool (pend (isOld ⟨nw, t, d, lo, hi, bl⟩) ⟨v, s, b⟩)) ∧ Below w.heap.size w w' := by
  have HB := Aside0.mk (Below.refl w.heap.size w)
  have hgl : g < w.heap.size := World.block_lt_of_cell? w _ hF
  go_enter Try.func35, Try.ntmps35
  go_wp2_with fail
  (with_reducible refine (old_q nw t d lo hi bl sv c0 c1 c2 c3 c4 v s b _).mono ?_)
  rintro e w1 ⟨rfl, hb1⟩
  have D : IsBlk w1 w.heap.size #[.int .i64 v, .int .i64 s, .bool b] 35 := IsBlk.below (by repeat (first | ((refine IsBlk.new _ _ ?_); (simp; done)) | apply IsBlk.alloc | apply IsBlk.drewN)) hb1
  have D_0 := blk_cell D 0
  have D_1 := blk_cell D 1
  have D_2 := blk_cell D 2
  simp only [List.getElem?_toArray, List.getElem?_cons_zero, List.getElem?_cons_succ] at D_0 D_1 D_2
  have D_l := blk_lt D
  have HD := Aside0.mk D
  clear D
  have n0 := Aside0.mk (below_step (by repeat (first | (with_reducible first | exact HB.out | apply below_alloc | apply pw_below_drewN | apply below_drew1) | refine below_set ?_ (by omega))) hb1)
  clear HB hb1
  have HB := n0
  clear n0
  cases hz : isOld ⟨nw, t, d, lo, hi, bl⟩ ⟨v, s, b⟩
  · go_wp2
    go_ret
    exact ⟨ret_bool (by unfold pend; rw [hz]; rfl), by repeat (first | (with_reducible first | exact HB.out | apply below_alloc | apply pw_below_drewN | apply below_drew1) | refine below_set ?_ (by omega))⟩
  · go_wp2
    go_ret
    exact ⟨ret_bool (by unfold pend; rw [hz]; rfl), by repeat (first | (with_reducible first | exact HB.out | apply below_alloc | apply pw_below_drewN | apply below_drew1) | refine below_set ?_ (by omega))⟩

set_option maxHeartbeats 2000000 in
theorem pendN_q (nw t d lo hi : Int) (bl : Bool) (sv : Value) (c0 c1 c2 c3 c4 : Int) (v s : Int) (b : Bool) (g : Nat) (w : World) (hF : w.cell? ⟨g, 0, none⟩ = some (.func (.func 27) #[.agg #[.int .i64 nw, .int .i64 t, .int .i64 d, .int .i64 lo, .int .i64 hi, .bool bl, sv, .int .i64 c0, .int .i64 c1, .int .i64 c2, .int .i64 c3, .int .i64 c4]] #[])) :
    Calls Try.prog 35 #[.agg #[.int .i64 v, .int .i64 s, .bool b], .pointer (some ⟨g, 0, none⟩)] w fun e w' => e = .returned (.bool (pend (isNew ⟨nw, t, d, lo, hi, bl⟩) ⟨v, s, b⟩)) ∧ Below w.heap.size w w' := by
  have HB := Aside0.mk (Below.refl w.heap.size w)
  have hgl : g < w.heap.size := World.block_lt_of_cell? w _ hF
  go_enter Try.func35, Try.ntmps35
  go_wp2_with fail
  (with_reducible refine (new_q nw t d lo hi bl sv c0 c1 c2 c3 c4 v s b _).mono ?_)
  rintro e w1 ⟨rfl, hb1⟩
  have D : IsBlk w1 w.heap.size #[.int .i64 v, .int .i64 s, .bool b] 35 := IsBlk.below (by repeat (first | ((refine IsBlk.new _ _ ?_); (simp; done)) | apply IsBlk.alloc | apply IsBlk.drewN)) hb1
  have D_0 := blk_cell D 0
  have D_1 := blk_cell D 1
  have D_2 := blk_cell D 2
  simp only [List.getElem?_toArray, List.getElem?_cons_zero, List.getElem?_cons_succ] at D_0 D_1 D_2
  have D_l := blk_lt D
  have HD := Aside0.mk D
  clear D
  have n0 := Aside0.mk (below_step (by repeat (first | (with_reducible first | exact HB.out | apply below_alloc | apply pw_below_drewN | apply below_drew1) | refine below_set ?_ (by omega))) hb1)
  clear HB hb1
  have HB := n0
  clear n0
  cases hz : isNew ⟨nw, t, d, lo, hi, bl⟩ ⟨v, s, b⟩
  · go_wp2
    go_ret
    exact ⟨ret_bool (by unfold pend; rw [hz]; rfl), by repeat (first | (with_reducible first | exact HB.out | apply below_alloc | apply pw_below_drewN | apply below_drew1) | refine below_set ?_ (by omega))⟩
  · go_wp2
    go_ret
    exact ⟨ret_bool (by unfold pend; rw [hz]; rfl), by repeat (first | (with_reducible first | exact HB.out | apply below_alloc | apply pw_below_drewN | apply below_drew1) | refine below_set ?_ (by omega))⟩
theorem ret_int {k : IntKind} {a b : Int} (h : a = b) : Ending.returned (.int k a) = .returned (.int k b) := by rw [h]

set_option maxRecDepth 100000 in
set_option maxHeartbeats 2000000 in
theorem idxT_q  (A : Option Addr) (c : Nat) (l : List S35) (w : World) (hr : Kd.C k35 w A l.length l) (hc : l.length ≤ c) (h16 : l.length ≤ 16) :
    Calls Try.prog 22 #[.slice A l.length c, (.func (.func 23) #[] #[])] w fun e w' => e = .returned (.int .i64 (idx noneThere l)) ∧ Below w.heap.size w w' := by
  have HB := Aside0.mk (Below.refl w.heap.size w)
  have HR := Aside0.mk hr
  clear hr
  obtain ⟨z, hz⟩ : ∃ z, idx noneThere l = z := ⟨_, rfl⟩
  rw [hz]
  have HZ := Aside0.mk hz
  clear hz
  have hm : (l.length : Int) ≤ 16 := by omega
  go_enter Try.func22, Try.ntmps22
  go_wp2_with fail
  go_loopw [8] (fun v8 wr => ∃ k : Nat, v8 = .int .i64 k ∧ k ≤ l.length ∧ Aside0 (∀ j, j < k → noneThere (at_ l j) = false) ∧ Aside0 (Below w.heap.size w wr)) (fun v8 _ => l.length - (intOf v8).toNat)
  case atStart => exact ⟨0, rfl, by omega, ⟨fun j hj => absurd hj (Nat.not_lt_zero _)⟩, HB⟩
  case round =>
    clear HB
    obtain ⟨k, rfl, hk, HN, HB⟩ := hrel
    obtain ⟨wq, hwq⟩ : ∃ x, x = wr := ⟨_, rfl⟩
    subst hwq
    by_cases hlt : k < l.length
    · have hd : decide ((k : Int) < (l.length : Int)) = true := by simp; omega
      have hki : (k : Int) < (l.length : Int) := by omega
      obtain ⟨rb, ro, v, s, b, rfl, hrb, hat, u0, u1, u2⟩ := C_at (Kd.C_below HR.out HB.out) k hlt
      have HK := Aside0.mk hat
      have HLT := Aside0.mk hlt
      clear hat hlt
      go_wp2_with fail
      (with_reducible refine (free_q v s b _).mono ?_)
      rintro e w1 ⟨rfl, hb1⟩
      have n0 := Aside0.mk (below_step (by repeat (first | (with_reducible first | exact HB.out | apply below_alloc | apply pw_below_drewN | apply below_drew1) | refine below_set ?_ (by omega))) hb1)
      clear HB hb1
      have HB := n0
      clear n0
      cases hp : noneThere ⟨v, s, b⟩
      · have h2 : ∀ j, j < k + 1 → noneThere (at_ l j) = false := by
          intro j hj
          by_cases e : j = k
          · rw [e, HK.out]; exact hp
          · exact HN.out j (by omega)
        have H2 := Aside0.mk h2
        clear h2 HN
        go_wp2
        go_roundw
        case rel => exact ⟨k + 1, by go_num, by have := HLT.out; omega, H2, HB⟩
        case measure => have := HLT.out; simp [intOf]; omega
      · go_wp2
        go_ret
        exact ⟨ret_int (by rw [← HZ.out]; exact (idx_at HLT.out (by rw [HK.out]; exact hp) HN.out).symm), by repeat (first | (with_reducible first | exact HB.out | apply below_alloc | apply pw_below_drewN | apply below_drew1) | refine below_set ?_ (by omega))⟩
    · have hd : decide ((k : Int) < (l.length : Int)) = false := by simp; omega
      obtain rfl : k = l.length := by omega
      clear hlt hk
      go_wp2
      go_ret
      exact ⟨ret_int (by rw [← HZ.out]; exact (idx_no HN.out).symm), by repeat (first | (with_reducible first | exact HB.out | apply below_alloc | apply pw_below_drewN | apply below_drew1) | refine below_set ?_ (by omega))⟩

set_option maxRecDepth 100000 in
set_option maxHeartbeats 2000000 in
theorem idxO_q (nw t d lo hi : Int) (bl : Bool) (sv : Value) (c0 c1 c2 c3 c4 : Int) (A : Option Addr) (c : Nat) (l : List S35) (w : World) (hr : Kd.C k35 w A l.length l) (hc : l.length ≤ c) (h16 : l.length ≤ 16) :
    Calls Try.prog 22 #[.slice A l.length c, (.func (.func 26) #[.agg #[.int .i64 nw, .int .i64 t, .int .i64 d, .int .i64 lo, .int .i64 hi, .bool bl, sv, .int .i64 c0, .int .i64 c1, .int .i64 c2, .int .i64 c3, .int .i64 c4]] #[])] w fun e w' => e = .returned (.int .i64 (idx (isOld ⟨nw, t, d, lo, hi, bl⟩) l)) ∧ Below w.heap.size w w' := by
  have HB := Aside0.mk (Below.refl w.heap.size w)
  have HR := Aside0.mk hr
  clear hr
  obtain ⟨z, hz⟩ : ∃ z, idx (isOld ⟨nw, t, d, lo, hi, bl⟩) l = z := ⟨_, rfl⟩
  rw [hz]
  have HZ := Aside0.mk hz
  clear hz
  have hm : (l.length : Int) ≤ 16 := by omega
  go_enter Try.func22, Try.ntmps22
  go_wp2_with fail
  go_loopw [8] (fun v8 wr => ∃ k : Nat, v8 = .int .i64 k ∧ k ≤ l.length ∧ Aside0 (∀ j, j < k → (isOld ⟨nw, t, d, lo, hi, bl⟩) (at_ l j) = false) ∧ Aside0 (Below w.heap.size w wr)) (fun v8 _ => l.length - (intOf v8).toNat)
  case atStart => exact ⟨0, rfl, by omega, ⟨fun j hj => absurd hj (Nat.not_lt_zero _)⟩, HB⟩
  case round =>
    clear HB
    obtain ⟨k, rfl, hk, HN, HB⟩ := hrel
    obtain ⟨wq, hwq⟩ : ∃ x, x = wr := ⟨_, rfl⟩
    subst hwq
    by_cases hlt : k < l.length
    · have hd : decide ((k : Int) < (l.length : Int)) = true := by simp; omega
      have hki : (k : Int) < (l.length : Int) := by omega
      obtain ⟨rb, ro, v, s, b, rfl, hrb, hat, u0, u1, u2⟩ := C_at (Kd.C_below HR.out HB.out) k hlt
      have HK := Aside0.mk hat
      have HLT := Aside0.mk hlt
      clear hat hlt
      go_wp2_with fail
      (with_reducible refine (old_q nw t d lo hi bl sv c0 c1 c2 c3 c4 v s b _).mono ?_)
      rintro e w1 ⟨rfl, hb1⟩
      have n0 := Aside0.mk (below_step (by repeat (first | (with_reducible first | exact HB.out | apply below_alloc | apply pw_below_drewN | apply below_drew1) | refine below_set ?_ (by omega))) hb1)
      clear HB hb1
      have HB := n0
      clear n0
      cases hp : (isOld ⟨nw, t, d, lo, hi, bl⟩) ⟨v, s, b⟩
      · have h2 : ∀ j, j < k + 1 → (isOld ⟨nw, t, d, lo, hi, bl⟩) (at_ l j) = false := by
          intro j hj
          by_cases e : j = k
          · rw [e, HK.out]; exact hp
          · exact HN.out j (by omega)
        have H2 := Aside0.mk h2
        clear h2 HN
        go_wp2
        go_roundw
        case rel => exact ⟨k + 1, by go_num, by have := HLT.out; omega, H2, HB⟩
        case measure => have := HLT.out; simp [intOf]; omega
      · go_wp2
        go_ret
        exact ⟨ret_int (by rw [← HZ.out]; exact (idx_at HLT.out (by rw [HK.out]; exact hp) HN.out).symm), by repeat (first | (with_reducible first | exact HB.out | apply below_alloc | apply pw_below_drewN | apply below_drew1) | refine below_set ?_ (by omega))⟩
    · have hd : decide ((k : Int) < (l.length : Int)) = false := by simp; omega
      obtain rfl : k = l.length := by omega
      clear hlt hk
      go_wp2
      go_ret
      exact ⟨ret_int (by rw [← HZ.out]; exact (idx_no HN.out).symm), by repeat (first | (with_reducible first | exact HB.out | apply below_alloc | apply pw_below_drewN | apply below_drew1) | refine below_set ?_ (by omega))⟩

set_option maxRecDepth 100000 in
set_option maxHeartbeats 2000000 in
theorem idxN_q (nw t d lo hi : Int) (bl : Bool) (sv : Value) (c0 c1 c2 c3 c4 : Int) (A : Option Addr) (c : Nat) (l : List S35) (w : World) (hr : Kd.C k35 w A l.length l) (hc : l.length ≤ c) (h16 : l.length ≤ 16) :
    Calls Try.prog 22 #[.slice A l.length c, (.func (.func 27) #[.agg #[.int .i64 nw, .int .i64 t, .int .i64 d, .int .i64 lo, .int .i64 hi, .bool bl, sv, .int .i64 c0, .int .i64 c1, .int .i64 c2, .int .i64 c3, .int .i64 c4]] #[])] w fun e w' => e = .returned (.int .i64 (idx (isNew ⟨nw, t, d, lo, hi, bl⟩) l)) ∧ Below w.heap.size w w' := by
  have HB := Aside0.mk (Below.refl w.heap.size w)
  have HR := Aside0.mk hr
  clear hr
  obtain ⟨z, hz⟩ : ∃ z, idx (isNew ⟨nw, t, d, lo, hi, bl⟩) l = z := ⟨_, rfl⟩
  rw [hz]
  have HZ := Aside0.mk hz
  clear hz
  have hm : (l.length : Int) ≤ 16 := by omega
  go_enter Try.func22, Try.ntmps22
  go_wp2_with fail
  go_loopw [8] (fun v8 wr => ∃ k : Nat, v8 = .int .i64 k ∧ k ≤ l.length ∧ Aside0 (∀ j, j < k → (isNew ⟨nw, t, d, lo, hi, bl⟩) (at_ l j) = false) ∧ Aside0 (Below w.heap.size w wr)) (fun v8 _ => l.length - (intOf v8).toNat)
  case atStart => exact ⟨0, rfl, by omega, ⟨fun j hj => absurd hj (Nat.not_lt_zero _)⟩, HB⟩
  case round =>
    clear HB
    obtain ⟨k, rfl, hk, HN, HB⟩ := hrel
    obtain ⟨wq, hwq⟩ : ∃ x, x = wr := ⟨_, rfl⟩
    subst hwq
    by_cases hlt : k < l.length
    · have hd : decide ((k : Int) < (l.length : Int)) = true := by simp; omega
      have hki : (k : Int) < (l.length : Int) := by omega
      obtain ⟨rb, ro, v, s, b, rfl, hrb, hat, u0, u1, u2⟩ := C_at (Kd.C_below HR.out HB.out) k hlt
      have HK := Aside0.mk hat
      have HLT := Aside0.mk hlt
      clear hat hlt
      go_wp2_with fail
      (with_reducible refine (new_q nw t d lo hi bl sv c0 c1 c2 c3 c4 v s b _).mono ?_)
      rintro e w1 ⟨rfl, hb1⟩
      have n0 := Aside0.mk (below_step (by repeat (first | (with_reducible first | exact HB.out | apply below_alloc | apply pw_below_drewN | apply below_drew1) | refine below_set ?_ (by omega))) hb1)
      clear HB hb1
      have HB := n0
      clear n0
      cases hp : (isNew ⟨nw, t, d, lo, hi, bl⟩) ⟨v, s, b⟩
      · have h2 : ∀ j, j < k + 1 → (isNew ⟨nw, t, d, lo, hi, bl⟩) (at_ l j) = false := by
          intro j hj
          by_cases e : j = k
          · rw [e, HK.out]; exact hp
          · exact HN.out j (by omega)
        have H2 := Aside0.mk h2
        clear h2 HN
        go_wp2
        go_roundw
        case rel => exact ⟨k + 1, by go_num, by have := HLT.out; omega, H2, HB⟩
        case measure => have := HLT.out; simp [intOf]; omega
      · go_wp2
        go_ret
        exact ⟨ret_int (by rw [← HZ.out]; exact (idx_at HLT.out (by rw [HK.out]; exact hp) HN.out).symm), by repeat (first | (with_reducible first | exact HB.out | apply below_alloc | apply pw_below_drewN | apply below_drew1) | refine below_set ?_ (by omega))⟩
    · have hd : decide ((k : Int) < (l.length : Int)) = false := by simp; omega
      obtain rfl : k = l.length := by omega
      clear hlt hk
      go_wp2
      go_ret
      exact ⟨ret_int (by rw [← HZ.out]; exact (idx_no HN.out).symm), by repeat (first | (with_reducible first | exact HB.out | apply below_alloc | apply pw_below_drewN | apply below_drew1) | refine below_set ?_ (by omega))⟩

set_option maxRecDepth 100000 in
set_option maxHeartbeats 2000000 in
theorem idxPO_q (nw t d lo hi : Int) (bl : Bool) (sv : Value) (c0 c1 c2 c3 c4 : Int) (A : Option Addr) (c : Nat) (l : List S35) (w : World) (hr : Kd.C k35 w A l.length l) (hc : l.length ≤ c) (h16 : l.length ≤ 16) (g : Nat) (hF : w.cell? ⟨g, 0, none⟩ = some (.func (.func 26) #[.agg #[.int .i64 nw, .int .i64 t, .int .i64 d, .int .i64 lo, .int .i64 hi, .bool bl, sv, .int .i64 c0, .int .i64 c1, .int .i64 c2, .int .i64 c3, .int .i64 c4]] #[])) :
    Calls Try.prog 22 #[.slice A l.length c, (.func (.func 35) #[] #[.pointer (some ⟨g, 0, none⟩)])] w fun e w' => e = .returned (.int .i64 (idx (pend (isOld ⟨nw, t, d, lo, hi, bl⟩)) l)) ∧ Below w.heap.size w w' := by
  have HB := Aside0.mk (Below.refl w.heap.size w)
  have HR := Aside0.mk hr
  clear hr
  obtain ⟨z, hz⟩ : ∃ z, idx (pend (isOld ⟨nw, t, d, lo, hi, bl⟩)) l = z := ⟨_, rfl⟩
  rw [hz]
  have HZ := Aside0.mk hz
  clear hz
  have hm : (l.length : Int) ≤ 16 := by omega
  have HF := Aside0.mk hF
  clear hF
  go_enter Try.func22, Try.ntmps22
  go_wp2_with fail
  go_loopw [8] (fun v8 wr => ∃ k : Nat, v8 = .int .i64 k ∧ k ≤ l.length ∧ Aside0 (∀ j, j < k → (pend (isOld ⟨nw, t, d, lo, hi, bl⟩)) (at_ l j) = false) ∧ Aside0 (Below w.heap.size w wr)) (fun v8 _ => l.length - (intOf v8).toNat)
  case atStart => exact ⟨0, rfl, by omega, ⟨fun j hj => absurd hj (Nat.not_lt_zero _)⟩, HB⟩
  case round =>
    clear HB
    obtain ⟨k, rfl, hk, HN, HB⟩ := hrel
    obtain ⟨wq, hwq⟩ : ∃ x, x = wr := ⟨_, rfl⟩
    subst hwq
    by_cases hlt : k < l.length
    · have hd : decide ((k : Int) < (l.length : Int)) = true := by simp; omega
      have hki : (k : Int) < (l.length : Int) := by omega
      obtain ⟨rb, ro, v, s, b, rfl, hrb, hat, u0, u1, u2⟩ := C_at (Kd.C_below HR.out HB.out) k hlt
      have HK := Aside0.mk hat
      have HLT := Aside0.mk hlt
      clear hat hlt
      go_wp2_with fail
      (with_reducible refine (pendO_q nw t d lo hi bl sv c0 c1 c2 c3 c4 v s b g _ (cell_keep HB.out HF.out)).mono ?_)
      rintro e w1 ⟨rfl, hb1⟩
      have n0 := Aside0.mk (below_step (by repeat (first | (with_reducible first | exact HB.out | apply below_alloc | apply pw_below_drewN | apply below_drew1) | refine below_set ?_ (by omega))) hb1)
      clear HB hb1
      have HB := n0
      clear n0
      cases hp : (pend (isOld ⟨nw, t, d, lo, hi, bl⟩)) ⟨v, s, b⟩
      · have h2 : ∀ j, j < k + 1 → (pend (isOld ⟨nw, t, d, lo, hi, bl⟩)) (at_ l j) = false := by
          intro j hj
          by_cases e : j = k
          · rw [e, HK.out]; exact hp
          · exact HN.out j (by omega)
        have H2 := Aside0.mk h2
        clear h2 HN
        go_wp2
        go_roundw
        case rel => exact ⟨k + 1, by go_num, by have := HLT.out; omega, H2, HB⟩
        case measure => have := HLT.out; simp [intOf]; omega
      · go_wp2
        go_ret
        exact ⟨ret_int (by rw [← HZ.out]; exact (idx_at HLT.out (by rw [HK.out]; exact hp) HN.out).symm), by repeat (first | (with_reducible first | exact HB.out | apply below_alloc | apply pw_below_drewN | apply below_drew1) | refine below_set ?_ (by omega))⟩
    · have hd : decide ((k : Int) < (l.length : Int)) = false := by simp; omega
      obtain rfl : k = l.length := by omega
      clear hlt hk
      go_wp2
      go_ret
      exact ⟨ret_int (by rw [← HZ.out]; exact (idx_no HN.out).symm), by repeat (first | (with_reducible first | exact HB.out | apply below_alloc | apply pw_below_drewN | apply below_drew1) | refine below_set ?_ (by omega))⟩

set_option maxRecDepth 100000 in
set_option maxHeartbeats 2000000 in
theorem idxPN_q (nw t d lo hi : Int) (bl : Bool) (sv : Value) (c0 c1 c2 c3 c4 : Int) (A : Option Addr) (c : Nat) (l : List S35) (w : World) (hr : Kd.C k35 w A l.length l) (hc : l.length ≤ c) (h16 : l.length ≤ 16) (g : Nat) (hF : w.cell? ⟨g, 0, none⟩ = some (.func (.func 27) #[.agg #[.int .i64 nw, .int .i64 t, .int .i64 d, .int .i64 lo, .int .i64 hi, .bool bl, sv, .int .i64 c0, .int .i64 c1, .int .i64 c2, .int .i64 c3, .int .i64 c4]] #[])) :
    Calls Try.prog 22 #[.slice A l.length c, (.func (.func 35) #[] #[.pointer (some ⟨g, 0, none⟩)])] w fun e w' => e = .returned (.int .i64 (idx (pend (isNew ⟨nw, t, d, lo, hi, bl⟩)) l)) ∧ Below w.heap.size w w' := by
  have HB := Aside0.mk (Below.refl w.heap.size w)
  have HR := Aside0.mk hr
  clear hr
  obtain ⟨z, hz⟩ : ∃ z, idx (pend (isNew ⟨nw, t, d, lo, hi, bl⟩)) l = z := ⟨_, rfl⟩
  rw [hz]
  have HZ := Aside0.mk hz
  clear hz
  have hm : (l.length : Int) ≤ 16 := by omega
  have HF := Aside0.mk hF
  clear hF
  go_enter Try.func22, Try.ntmps22
  go_wp2_with fail
  go_loopw [8] (fun v8 wr => ∃ k : Nat, v8 = .int .i64 k ∧ k ≤ l.length ∧ Aside0 (∀ j, j < k → (pend (isNew ⟨nw, t, d, lo, hi, bl⟩)) (at_ l j) = false) ∧ Aside0 (Below w.heap.size w wr)) (fun v8 _ => l.length - (intOf v8).toNat)
  case atStart => exact ⟨0, rfl, by omega, ⟨fun j hj => absurd hj (Nat.not_lt_zero _)⟩, HB⟩
  case round =>
    clear HB
    obtain ⟨k, rfl, hk, HN, HB⟩ := hrel
    obtain ⟨wq, hwq⟩ : ∃ x, x = wr := ⟨_, rfl⟩
    subst hwq
    by_cases hlt : k < l.length
    · have hd : decide ((k : Int) < (l.length : Int)) = true := by simp; omega
      have hki : (k : Int) < (l.length : Int) := by omega
      obtain ⟨rb, ro, v, s, b, rfl, hrb, hat, u0, u1, u2⟩ := C_at (Kd.C_below HR.out HB.out) k hlt
      have HK := Aside0.mk hat
      have HLT := Aside0.mk hlt
      clear hat hlt
      go_wp2_with fail
      (with_reducible refine (pendN_q nw t d lo hi bl sv c0 c1 c2 c3 c4 v s b g _ (cell_keep HB.out HF.out)).mono ?_)
      rintro e w1 ⟨rfl, hb1⟩
      have n0 := Aside0.mk (below_step (by repeat (first | (with_reducible first | exact HB.out | apply below_alloc | apply pw_below_drewN | apply below_drew1) | refine below_set ?_ (by omega))) hb1)
      clear HB hb1
      have HB := n0
      clear n0
      cases hp : (pend (isNew ⟨nw, t, d, lo, hi, bl⟩)) ⟨v, s, b⟩
      · have h2 : ∀ j, j < k + 1 → (pend (isNew ⟨nw, t, d, lo, hi, bl⟩)) (at_ l j) = false := by
          intro j hj
          by_cases e : j = k
          · rw [e, HK.out]; exact hp
          · exact HN.out j (by omega)
        have H2 := Aside0.mk h2
        clear h2 HN
        go_wp2
        go_roundw
        case rel => exact ⟨k + 1, by go_num, by have := HLT.out; omega, H2, HB⟩
        case measure => have := HLT.out; simp [intOf]; omega
      · go_wp2
        go_ret
        exact ⟨ret_int (by rw [← HZ.out]; exact (idx_at HLT.out (by rw [HK.out]; exact hp) HN.out).symm), by repeat (first | (with_reducible first | exact HB.out | apply below_alloc | apply pw_below_drewN | apply below_drew1) | refine below_set ?_ (by omega))⟩
    · have hd : decide ((k : Int) < (l.length : Int)) = false := by simp; omega
      obtain rfl : k = l.length := by omega
      clear hlt hk
      go_wp2
      go_ret
      exact ⟨ret_int (by rw [← HZ.out]; exact (idx_no HN.out).symm), by repeat (first | (with_reducible first | exact HB.out | apply below_alloc | apply pw_below_drewN | apply below_drew1) | refine below_set ?_ (by omega))⟩

set_option maxRecDepth 100000 in
set_option maxHeartbeats 4000000 in
theorem goesO_q (nw t d lo hi : Int) (bl : Bool) (c0 c1 c2 c4 : Int) (A : Option Addr) (c : Nat) (l : List S35) (w : World) (hr : Kd.C k35 w A l.length l) (hc : l.length ≤ c) (h16 : l.length ≤ 16) (up : Int) (hup : up = cnt isUp l) :
    Calls Try.prog 25 #[.agg #[.int .i64 nw, .int .i64 t, .int .i64 d, .int .i64 lo, .int .i64 hi, .bool bl, (.slice A l.length c), .int .i64 c0, .int .i64 c1, .int .i64 c2, .int .i64 up, .int .i64 c4], (.func (.func 26) #[.agg #[.int .i64 nw, .int .i64 t, .int .i64 d, .int .i64 lo, .int .i64 hi, .bool bl, (.slice A l.length c), .int .i64 c0, .int .i64 c1, .int .i64 c2, .int .i64 up, .int .i64 c4]] #[])] w fun e w' => e = .returned (.int .i64 (goesV ⟨nw, t, d, lo, hi, bl⟩ (isOld ⟨nw, t, d, lo, hi, bl⟩) l)) ∧ Below w.heap.size w w' := by
  have HB := Aside0.mk (Below.refl w.heap.size w)
  have HR := Aside0.mk hr
  have hbd := cnt_bound isUp l
  rw [← hup] at hbd
  obtain ⟨z, hz⟩ : ∃ z, goesV ⟨nw, t, d, lo, hi, bl⟩ (isOld ⟨nw, t, d, lo, hi, bl⟩) l = z := ⟨_, rfl⟩
  obtain ⟨i1, hi1⟩ : ∃ z, idx (pend (isOld ⟨nw, t, d, lo, hi, bl⟩)) l = z := ⟨_, rfl⟩
  obtain ⟨i2, hi2⟩ : ∃ z, idx (isOld ⟨nw, t, d, lo, hi, bl⟩) l = z := ⟨_, rfl⟩
  have hlow := idx_low (pend (isOld ⟨nw, t, d, lo, hi, bl⟩)) l
  rw [hi1] at hlow
  rw [hz]
  have hz2 : z = if 0 ≤ i1 ∨ up - 1 < lo then i1 else i2 := by rw [← hz, ← hi1, ← hi2, hup]; rfl
  have HZ := Aside0.mk hz2
  have H1 := Aside0.mk hi1
  have H2 := Aside0.mk hi2
  clear hr hz hz2 hi1 hi2 hup
  have hbu : 0 ≤ up ∧ up ≤ 16 := by omega
  clear hbd
  go_enter Try.func25, Try.ntmps25
  go_wp2_with fail
  have D : IsBlk ((w.alloc (.cells #[.int .i64 nw, .int .i64 t, .int .i64 d, .int .i64 lo, .int .i64 hi, .bool bl, (.slice A l.length c), .int .i64 c0, .int .i64 c1, .int .i64 c2, .int .i64 up, .int .i64 c4] 51)).alloc (.cells #[(.func (.func 26) #[.agg #[.int .i64 nw, .int .i64 t, .int .i64 d, .int .i64 lo, .int .i64 hi, .bool bl, (.slice A l.length c), .int .i64 c0, .int .i64 c1, .int .i64 c2, .int .i64 up, .int .i64 c4]] #[])] 54)) w.heap.size #[.int .i64 nw, .int .i64 t, .int .i64 d, .int .i64 lo, .int .i64 hi, .bool bl, (.slice A l.length c), .int .i64 c0, .int .i64 c1, .int .i64 c2, .int .i64 up, .int .i64 c4] 51 := (IsBlk.new _ _ rfl).alloc _
  have E : IsBlk ((w.alloc (.cells #[.int .i64 nw, .int .i64 t, .int .i64 d, .int .i64 lo, .int .i64 hi, .bool bl, (.slice A l.length c), .int .i64 c0, .int .i64 c1, .int .i64 c2, .int .i64 up, .int .i64 c4] 51)).alloc (.cells #[(.func (.func 26) #[.agg #[.int .i64 nw, .int .i64 t, .int .i64 d, .int .i64 lo, .int .i64 hi, .bool bl, (.slice A l.length c), .int .i64 c0, .int .i64 c1, .int .i64 c2, .int .i64 up, .int .i64 c4]] #[])] 54)) (w.heap.size + 1) #[(.func (.func 26) #[.agg #[.int .i64 nw, .int .i64 t, .int .i64 d, .int .i64 lo, .int .i64 hi, .bool bl, (.slice A l.length c), .int .i64 c0, .int .i64 c1, .int .i64 c2, .int .i64 up, .int .i64 c4]] #[])] 54 := IsBlk.new _ _ (by simp)
  have hE := blk_cell E 0
  simp only [List.getElem?_toArray, List.getElem?_cons_zero] at hE
  have HD := Aside0.mk D
  have HE := Aside0.mk E
  clear D E
  (with_reducible refine (idxPO_q nw t d lo hi bl (.slice A l.length c) c0 c1 c2 up c4 A c l _ ?hC hc h16 _ hE).mono ?_)
  case hC => exact Kd.C_below HR.out (by repeat (first | (with_reducible first | exact HB.out | apply below_alloc | apply pw_below_drewN | apply below_drew1) | refine below_set ?_ (by omega)))
  rw [H1.out]
  rintro e w1 ⟨rfl, hb1⟩
  have D := IsBlk.below (by repeat (with_reducible first | exact HD.out | apply IsBlk.alloc | apply IsBlk.drewN | apply IsBlk.drew)) hb1
  have E := IsBlk.below (by repeat (with_reducible first | exact HE.out | apply IsBlk.alloc | apply IsBlk.drewN | apply IsBlk.drew)) hb1
  clear HD HE hE
  have D_0 := blk_cell D 0
  have D_1 := blk_cell D 1
  have D_2 := blk_cell D 2
  have D_3 := blk_cell D 3
  have D_4 := blk_cell D 4
  have D_5 := blk_cell D 5
  have D_6 := blk_cell D 6
  have D_7 := blk_cell D 7
  have D_8 := blk_cell D 8
  have D_9 := blk_cell D 9
  have D_10 := blk_cell D 10
  have D_11 := blk_cell D 11
  simp only [List.getElem?_toArray, List.getElem?_cons_zero, List.getElem?_cons_succ] at D_0 D_1 D_2 D_3 D_4 D_5 D_6 D_7 D_8 D_9 D_10 D_11
  have D_l := blk_lt D
  have HD := Aside0.mk D
  clear D
  have E_0 := blk_cell E 0
  simp only [List.getElem?_toArray, List.getElem?_cons_zero, List.getElem?_cons_succ] at E_0
  have E_l := blk_lt E
  have HE := Aside0.mk E
  clear E
  have n0 := Aside0.mk (below_step (by repeat (first | (with_reducible first | exact HB.out | apply below_alloc | apply pw_below_drewN | apply below_drew1) | refine below_set ?_ (by omega))) hb1)
  clear HB hb1
  have HB := n0
  clear n0
  cases h1 : decide (0 ≤ i1)
  · cases h2 : decide (up - 1 < lo)
    · go_wp2_with fail
      (with_reducible refine (idxO_q nw t d lo hi bl (.slice A l.length c) c0 c1 c2 up c4 A c l _ ?hC hc h16).mono ?_)
      case hC => exact Kd.C_below HR.out (by repeat (first | (with_reducible first | exact HB.out | apply below_alloc | apply pw_below_drewN | apply below_drew1) | refine below_set ?_ (by omega)))
      rw [H2.out]
      rintro e w2 ⟨rfl, hb1⟩
      have n0 := Aside0.mk (below_step (by repeat (first | (with_reducible first | exact HB.out | apply below_alloc | apply pw_below_drewN | apply below_drew1) | refine below_set ?_ (by omega))) hb1)
      clear HB hb1
      have HB := n0
      clear n0
      go_wp2
      go_ret
      exact ⟨ret_int (by rw [HZ.out, if_neg (by simp at h1 h2; omega)]), by repeat (first | (with_reducible first | exact HB.out | apply below_alloc | apply pw_below_drewN | apply below_drew1) | refine below_set ?_ (by omega))⟩
    · go_wp2
      go_ret
      exact ⟨ret_int (by rw [HZ.out, if_pos (.inr (by simpa using h2))]), by repeat (first | (with_reducible first | exact HB.out | apply below_alloc | apply pw_below_drewN | apply below_drew1) | refine below_set ?_ (by omega))⟩
  · go_wp2
    go_ret
    exact ⟨ret_int (by rw [HZ.out, if_pos (.inl (by simpa using h1))]), by repeat (first | (with_reducible first | exact HB.out | apply below_alloc | apply pw_below_drewN | apply below_drew1) | refine below_set ?_ (by omega))⟩

set_option maxRecDepth 100000 in
set_option maxHeartbeats 4000000 in
theorem goesN_q (nw t d lo hi : Int) (bl : Bool) (c0 c1 c2 c4 : Int) (A : Option Addr) (c : Nat) (l : List S35) (w : World) (hr : Kd.C k35 w A l.length l) (hc : l.length ≤ c) (h16 : l.length ≤ 16) (up : Int) (hup : up = cnt isUp l) :
    Calls Try.prog 25 #[.agg #[.int .i64 nw, .int .i64 t, .int .i64 d, .int .i64 lo, .int .i64 hi, .bool bl, (.slice A l.length c), .int .i64 c0, .int .i64 c1, .int .i64 c2, .int .i64 up, .int .i64 c4], (.func (.func 27) #[.agg #[.int .i64 nw, .int .i64 t, .int .i64 d, .int .i64 lo, .int .i64 hi, .bool bl, (.slice A l.length c), .int .i64 c0, .int .i64 c1, .int .i64 c2, .int .i64 up, .int .i64 c4]] #[])] w fun e w' => e = .returned (.int .i64 (goesV ⟨nw, t, d, lo, hi, bl⟩ (isNew ⟨nw, t, d, lo, hi, bl⟩) l)) ∧ Below w.heap.size w w' := by
  have HB := Aside0.mk (Below.refl w.heap.size w)
  have HR := Aside0.mk hr
  have hbd := cnt_bound isUp l
  rw [← hup] at hbd
  obtain ⟨z, hz⟩ : ∃ z, goesV ⟨nw, t, d, lo, hi, bl⟩ (isNew ⟨nw, t, d, lo, hi, bl⟩) l = z := ⟨_, rfl⟩
  obtain ⟨i1, hi1⟩ : ∃ z, idx (pend (isNew ⟨nw, t, d, lo, hi, bl⟩)) l = z := ⟨_, rfl⟩
  obtain ⟨i2, hi2⟩ : ∃ z, idx (isNew ⟨nw, t, d, lo, hi, bl⟩) l = z := ⟨_, rfl⟩
  have hlow := idx_low (pend (isNew ⟨nw, t, d, lo, hi, bl⟩)) l
  rw [hi1] at hlow
  rw [hz]
  have hz2 : z = if 0 ≤ i1 ∨ up - 1 < lo then i1 else i2 := by rw [← hz, ← hi1, ← hi2, hup]; rfl
  have HZ := Aside0.mk hz2
  have H1 := Aside0.mk hi1
  have H2 := Aside0.mk hi2
  clear hr hz hz2 hi1 hi2 hup
  have hbu : 0 ≤ up ∧ up ≤ 16 := by omega
  clear hbd
  go_enter Try.func25, Try.ntmps25
  go_wp2_with fail
  have D : IsBlk ((w.alloc (.cells #[.int .i64 nw, .int .i64 t, .int .i64 d, .int .i64 lo, .int .i64 hi, .bool bl, (.slice A l.length c), .int .i64 c0, .int .i64 c1, .int .i64 c2, .int .i64 up, .int .i64 c4] 51)).alloc (.cells #[(.func (.func 27) #[.agg #[.int .i64 nw, .int .i64 t, .int .i64 d, .int .i64 lo, .int .i64 hi, .bool bl, (.slice A l.length c), .int .i64 c0, .int .i64 c1, .int .i64 c2, .int .i64 up, .int .i64 c4]] #[])] 54)) w.heap.size #[.int .i64 nw, .int .i64 t, .int .i64 d, .int .i64 lo, .int .i64 hi, .bool bl, (.slice A l.length c), .int .i64 c0, .int .i64 c1, .int .i64 c2, .int .i64 up, .int .i64 c4] 51 := (IsBlk.new _ _ rfl).alloc _
  have E : IsBlk ((w.alloc (.cells #[.int .i64 nw, .int .i64 t, .int .i64 d, .int .i64 lo, .int .i64 hi, .bool bl, (.slice A l.length c), .int .i64 c0, .int .i64 c1, .int .i64 c2, .int .i64 up, .int .i64 c4] 51)).alloc (.cells #[(.func (.func 27) #[.agg #[.int .i64 nw, .int .i64 t, .int .i64 d, .int .i64 lo, .int .i64 hi, .bool bl, (.slice A l.length c), .int .i64 c0, .int .i64 c1, .int .i64 c2, .int .i64 up, .int .i64 c4]] #[])] 54)) (w.heap.size + 1) #[(.func (.func 27) #[.agg #[.int .i64 nw, .int .i64 t, .int .i64 d, .int .i64 lo, .int .i64 hi, .bool bl, (.slice A l.length c), .int .i64 c0, .int .i64 c1, .int .i64 c2, .int .i64 up, .int .i64 c4]] #[])] 54 := IsBlk.new _ _ (by simp)
  have hE := blk_cell E 0
  simp only [List.getElem?_toArray, List.getElem?_cons_zero] at hE
  have HD := Aside0.mk D
  have HE := Aside0.mk E
  clear D E
  (with_reducible refine (idxPN_q nw t d lo hi bl (.slice A l.length c) c0 c1 c2 up c4 A c l _ ?hC hc h16 _ hE).mono ?_)
  case hC => exact Kd.C_below HR.out (by repeat (first | (with_reducible first | exact HB.out | apply below_alloc | apply pw_below_drewN | apply below_drew1) | refine below_set ?_ (by omega)))
  rw [H1.out]
  rintro e w1 ⟨rfl, hb1⟩
  have D := IsBlk.below (by repeat (with_reducible first | exact HD.out | apply IsBlk.alloc | apply IsBlk.drewN | apply IsBlk.drew)) hb1
  have E := IsBlk.below (by repeat (with_reducible first | exact HE.out | apply IsBlk.alloc | apply IsBlk.drewN | apply IsBlk.drew)) hb1
  clear HD HE hE
  have D_0 := blk_cell D 0
  have D_1 := blk_cell D 1
  have D_2 := blk_cell D 2
  have D_3 := blk_cell D 3
  have D_4 := blk_cell D 4
  have D_5 := blk_cell D 5
  have D_6 := blk_cell D 6
  have D_7 := blk_cell D 7
  have D_8 := blk_cell D 8
  have D_9 := blk_cell D 9
  have D_10 := blk_cell D 10
  have D_11 := blk_cell D 11
  simp only [List.getElem?_toArray, List.getElem?_cons_zero, List.getElem?_cons_succ] at D_0 D_1 D_2 D_3 D_4 D_5 D_6 D_7 D_8 D_9 D_10 D_11
  have D_l := blk_lt D
  have HD := Aside0.mk D
  clear D
  have E_0 := blk_cell E 0
  simp only [List.getElem?_toArray, List.getElem?_cons_zero, List.getElem?_cons_succ] at E_0
  have E_l := blk_lt E
  have HE := Aside0.mk E
  clear E
  have n0 := Aside0.mk (below_step (by repeat (first | (with_reducible first | exact HB.out | apply below_alloc | apply pw_below_drewN | apply below_drew1) | refine below_set ?_ (by omega))) hb1)
  clear HB hb1
  have HB := n0
  clear n0
  cases h1 : decide (0 ≤ i1)
  · cases h2 : decide (up - 1 < lo)
    · go_wp2_with fail
      (with_reducible refine (idxN_q nw t d lo hi bl (.slice A l.length c) c0 c1 c2 up c4 A c l _ ?hC hc h16).mono ?_)
      case hC => exact Kd.C_below HR.out (by repeat (first | (with_reducible first | exact HB.out | apply below_alloc | apply pw_below_drewN | apply below_drew1) | refine below_set ?_ (by omega)))
      rw [H2.out]
      rintro e w2 ⟨rfl, hb1⟩
      have n0 := Aside0.mk (below_step (by repeat (first | (with_reducible first | exact HB.out | apply below_alloc | apply pw_below_drewN | apply below_drew1) | refine below_set ?_ (by omega))) hb1)
      clear HB hb1
      have HB := n0
      clear n0
      go_wp2
      go_ret
      exact ⟨ret_int (by rw [HZ.out, if_neg (by simp at h1 h2; omega)]), by repeat (first | (with_reducible first | exact HB.out | apply below_alloc | apply pw_below_drewN | apply below_drew1) | refine below_set ?_ (by omega))⟩
    · go_wp2
      go_ret
      exact ⟨ret_int (by rw [HZ.out, if_pos (.inr (by simpa using h2))]), by repeat (first | (with_reducible first | exact HB.out | apply below_alloc | apply pw_below_drewN | apply below_drew1) | refine below_set ?_ (by omega))⟩
  · go_wp2
    go_ret
    exact ⟨ret_int (by rw [HZ.out, if_pos (.inl (by simpa using h1))]), by repeat (first | (with_reducible first | exact HB.out | apply below_alloc | apply pw_below_drewN | apply below_drew1) | refine below_set ?_ (by omega))⟩
end Go.Proofs.Ytloljhopccpeeaa.Q2

