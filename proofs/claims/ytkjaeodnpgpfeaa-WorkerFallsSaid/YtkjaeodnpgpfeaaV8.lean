/-
  Proved here: what a worker's Report answers; the worker and the reference are found alike. No condition.
-/
import Derived.Test.YtkjaeodnpgpfeaaV7
namespace Go.Proofs.Ytkjaeodnpgpfeaa.V8
open Go.RowKit Go.Maps Go.Sort Go.Shelf Go.Proofs.Ytkjaeodnpgpfeaa.M Go.Proofs.Ytkjaeodnpgpfeaa.S0 Go.Proofs.Ytkjaeodnpgpfeaa.S4 Go.Proofs.Ytkjaeodnpgpfeaa.W0 Go.Proofs.YtkjaeodnpgpfeaaW.PrintWords Go.Proofs.YtkjaeodnpgpfeaaW.PrintLast Go.Proofs.YtkjaeodnpgpfeaaW.PrintMore Go.Proofs.Ytkjaeodnpgpfeaa.W1 Go.Proofs.Ytkjaeodnpgpfeaa.W2 Go.Proofs.Ytkjaeodnpgpfeaa.W3 Go.Proofs.Ytkjaeodnpgpfeaa.W4 Go.Proofs.Ytkjaeodnpgpfeaa.W5 Go.Proofs.Ytkjaeodnpgpfeaa.W8 Go.Proofs.Ytkjaeodnpgpfeaa.V0 Go.Proofs.Ytkjaeodnpgpfeaa.V1 Go.Proofs.Ytkjaeodnpgpfeaa.V2 Go.Proofs.Ytkjaeodnpgpfeaa.V3 Go.Proofs.Ytkjaeodnpgpfeaa.V4 Go.Proofs.Ytkjaeodnpgpfeaa.V5 Go.Proofs.Ytkjaeodnpgpfeaa.V6 Go.Proofs.Ytkjaeodnpgpfeaa.V7
set_option linter.unusedVariables false
set_option linter.unusedSimpArgs false
attribute [local go_sem] max2_int min2_int max_two min_two run_makeMap

set_option maxRecDepth 100000 in
set_option maxHeartbeats 4000000 in
theorem report_some (g q : Nat) (seen : Int) (f : Int → Option Sl) (k a b c d : Int) (w : World) (h : Wk w g q seen f) (he : f k = some ⟨a, b, c, d⟩) : Calls Try.prog 22 #[.pointer (some ⟨g, 0, none⟩), .int .i64 k] w fun e w' => e = .returned (.tuple #[.agg #[.int .i64 2, .int .i64 seen, .int .i64 d, .int .i64 k, .int .i64 b, .int .i64 a], .bool true]) ∧ Below w.heap.size w w' := by
  have HB := Aside0.mk (Below.refl w.heap.size w)
  have HK := Aside0.mk h
  have HE := Aside0.mk he
  have HGL := Aside0.mk (blk_lt h.blk)
  clear h he
  go_enter Try.func22, Try.ntmps22
  go_wp2_with fail
  refine (slot_l g q seen f k a b c d true _ (by repeat (with_reducible first | exact HK.out | apply Wk.alloc | apply Wk.drewN | apply Wk.drew)) (some_slot f k _ HE.out) (by rw [HE.out]; rfl)).mono ?_
  rintro e w1 ⟨rfl, hb1⟩
  have D : IsBlk w1 w.heap.size #[.int .i64 0, .int .i64 0, .int .i64 0, .int .i64 0, .int .i64 0, .int .i64 0] 26 := IsBlk.below (IsBlk.new _ _ rfl) hb1
  have HK' := Aside0.mk (Wk.below (HK.out.alloc _) hb1)
  have HDL := Aside0.mk (blk_lt D)
  clear HK
  have n0 := Aside0.mk (below_step (by repeat (first | (with_reducible first | exact HB.out | apply below_alloc | apply pw_below_drewN | apply below_drew1) | refine below_set ?_ (by omega))) hb1)
  clear HB hb1
  have HB := n0
  clear n0
  go_upto_region 4 with fail
  have T : IsBlk (w1.alloc (.cells #[.int .i64 a, .int .i64 b, .int .i64 c, .int .i64 d] 35)) w1.heap.size #[.int .i64 a, .int .i64 b, .int .i64 c, .int .i64 d] 35 := IsBlk.new _ _ rfl
  have D' : IsBlk (w1.alloc (.cells #[.int .i64 a, .int .i64 b, .int .i64 c, .int .i64 d] 35)) w.heap.size #[.int .i64 0, .int .i64 0, .int .i64 0, .int .i64 0, .int .i64 0, .int .i64 0] 26 := IsBlk.alloc D _
  have G : IsBlk (w1.alloc (.cells #[.int .i64 a, .int .i64 b, .int .i64 c, .int .i64 d] 35)) g #[.map (some q), .int .i64 seen] 65 := IsBlk.alloc HK'.out.blk _
  have HB' : Aside0 (Below w.heap.size w (w1.alloc (.cells #[.int .i64 a, .int .i64 b, .int .i64 c, .int .i64 d] 35))) := ⟨below_alloc HB.out _⟩
  clear D HK' HB
  generalize (w1.alloc (.cells #[.int .i64 a, .int .i64 b, .int .i64 c, .int .i64 d] 35)) = w2 at *
  have D := D'
  have HB := HB'
  clear D' HB'
  have D_0 := blk_cell D 0
  have D_1 := blk_cell D 1
  have D_2 := blk_cell D 2
  have D_3 := blk_cell D 3
  have D_4 := blk_cell D 4
  have D_5 := blk_cell D 5
  simp only [List.getElem?_toArray, List.getElem?_cons_zero, List.getElem?_cons_succ] at D_0 D_1 D_2 D_3 D_4 D_5
  have D_z0 := blk_frozen D 0
  have D_z1 := blk_frozen D 1
  have D_z2 := blk_frozen D 2
  have D_z3 := blk_frozen D 3
  have D_z4 := blk_frozen D 4
  have D_z5 := blk_frozen D 5
  have D_l := blk_lt D
  have HD := Aside0.mk D
  clear D
  have T_0 := blk_cell T 0
  have T_1 := blk_cell T 1
  have T_2 := blk_cell T 2
  have T_3 := blk_cell T 3
  simp only [List.getElem?_toArray, List.getElem?_cons_zero, List.getElem?_cons_succ] at T_0 T_1 T_2 T_3
  have T_z0 := blk_frozen T 0
  have T_z1 := blk_frozen T 1
  have T_z2 := blk_frozen T 2
  have T_z3 := blk_frozen T 3
  have T_l := blk_lt T
  have HT := Aside0.mk T
  clear T
  have G_0 := blk_cell G 0
  have G_1 := blk_cell G 1
  simp only [List.getElem?_toArray, List.getElem?_cons_zero, List.getElem?_cons_succ] at G_0 G_1
  have G_z0 := blk_frozen G 0
  have G_z1 := blk_frozen G 1
  have G_l := blk_lt G
  have HG := Aside0.mk G
  clear G
  refine start_ (n := 14) (S := fun w' => w'.cell? ⟨g, 1, none⟩ = some (.int .i64 seen) ∧ w'.cell? ⟨w1.heap.size, 3, none⟩ = some (.int .i64 d) ∧ w'.cell? ⟨w1.heap.size, 1, none⟩ = some (.int .i64 b) ∧ w'.cell? ⟨w1.heap.size, 0, none⟩ = some (.int .i64 a)) (ds := [12]) #[false, false, false, false, false, false, false, false, false, false, false, false, false, false] (by kernel_rfl) rfl rfl ⟨G_1, T_3, T_1, T_0⟩ (fun hHeld => ?_)
  refine pure_ (i := 0) (N := some 17) (v := ?_) (a' := ?_) #[true, false, false, false, false, false, false, false, false, false, false, false, false, false] rfl rfl (by kernel_rfl) (fun _ _ _ h => h) (Or.inl ⟨by rfl, ?_⟩) ?_ ?_
  rotate_left
  · intro w'
    go_simp
    with_reducible rfl
  rotate_left
  · simp only [Act.put, List.setIfInBounds_toArray, List.set_cons_zero, List.set_cons_succ, i64_w, i32_w]
    rfl
  refine pure_ (i := 1) (N := some 18) (v := ?_) (a' := ?_) #[true, true, false, false, false, false, false, false, false, false, false, false, false, false] rfl rfl (by kernel_rfl) (fun _ _ _ h => h) (Or.inl ⟨by rfl, ?_⟩) ?_ ?_
  rotate_left
  · intro w'
    go_simp
    with_reducible rfl
  rotate_left
  · simp only [Act.put, List.setIfInBounds_toArray, List.set_cons_zero, List.set_cons_succ, i64_w, i32_w]
    rfl
  refine pure_ (i := 2) (N := some 19) (v := ?_) (a' := ?_) #[true, true, true, false, false, false, false, false, false, false, false, false, false, false] rfl rfl (by kernel_rfl) (fun _ _ _ h => h) (Or.inl ⟨by rfl, ?_⟩) ?_ ?_
  rotate_left
  · intro w'
    go_simp
    with_reducible rfl
  rotate_left
  · simp only [Act.put, List.setIfInBounds_toArray, List.set_cons_zero, List.set_cons_succ, i64_w, i32_w]
    rfl
  refine pure_ (i := 4) (N := some 21) (v := ?_) (a' := ?_) #[true, true, true, false, true, false, false, false, false, false, false, false, false, false] rfl rfl (by kernel_rfl) (fun _ _ _ h => h) (Or.inl ⟨by rfl, ?_⟩) ?_ ?_
  rotate_left
  · intro w'
    go_simp
    with_reducible rfl
  rotate_left
  · simp only [Act.put, List.setIfInBounds_toArray, List.set_cons_zero, List.set_cons_succ, i64_w, i32_w]
    rfl
  refine pure_ (i := 6) (N := some 23) (v := ?_) (a' := ?_) #[true, true, true, false, true, false, true, false, false, false, false, false, false, false] rfl rfl (by kernel_rfl) (fun _ _ _ h => h) (Or.inl ⟨by rfl, ?_⟩) ?_ ?_
  rotate_left
  · intro w'
    go_simp
    with_reducible rfl
  rotate_left
  · simp only [Act.put, List.setIfInBounds_toArray, List.set_cons_zero, List.set_cons_succ, i64_w, i32_w]
    rfl
  refine pure_ (i := 7) (N := some 24) (v := ?_) (a' := ?_) #[true, true, true, false, true, false, true, true, false, false, false, false, false, false] rfl rfl (by kernel_rfl) (fun _ _ _ h => h) (Or.inl ⟨by rfl, ?_⟩) ?_ ?_
  rotate_left
  · intro w'
    go_simp
    with_reducible rfl
  rotate_left
  · simp only [Act.put, List.setIfInBounds_toArray, List.set_cons_zero, List.set_cons_succ, i64_w, i32_w]
    rfl
  refine pure_ (i := 9) (N := some 26) (v := ?_) (a' := ?_) #[true, true, true, false, true, false, true, true, false, true, false, false, false, false] rfl rfl (by kernel_rfl) (fun _ _ _ h => h) (Or.inl ⟨by rfl, ?_⟩) ?_ ?_
  rotate_left
  · intro w'
    go_simp
    with_reducible rfl
  rotate_left
  · simp only [Act.put, List.setIfInBounds_toArray, List.set_cons_zero, List.set_cons_succ, i64_w, i32_w]
    rfl
  refine take_ (i := 3) (N := some 20) (v := ?_) (a' := ?_) #[true, true, true, true, true, false, true, true, false, true, false, false, false, false] rfl rfl (by kernel_rfl) (fun _ _ _ h => h) (Or.inl ⟨by rfl, ?_⟩) hHeld ?_ ?_
  rotate_left
  · rintro w' ⟨s0, s1, s2, s3⟩
    go_simp
    with_reducible rfl
  rotate_left
  · simp only [Act.put, List.setIfInBounds_toArray, List.set_cons_zero, List.set_cons_succ, i64_w, i32_w]
    rfl
  refine take_ (i := 5) (N := some 22) (v := ?_) (a' := ?_) #[true, true, true, true, true, true, true, true, false, true, false, false, false, false] rfl rfl (by kernel_rfl) (fun _ _ _ h => h) (Or.inl ⟨by rfl, ?_⟩) hHeld ?_ ?_
  rotate_left
  · rintro w' ⟨s0, s1, s2, s3⟩
    go_simp
    with_reducible rfl
  rotate_left
  · simp only [Act.put, List.setIfInBounds_toArray, List.set_cons_zero, List.set_cons_succ, i64_w, i32_w]
    rfl
  refine take_ (i := 8) (N := some 25) (v := ?_) (a' := ?_) #[true, true, true, true, true, true, true, true, true, true, false, false, false, false] rfl rfl (by kernel_rfl) (fun _ _ _ h => h) (Or.inl ⟨by rfl, ?_⟩) hHeld ?_ ?_
  rotate_left
  · rintro w' ⟨s0, s1, s2, s3⟩
    go_simp
    with_reducible rfl
  rotate_left
  · simp only [Act.put, List.setIfInBounds_toArray, List.set_cons_zero, List.set_cons_succ, i64_w, i32_w]
    rfl
  refine take_ (i := 10) (N := some 27) (v := ?_) (a' := ?_) #[true, true, true, true, true, true, true, true, true, true, true, false, false, false] rfl rfl (by kernel_rfl) (fun _ _ _ h => h) (Or.inl ⟨by rfl, ?_⟩) hHeld ?_ ?_
  rotate_left
  · rintro w' ⟨s0, s1, s2, s3⟩
    go_simp
    with_reducible rfl
  rotate_left
  · simp only [Act.put, List.setIfInBounds_toArray, List.set_cons_zero, List.set_cons_succ, i64_w, i32_w]
    rfl
  refine pure_ (i := 11) (N := some 28) (v := ?_) (a' := ?_) #[true, true, true, true, true, true, true, true, true, true, true, true, false, false] rfl rfl (by kernel_rfl) (fun _ _ _ h => h) (Or.inl ⟨by rfl, ?_⟩) ?_ ?_
  rotate_left
  · intro w'
    go_simp
    with_reducible rfl
  rotate_left
  · simp only [Act.put, List.setIfInBounds_toArray, List.set_cons_zero, List.set_cons_succ, i64_w, i32_w]
    rfl
  refine last_ (i := 12) (N := none) #[true, true, true, true, true, true, true, true, true, true, true, true, true, false] rfl rfl (by kernel_rfl) (by simp) (fun K hK => ?_)
  refine skip_ (w1 := ?_) (by rfl) rfl ?_ ?_
  rotate_left
  · go_simp
    rfl
  refine hK.out _ _ ?_
  clear hK K
  refine pure_ (i := 13) (N := some 5) (v := ?_) (a' := ?_) #[true, true, true, true, true, true, true, true, true, true, true, true, true, true] rfl rfl (by kernel_rfl) (fun _ _ _ h => h) (Or.inl ⟨by rfl, ?_⟩) ?_ ?_
  rotate_left
  · intro w'
    go_simp
    with_reducible rfl
  rotate_left
  · simp only [Act.put, List.setIfInBounds_toArray, List.set_cons_zero, List.set_cons_succ, i64_w, i32_w]
    rfl
  refine done_ (by kernel_rfl) ?_

  go_wp2
  exact bodyPost_ret (v := .tuple #[.agg #[.int .i64 2, .int .i64 seen, .int .i64 d, .int .i64 k, .int .i64 b, .int .i64 a], .bool true]) (by simp [results, Try.results22, go_sem, *]) rfl ⟨rfl, by repeat (first | (with_reducible first | exact HB.out | apply below_alloc | apply pw_below_drewN | apply below_drew1) | refine below_set ?_ (by omega))⟩
theorem report_w (g q : Nat) (seen : Int) (f : Int → Option Sl) (k : Int) (w : World) (h : Wk w g q seen f) : Calls Try.prog 22 #[.pointer (some ⟨g, 0, none⟩), .int .i64 k] w fun e w' => e = .returned (.tuple #[(rep seen f k).1, .bool (rep seen f k).2]) ∧ Below w.heap.size w w' := by
  unfold rep
  cases hf0 : f k with
  | none => exact report_none g q seen f k w h hf0
  | some s => exact report_some g q seen f k s.st s.ver s.want s.seq w h hf0
theorem same_self (l : List Int) (hl : l.length ≤ 100) : PWorkerPlays.pacesetterref01_Same.f 200 l l = some true := by
  unfold PWorkerPlays.pacesetterref01_Same.f
  rw [if_pos rfl]
  have key : ∀ (k : Nat) (i : Int), 0 ≤ i → i ≤ l.length → l.length < k + i → PWorkerPlays.pacesetterref01_Same.l0 k l l i = some true := by
    intro k
    induction k with
    | zero => intro i h0 h1 h2; omega
    | succ k ih =>
      intro i h0 h1 h2
      unfold PWorkerPlays.pacesetterref01_Same.l0
      by_cases hi : i < l.length
      · rw [if_pos hi, if_pos h0, if_pos hi, if_pos rfl]
        have : wrap64 (i + 1) = i + 1 := wrap64_eq (by omega) (by omega)
        rw [this]
        exact ih (i + 1) (by omega) (by omega) (by omega)
      · rw [if_neg hi]
  exact key 200 0 (by omega) (by omega) (by omega)
set_option maxRecDepth 100000 in
set_option maxHeartbeats 8000000 in
theorem like_q (n m seen : Int) (g q : Nat) (f : Int → Option Sl) (w : World) (hd : Dom n m f) (hm : 1 ≤ m ∧ m ≤ 16) (h : Wk w g q seen f) : Calls Try.prog 21 #[.pointer (some ⟨g, 0, none⟩), .agg (rv n m seen (hf f))] w fun e w' => e = .returned (.bool true) ∧ Below w.heap.size w w' := by
  have HB := Aside0.mk (Below.refl w.heap.size w)
  have HD := Aside0.mk hd
  have HM := Aside0.mk hm
  have HK0 := Aside0.mk h
  clear hd hm h
  go_enter Try.func21, Try.ntmps21
  go_wp2_with fail
  go_loopw [5] (fun v5 wr => ∃ (i : Int), v5 = .int .i64 i ∧ Aside0 (-1 ≤ i ∧ i ≤ 17) ∧ Aside0 (IsBlk wr w.heap.size (rv n m seen (hf f)) 47) ∧ Aside0 (Wk wr g q seen f) ∧ Aside0 (Below w.heap.size w wr)) (fun v5 _ => (40 - intOf v5).toNat)
  case atStart => exact ⟨-1, rfl, ⟨by omega⟩, ⟨IsBlk.new _ _ rfl⟩, ⟨HK0.out.alloc _⟩, ⟨below_alloc HB.out _⟩⟩
  case round =>
    clear HB HK0
    obtain ⟨i, rfl, HI, HR, HK, HB⟩ := hrel
    obtain ⟨wq, hwq⟩ : ∃ x, x = wr := ⟨_, rfl⟩
    subst hwq
    by_cases hi : i ≤ 16
    · have t1 : decide (i ≤ 16) = true := decide_eq_true hi
      have HI17 := Aside0.mk hi
      clear hi
      cases hf0 : f i with
      | none =>
      have HF := Aside0.mk hf0
      have HRP : Aside0 (rep seen f i = (.agg #[.int .i64 0, .int .i64 0, .int .i64 0, .int .i64 0, .int .i64 0, .int .i64 0], false)) := ⟨by unfold rep; rw [hf0]⟩
      clear hf0
      go_wp2_with fail
      refine (slot_l g q seen f i 0 0 0 0 false _ (by repeat (with_reducible first | exact HK.out | apply Wk.alloc | apply Wk.drew)) (nil_slot f i HF.out) (by rw [HF.out]; rfl)).mono ?_
      rintro e w1 ⟨rfl, hb1⟩
      have HRn : Aside0 (IsBlk w1 w.heap.size (rv n m seen (hf f)) 47) := ⟨IsBlk.below (by repeat (with_reducible first | exact HR.out | apply IsBlk.alloc | apply IsBlk.drew)) hb1⟩
      have HKn : Aside0 (Wk w1 g q seen f) := ⟨Wk.below (by repeat (with_reducible first | exact HK.out | apply Wk.alloc | apply Wk.drew)) hb1⟩
      have HBn : Aside0 (Below w.heap.size w w1) := ⟨below_step (by repeat (first | (with_reducible first | exact HB.out | apply below_alloc | apply pw_below_drewN | apply below_drew1) | refine below_set ?_ (by omega))) hb1⟩
      clear HR HK HB
      have HR := HRn
      have HK := HKn
      have HB := HBn
      clear HRn HKn HBn
      clear hb1
      go_wp2_with fail
      have HT : Aside0 (IsBlk (w1.alloc (.cells #[.int .i64 0, .int .i64 0, .int .i64 0, .int .i64 0] 35)) w1.heap.size #[.int .i64 0, .int .i64 0, .int .i64 0, .int .i64 0] 35) := ⟨IsBlk.new _ _ rfl⟩
      have HRn : Aside0 (IsBlk (w1.alloc (.cells #[.int .i64 0, .int .i64 0, .int .i64 0, .int .i64 0] 35)) w.heap.size (rv n m seen (hf f)) 47) := ⟨HR.out.alloc _⟩
      have HKn : Aside0 (Wk (w1.alloc (.cells #[.int .i64 0, .int .i64 0, .int .i64 0, .int .i64 0] 35)) g q seen f) := ⟨HK.out.alloc _⟩
      have HBn : Aside0 (Below w.heap.size w (w1.alloc (.cells #[.int .i64 0, .int .i64 0, .int .i64 0, .int .i64 0] 35))) := ⟨below_alloc HB.out _⟩
      clear HR HK HB
      generalize (w1.alloc (.cells #[.int .i64 0, .int .i64 0, .int .i64 0, .int .i64 0] 35)) = w1x at *
      have HR := HRn
      have HK := HKn
      have HB := HBn
      clear HRn HKn HBn
      obtain ⟨x0, hx0⟩ : ∃ x, w1.heap.size = x := ⟨_, rfl⟩
      rw [hx0] at HT ⊢
      clear hx0
      refine (report_w g q seen f i _ (by repeat (with_reducible first | exact HK.out | apply Wk.alloc | apply Wk.drew))).mono ?_
      rw [HRP.out]
      rintro e w2 ⟨rfl, hb1⟩
      have HRn : Aside0 (IsBlk w2 w.heap.size (rv n m seen (hf f)) 47) := ⟨IsBlk.below (by repeat (with_reducible first | exact HR.out | apply IsBlk.alloc | apply IsBlk.drew)) hb1⟩
      have HTn : Aside0 (IsBlk w2 x0 #[.int .i64 0, .int .i64 0, .int .i64 0, .int .i64 0] 35) := ⟨IsBlk.below (by repeat (with_reducible first | exact HT.out | apply IsBlk.alloc | apply IsBlk.drew)) hb1⟩
      have HKn : Aside0 (Wk w2 g q seen f) := ⟨Wk.below (by repeat (with_reducible first | exact HK.out | apply Wk.alloc | apply Wk.drew)) hb1⟩
      have HBn : Aside0 (Below w.heap.size w w2) := ⟨below_step (by repeat (first | (with_reducible first | exact HB.out | apply below_alloc | apply pw_below_drewN | apply below_drew1) | refine below_set ?_ (by omega))) hb1⟩
      clear HR HT HK HB
      have HR := HRn
      have HT := HTn
      have HK := HKn
      have HB := HBn
      clear HRn HTn HKn HBn
      clear hb1
      go_wp2_with (first | ((with_reducible refine wpList_loadW w.heap.size (rv n m seen (hf f)) ?_ ?_ (rv_size _ _ _ _) ?_); rfl; exact (by repeat (with_reducible first | exact HR.out | apply IsBlk.alloc | apply IsBlk.drew))))
      have HU : Aside0 (IsBlk (w2.alloc (.cells #[.int .i64 0, .int .i64 0, .int .i64 0, .int .i64 0, .int .i64 0, .int .i64 0] 26)) w2.heap.size #[.int .i64 0, .int .i64 0, .int .i64 0, .int .i64 0, .int .i64 0, .int .i64 0] 26) := ⟨IsBlk.new _ _ rfl⟩
      have HRn : Aside0 (IsBlk (w2.alloc (.cells #[.int .i64 0, .int .i64 0, .int .i64 0, .int .i64 0, .int .i64 0, .int .i64 0] 26)) w.heap.size (rv n m seen (hf f)) 47) := ⟨HR.out.alloc _⟩
      have HTn : Aside0 (IsBlk (w2.alloc (.cells #[.int .i64 0, .int .i64 0, .int .i64 0, .int .i64 0, .int .i64 0, .int .i64 0] 26)) x0 #[.int .i64 0, .int .i64 0, .int .i64 0, .int .i64 0] 35) := ⟨HT.out.alloc _⟩
      have HKn : Aside0 (Wk (w2.alloc (.cells #[.int .i64 0, .int .i64 0, .int .i64 0, .int .i64 0, .int .i64 0, .int .i64 0] 26)) g q seen f) := ⟨HK.out.alloc _⟩
      have HBn : Aside0 (Below w.heap.size w (w2.alloc (.cells #[.int .i64 0, .int .i64 0, .int .i64 0, .int .i64 0, .int .i64 0, .int .i64 0] 26))) := ⟨below_alloc HB.out _⟩
      clear HR HT HK HB
      generalize (w2.alloc (.cells #[.int .i64 0, .int .i64 0, .int .i64 0, .int .i64 0, .int .i64 0, .int .i64 0] 26)) = w2x at *
      have HR := HRn
      have HT := HTn
      have HK := HKn
      have HB := HBn
      clear HRn HTn HKn HBn
      obtain ⟨x1, hx1⟩ : ∃ x, w2.heap.size = x := ⟨_, rfl⟩
      rw [hx1] at HU ⊢
      clear hx1
      refine (rep16_q n m seen f HD.out HM.out i _).mono ?_
      rw [HRP.out]
      rintro e w3 ⟨rfl, hb1⟩
      have HRn : Aside0 (IsBlk w3 w.heap.size (rv n m seen (hf f)) 47) := ⟨IsBlk.below (by repeat (with_reducible first | exact HR.out | apply IsBlk.alloc | apply IsBlk.drew)) hb1⟩
      have HTn : Aside0 (IsBlk w3 x0 #[.int .i64 0, .int .i64 0, .int .i64 0, .int .i64 0] 35) := ⟨IsBlk.below (by repeat (with_reducible first | exact HT.out | apply IsBlk.alloc | apply IsBlk.drew)) hb1⟩
      have HUn : Aside0 (IsBlk w3 x1 #[.int .i64 0, .int .i64 0, .int .i64 0, .int .i64 0, .int .i64 0, .int .i64 0] 26) := ⟨IsBlk.below (by repeat (with_reducible first | exact HU.out | apply IsBlk.alloc | apply IsBlk.drew)) hb1⟩
      have HKn : Aside0 (Wk w3 g q seen f) := ⟨Wk.below (by repeat (with_reducible first | exact HK.out | apply Wk.alloc | apply Wk.drew)) hb1⟩
      have HBn : Aside0 (Below w.heap.size w w3) := ⟨below_step (by repeat (first | (with_reducible first | exact HB.out | apply below_alloc | apply pw_below_drewN | apply below_drew1) | refine below_set ?_ (by omega))) hb1⟩
      clear HR HT HU HK HB
      have HR := HRn
      have HT := HTn
      have HU := HUn
      have HK := HKn
      have HB := HBn
      clear HRn HTn HUn HKn HBn
      clear hb1
      go_upto_region 7 with fail
      have HV : Aside0 (IsBlk (w3.alloc (.cells #[.int .i64 0, .int .i64 0, .int .i64 0, .int .i64 0, .int .i64 0, .int .i64 0] 26)) w3.heap.size #[.int .i64 0, .int .i64 0, .int .i64 0, .int .i64 0, .int .i64 0, .int .i64 0] 26) := ⟨IsBlk.new _ _ rfl⟩
      have HRn : Aside0 (IsBlk (w3.alloc (.cells #[.int .i64 0, .int .i64 0, .int .i64 0, .int .i64 0, .int .i64 0, .int .i64 0] 26)) w.heap.size (rv n m seen (hf f)) 47) := ⟨HR.out.alloc _⟩
      have HTn : Aside0 (IsBlk (w3.alloc (.cells #[.int .i64 0, .int .i64 0, .int .i64 0, .int .i64 0, .int .i64 0, .int .i64 0] 26)) x0 #[.int .i64 0, .int .i64 0, .int .i64 0, .int .i64 0] 35) := ⟨HT.out.alloc _⟩
      have HUn : Aside0 (IsBlk (w3.alloc (.cells #[.int .i64 0, .int .i64 0, .int .i64 0, .int .i64 0, .int .i64 0, .int .i64 0] 26)) x1 #[.int .i64 0, .int .i64 0, .int .i64 0, .int .i64 0, .int .i64 0, .int .i64 0] 26) := ⟨HU.out.alloc _⟩
      have HKn : Aside0 (Wk (w3.alloc (.cells #[.int .i64 0, .int .i64 0, .int .i64 0, .int .i64 0, .int .i64 0, .int .i64 0] 26)) g q seen f) := ⟨HK.out.alloc _⟩
      have HBn : Aside0 (Below w.heap.size w (w3.alloc (.cells #[.int .i64 0, .int .i64 0, .int .i64 0, .int .i64 0, .int .i64 0, .int .i64 0] 26))) := ⟨below_alloc HB.out _⟩
      clear HR HT HU HK HB
      generalize (w3.alloc (.cells #[.int .i64 0, .int .i64 0, .int .i64 0, .int .i64 0, .int .i64 0, .int .i64 0] 26)) = w3x at *
      have HR := HRn
      have HT := HTn
      have HU := HUn
      have HK := HKn
      have HB := HBn
      clear HRn HTn HUn HKn HBn
      obtain ⟨x2, hx2⟩ : ∃ x, w3.heap.size = x := ⟨_, rfl⟩
      rw [hx2] at HV ⊢
      clear hx2
      refine start_ (n := 26) (S := fun w' => IsBlk w' w.heap.size (rv n m seen (hf f)) 47 ∧ w'.cell? ⟨x0, 0, none⟩ = some (.int .i64 0) ∧ w'.cell? ⟨x0, 1, none⟩ = some (.int .i64 0) ∧ w'.cell? ⟨x0, 2, none⟩ = some (.int .i64 0) ∧ w'.cell? ⟨x0, 3, none⟩ = some (.int .i64 0) ∧ w'.cell? ⟨x1, 0, none⟩ = some (.int .i64 0) ∧ w'.cell? ⟨x1, 1, none⟩ = some (.int .i64 0) ∧ w'.cell? ⟨x1, 2, none⟩ = some (.int .i64 0) ∧ w'.cell? ⟨x1, 3, none⟩ = some (.int .i64 0) ∧ w'.cell? ⟨x1, 4, none⟩ = some (.int .i64 0) ∧ w'.cell? ⟨x1, 5, none⟩ = some (.int .i64 0) ∧ w'.cell? ⟨x2, 0, none⟩ = some (.int .i64 0) ∧ w'.cell? ⟨x2, 1, none⟩ = some (.int .i64 0) ∧ w'.cell? ⟨x2, 2, none⟩ = some (.int .i64 0) ∧ w'.cell? ⟨x2, 3, none⟩ = some (.int .i64 0) ∧ w'.cell? ⟨x2, 4, none⟩ = some (.int .i64 0) ∧ w'.cell? ⟨x2, 5, none⟩ = some (.int .i64 0)) (ds := []) #[false, false, false, false, false, false, false, false, false, false, false, false, false, false, false, false, false, false, false, false, false, false, false, false, false, false] (by kernel_rfl) rfl rfl ⟨HR.out.drew, blk_cell HT.out 0, blk_cell HT.out 1, blk_cell HT.out 2, blk_cell HT.out 3, blk_cell HU.out 0, blk_cell HU.out 1, blk_cell HU.out 2, blk_cell HU.out 3, blk_cell HU.out 4, blk_cell HU.out 5, blk_cell HV.out 0, blk_cell HV.out 1, blk_cell HV.out 2, blk_cell HV.out 3, blk_cell HV.out 4, blk_cell HV.out 5⟩ (fun hHeld => ?_)
      refine pure_ (i := 0) (N := some 35) (v := ?_) (a' := ?_) #[true, false, false, false, false, false, false, false, false, false, false, false, false, false, false, false, false, false, false, false, false, false, false, false, false, false] rfl rfl (by kernel_rfl) (fun _ _ _ h => h) (Or.inl ⟨by rfl, ?_⟩) ?_ ?_
      rotate_left
      · intro w'
        go_simp
        with_reducible rfl
      rotate_left
      · simp only [Act.put, List.setIfInBounds_toArray, List.set_cons_zero, List.set_cons_succ, i64_w, i32_w]
        rfl
      refine pure_ (i := 2) (N := some 37) (v := ?_) (a' := ?_) #[true, false, true, false, false, false, false, false, false, false, false, false, false, false, false, false, false, false, false, false, false, false, false, false, false, false] rfl rfl (by kernel_rfl) (fun _ _ _ h => h) (Or.inl ⟨by rfl, ?_⟩) ?_ ?_
      rotate_left
      · intro w'
        go_simp
        with_reducible rfl
      rotate_left
      · simp only [Act.put, List.setIfInBounds_toArray, List.set_cons_zero, List.set_cons_succ, i64_w, i32_w]
        rfl
      refine take_ (i := 1) (N := some 36) (v := ?_) (a' := ?_) #[true, true, true, false, false, false, false, false, false, false, false, false, false, false, false, false, false, false, false, false, false, false, false, false, false, false] rfl rfl (by kernel_rfl) (fun _ _ _ h => h) (Or.inl ⟨by rfl, ?_⟩) hHeld ?_ ?_
      rotate_left
      · rintro w' ⟨s0, s1, s2, s3, s4, s5, s6, s7, s8, s9, s10, s11, s12, s13, s14, s15, s16⟩
        (refine execW (x := Operand.tmp 3) w.heap.size (rv n m seen (hf f)) ?_ ?_ ?_ ?_; rfl; rfl; assumption; exact rv_size _ _ _ _)
      rotate_left
      · simp only [Act.put, List.setIfInBounds_toArray, List.set_cons_zero, List.set_cons_succ, i64_w, i32_w]
        rfl
      refine one_ (i := 3) (N := some 38) #[true, true, true, true, false, false, false, false, false, false, false, false, false, false, false, false, false, false, false, false, false, false, false, false, false, false] rfl rfl (by kernel_rfl) (by simp) (fun K hK => ?_)
      refine goes_ Try.func38 (by kernel_rfl) rfl #[.agg (rv n m seen (hf f)), .int .i64 i] (by rfl) rfl rfl (by simp only [List.map_toArray, List.map_cons, List.map_nil]; rfl) ?_
      with_reducible refine (own16_q n m seen f HD.out HM.out i _).mono ?_
      rw [HF.out]
      rintro e w4 ⟨rfl, hb1⟩
      have HKn : Aside0 (Wk w4 g q seen f) := ⟨Wk.below (by repeat (with_reducible first | exact HK.out | apply Wk.alloc | apply Wk.drew)) hb1⟩
      have HRn : Aside0 (IsBlk w4 w.heap.size (rv n m seen (hf f)) 47) := ⟨IsBlk.below (by repeat (with_reducible first | exact HR.out | apply IsBlk.alloc | apply IsBlk.drew)) hb1⟩
      have HBn : Aside0 (Below w.heap.size w w4) := ⟨below_step (by repeat (first | (with_reducible first | exact HB.out | apply below_alloc | apply pw_below_drewN | apply below_drew1) | refine below_set ?_ (by omega))) hb1⟩
      clear HK HR HB
      have HK := HKn
      have HR := HRn
      have HB := HBn
      clear HKn HRn HBn
      refine ⟨_, rfl, ?_⟩
      refine hK.out _ _ ⟨IsBlk.below hHeld.1 hb1, cell_keep hb1 hHeld.2.1, cell_keep hb1 hHeld.2.2.1, cell_keep hb1 hHeld.2.2.2.1, cell_keep hb1 hHeld.2.2.2.2.1, cell_keep hb1 hHeld.2.2.2.2.2.1, cell_keep hb1 hHeld.2.2.2.2.2.2.1, cell_keep hb1 hHeld.2.2.2.2.2.2.2.1, cell_keep hb1 hHeld.2.2.2.2.2.2.2.2.1, cell_keep hb1 hHeld.2.2.2.2.2.2.2.2.2.1, cell_keep hb1 hHeld.2.2.2.2.2.2.2.2.2.2.1, cell_keep hb1 hHeld.2.2.2.2.2.2.2.2.2.2.2.1, cell_keep hb1 hHeld.2.2.2.2.2.2.2.2.2.2.2.2.1, cell_keep hb1 hHeld.2.2.2.2.2.2.2.2.2.2.2.2.2.1, cell_keep hb1 hHeld.2.2.2.2.2.2.2.2.2.2.2.2.2.2.1, cell_keep hb1 hHeld.2.2.2.2.2.2.2.2.2.2.2.2.2.2.2.1, cell_keep hb1 hHeld.2.2.2.2.2.2.2.2.2.2.2.2.2.2.2.2⟩ (fun hHeld => ?_)
      clear hK K
      refine norm_ (a' := ?_) ?_ ?_
      rotate_left
      · show Act.put _ (some 38) _ = _
        simp only [Act.put, List.setIfInBounds_toArray, List.set_cons_zero, List.set_cons_succ, i64_w, i32_w]
        rfl
      refine pure_ (i := 4) (N := some 39) (v := ?_) (a' := ?_) #[true, true, true, true, true, false, false, false, false, false, false, false, false, false, false, false, false, false, false, false, false, false, false, false, false, false] rfl rfl (by kernel_rfl) (fun _ _ _ h => h) (Or.inl ⟨by rfl, ?_⟩) ?_ ?_
      rotate_left
      · intro w'
        go_simp
        with_reducible rfl
      rotate_left
      · simp only [Act.put, List.setIfInBounds_toArray, List.set_cons_zero, List.set_cons_succ, i64_w, i32_w]
        rfl
      refine pure_ (i := 5) (N := some 40) (v := ?_) (a' := ?_) #[true, true, true, true, true, true, false, false, false, false, false, false, false, false, false, false, false, false, false, false, false, false, false, false, false, false] rfl rfl (by kernel_rfl) (fun _ _ _ h => h) (Or.inl ⟨by rfl, ?_⟩) ?_ ?_
      rotate_left
      · intro w'
        go_simp
        with_reducible rfl
      rotate_left
      · simp only [Act.put, List.setIfInBounds_toArray, List.set_cons_zero, List.set_cons_succ, i64_w, i32_w]
        rfl
      refine take_ (i := 6) (N := some 41) (v := ?_) (a' := ?_) #[true, true, true, true, true, true, true, false, false, false, false, false, false, false, false, false, false, false, false, false, false, false, false, false, false, false] rfl rfl (by kernel_rfl) (fun _ _ _ h => h) (Or.inl ⟨by rfl, ?_⟩) hHeld ?_ ?_
      rotate_left
      · rintro w' ⟨s0, s1, s2, s3, s4, s5, s6, s7, s8, s9, s10, s11, s12, s13, s14, s15, s16⟩
        go_simp
        with_reducible rfl
      rotate_left
      · simp only [Act.put, List.setIfInBounds_toArray, List.set_cons_zero, List.set_cons_succ, i64_w, i32_w]
        rfl
      refine take_ (i := 7) (N := some 42) (v := ?_) (a' := ?_) #[true, true, true, true, true, true, true, true, false, false, false, false, false, false, false, false, false, false, false, false, false, false, false, false, false, false] rfl rfl (by kernel_rfl) (fun _ _ _ h => h) (Or.inl ⟨by rfl, ?_⟩) hHeld ?_ ?_
      rotate_left
      · rintro w' ⟨s0, s1, s2, s3, s4, s5, s6, s7, s8, s9, s10, s11, s12, s13, s14, s15, s16⟩
        go_simp
        with_reducible rfl
      rotate_left
      · simp only [Act.put, List.setIfInBounds_toArray, List.set_cons_zero, List.set_cons_succ, i64_w, i32_w]
        rfl
      refine pure_ (i := 8) (N := some 43) (v := ?_) (a' := ?_) #[true, true, true, true, true, true, true, true, true, false, false, false, false, false, false, false, false, false, false, false, false, false, false, false, false, false] rfl rfl (by kernel_rfl) (fun _ _ _ h => h) (Or.inl ⟨by rfl, ?_⟩) ?_ ?_
      rotate_left
      · intro w'
        go_simp
        with_reducible rfl
      rotate_left
      · simp only [Act.put, List.setIfInBounds_toArray, List.set_cons_zero, List.set_cons_succ, i64_w, i32_w]
        rfl
      refine pure_ (i := 9) (N := some 44) (v := ?_) (a' := ?_) #[true, true, true, true, true, true, true, true, true, true, false, false, false, false, false, false, false, false, false, false, false, false, false, false, false, false] rfl rfl (by kernel_rfl) (fun _ _ _ h => h) (Or.inl ⟨by rfl, ?_⟩) ?_ ?_
      rotate_left
      · intro w'
        go_simp
        with_reducible rfl
      rotate_left
      · simp only [Act.put, List.setIfInBounds_toArray, List.set_cons_zero, List.set_cons_succ, i64_w, i32_w]
        rfl
      refine pure_ (i := 10) (N := some 45) (v := ?_) (a' := ?_) #[true, true, true, true, true, true, true, true, true, true, true, false, false, false, false, false, false, false, false, false, false, false, false, false, false, false] rfl rfl (by kernel_rfl) (fun _ _ _ h => h) (Or.inl ⟨by rfl, ?_⟩) ?_ ?_
      rotate_left
      · intro w'
        go_simp
        with_reducible rfl
      rotate_left
      · simp only [Act.put, List.setIfInBounds_toArray, List.set_cons_zero, List.set_cons_succ, i64_w, i32_w]
        rfl
      refine pure_ (i := 11) (N := some 46) (v := ?_) (a' := ?_) #[true, true, true, true, true, true, true, true, true, true, true, true, false, false, false, false, false, false, false, false, false, false, false, false, false, false] rfl rfl (by kernel_rfl) (fun _ _ _ h => h) (Or.inl ⟨by rfl, ?_⟩) ?_ ?_
      rotate_left
      · intro w'
        go_simp
        with_reducible rfl
      rotate_left
      · simp only [Act.put, List.setIfInBounds_toArray, List.set_cons_zero, List.set_cons_succ, i64_w, i32_w]
        rfl
      refine pure_ (i := 12) (N := some 47) (v := ?_) (a' := ?_) #[true, true, true, true, true, true, true, true, true, true, true, true, true, false, false, false, false, false, false, false, false, false, false, false, false, false] rfl rfl (by kernel_rfl) (fun _ _ _ h => h) (Or.inl ⟨by rfl, ?_⟩) ?_ ?_
      rotate_left
      · intro w'
        go_simp
        with_reducible rfl
      rotate_left
      · simp only [Act.put, List.setIfInBounds_toArray, List.set_cons_zero, List.set_cons_succ, i64_w, i32_w]
        rfl
      refine pure_ (i := 13) (N := some 48) (v := ?_) (a' := ?_) #[true, true, true, true, true, true, true, true, true, true, true, true, true, true, false, false, false, false, false, false, false, false, false, false, false, false] rfl rfl (by kernel_rfl) (fun _ _ _ h => h) (Or.inl ⟨by rfl, ?_⟩) ?_ ?_
      rotate_left
      · intro w'
        go_simp
        with_reducible rfl
      rotate_left
      · simp only [Act.put, List.setIfInBounds_toArray, List.set_cons_zero, List.set_cons_succ, i64_w, i32_w]
        rfl
      refine pure_ (i := 14) (N := some 49) (v := ?_) (a' := ?_) #[true, true, true, true, true, true, true, true, true, true, true, true, true, true, true, false, false, false, false, false, false, false, false, false, false, false] rfl rfl (by kernel_rfl) (fun _ _ _ h => h) (Or.inl ⟨by rfl, ?_⟩) ?_ ?_
      rotate_left
      · intro w'
        go_simp
        with_reducible rfl
      rotate_left
      · simp only [Act.put, List.setIfInBounds_toArray, List.set_cons_zero, List.set_cons_succ, i64_w, i32_w]
        rfl
      refine pure_ (i := 15) (N := some 50) (v := ?_) (a' := ?_) #[true, true, true, true, true, true, true, true, true, true, true, true, true, true, true, true, false, false, false, false, false, false, false, false, false, false] rfl rfl (by kernel_rfl) (fun _ _ _ h => h) (Or.inl ⟨by rfl, ?_⟩) ?_ ?_
      rotate_left
      · intro w'
        go_simp
        with_reducible rfl
      rotate_left
      · simp only [Act.put, List.setIfInBounds_toArray, List.set_cons_zero, List.set_cons_succ, i64_w, i32_w]
        rfl
      refine pure_ (i := 16) (N := some 51) (v := ?_) (a' := ?_) #[true, true, true, true, true, true, true, true, true, true, true, true, true, true, true, true, true, false, false, false, false, false, false, false, false, false] rfl rfl (by kernel_rfl) (fun _ _ _ h => h) (Or.inl ⟨by rfl, ?_⟩) ?_ ?_
      rotate_left
      · intro w'
        go_simp
        with_reducible rfl
      rotate_left
      · simp only [Act.put, List.setIfInBounds_toArray, List.set_cons_zero, List.set_cons_succ, i64_w, i32_w]
        rfl
      refine pure_ (i := 17) (N := some 52) (v := ?_) (a' := ?_) #[true, true, true, true, true, true, true, true, true, true, true, true, true, true, true, true, true, true, false, false, false, false, false, false, false, false] rfl rfl (by kernel_rfl) (fun _ _ _ h => h) (Or.inl ⟨by rfl, ?_⟩) ?_ ?_
      rotate_left
      · intro w'
        go_simp
        with_reducible rfl
      rotate_left
      · simp only [Act.put, List.setIfInBounds_toArray, List.set_cons_zero, List.set_cons_succ, i64_w, i32_w]
        rfl
      refine pure_ (i := 18) (N := some 53) (v := undef) (a' := ?_) #[true, true, true, true, true, true, true, true, true, true, true, true, true, true, true, true, true, true, true, false, false, false, false, false, false, false] rfl rfl (by kernel_rfl) (fun _ _ _ h => h) (Or.inr ⟨by rfl, rfl⟩) ?_ ?_
      rotate_left
      · simp only [Act.put, List.setIfInBounds_toArray, List.set_cons_zero, List.set_cons_succ, i64_w, i32_w]
        rfl
      refine pure_ (i := 19) (N := some 54) (v := undef) (a' := ?_) #[true, true, true, true, true, true, true, true, true, true, true, true, true, true, true, true, true, true, true, true, false, false, false, false, false, false] rfl rfl (by kernel_rfl) (fun _ _ _ h => h) (Or.inr ⟨by rfl, rfl⟩) ?_ ?_
      rotate_left
      · simp only [Act.put, List.setIfInBounds_toArray, List.set_cons_zero, List.set_cons_succ, i64_w, i32_w]
        rfl
      refine pure_ (i := 20) (N := some 55) (v := undef) (a' := ?_) #[true, true, true, true, true, true, true, true, true, true, true, true, true, true, true, true, true, true, true, true, true, false, false, false, false, false] rfl rfl (by kernel_rfl) (fun _ _ _ h => h) (Or.inr ⟨by rfl, rfl⟩) ?_ ?_
      rotate_left
      · simp only [Act.put, List.setIfInBounds_toArray, List.set_cons_zero, List.set_cons_succ, i64_w, i32_w]
        rfl
      refine pure_ (i := 21) (N := some 56) (v := undef) (a' := ?_) #[true, true, true, true, true, true, true, true, true, true, true, true, true, true, true, true, true, true, true, true, true, true, false, false, false, false] rfl rfl (by kernel_rfl) (fun _ _ _ h => h) (Or.inr ⟨by rfl, rfl⟩) ?_ ?_
      rotate_left
      · simp only [Act.put, List.setIfInBounds_toArray, List.set_cons_zero, List.set_cons_succ, i64_w, i32_w]
        rfl
      refine pure_ (i := 22) (N := some 57) (v := undef) (a' := ?_) #[true, true, true, true, true, true, true, true, true, true, true, true, true, true, true, true, true, true, true, true, true, true, true, false, false, false] rfl rfl (by kernel_rfl) (fun _ _ _ h => h) (Or.inr ⟨by rfl, rfl⟩) ?_ ?_
      rotate_left
      · simp only [Act.put, List.setIfInBounds_toArray, List.set_cons_zero, List.set_cons_succ, i64_w, i32_w]
        rfl
      refine pure_ (i := 23) (N := some 58) (v := undef) (a' := ?_) #[true, true, true, true, true, true, true, true, true, true, true, true, true, true, true, true, true, true, true, true, true, true, true, true, false, false] rfl rfl (by kernel_rfl) (fun _ _ _ h => h) (Or.inr ⟨by rfl, rfl⟩) ?_ ?_
      rotate_left
      · simp only [Act.put, List.setIfInBounds_toArray, List.set_cons_zero, List.set_cons_succ, i64_w, i32_w]
        rfl
      refine pure_ (i := 24) (N := some 59) (v := ?_) (a' := ?_) #[true, true, true, true, true, true, true, true, true, true, true, true, true, true, true, true, true, true, true, true, true, true, true, true, true, false] rfl rfl (by kernel_rfl) (fun _ _ _ h => h) (Or.inl ⟨by rfl, ?_⟩) ?_ ?_
      rotate_left
      · intro w'
        go_simp
        with_reducible rfl
      rotate_left
      · simp only [Act.put, List.setIfInBounds_toArray, List.set_cons_zero, List.set_cons_succ, i64_w, i32_w]
        rfl
      refine pure_ (i := 25) (N := some 60) (v := ?_) (a' := ?_) #[true, true, true, true, true, true, true, true, true, true, true, true, true, true, true, true, true, true, true, true, true, true, true, true, true, true] rfl rfl (by kernel_rfl) (fun _ _ _ h => h) (Or.inl ⟨by rfl, ?_⟩) ?_ ?_
      rotate_left
      · intro w'
        go_simp
        with_reducible rfl
      rotate_left
      · simp only [Act.put, List.setIfInBounds_toArray, List.set_cons_zero, List.set_cons_succ, i64_w, i32_w]
        rfl
      refine done_ (by kernel_rfl) ?_

      clear HT HU HV
      have hw1 : wrap64 (i + 1) = i + 1 := wrap64_eq (by have := HI.out; omega) (by have := HI17.out; omega)
      go_wp2
      go_roundw
      case rel => exact ⟨i + 1, by first | rfl | rw [hw1], ⟨by have := HI.out; have := HI17.out; omega⟩, HR, HK, HB⟩
      case measure => have := HI.out; have := HI17.out; simp [intOf, hw1]; omega
      | some s =>
      obtain ⟨a, b, c, d⟩ := s
      have HF := Aside0.mk hf0
      have HIU := Aside0.mk (HD.out.some hf0).1
      have HU16 : Aside0 (i.toNat < 16) := ⟨by have := HIU.out; omega⟩
      have HRP : Aside0 (rep seen f i = (.agg #[.int .i64 2, .int .i64 seen, .int .i64 d, .int .i64 i, .int .i64 b, .int .i64 a], true)) := ⟨by unfold rep; rw [hf0]⟩
      clear hf0
      go_wp2_with fail
      refine (slot_l g q seen f i a b c d true _ (by repeat (with_reducible first | exact HK.out | apply Wk.alloc | apply Wk.drew)) (some_slot f i _ HF.out) (by rw [HF.out]; rfl)).mono ?_
      rintro e w1 ⟨rfl, hb1⟩
      have HRn : Aside0 (IsBlk w1 w.heap.size (rv n m seen (hf f)) 47) := ⟨IsBlk.below (by repeat (with_reducible first | exact HR.out | apply IsBlk.alloc | apply IsBlk.drew)) hb1⟩
      have HKn : Aside0 (Wk w1 g q seen f) := ⟨Wk.below (by repeat (with_reducible first | exact HK.out | apply Wk.alloc | apply Wk.drew)) hb1⟩
      have HBn : Aside0 (Below w.heap.size w w1) := ⟨below_step (by repeat (first | (with_reducible first | exact HB.out | apply below_alloc | apply pw_below_drewN | apply below_drew1) | refine below_set ?_ (by omega))) hb1⟩
      clear HR HK HB
      have HR := HRn
      have HK := HKn
      have HB := HBn
      clear HRn HKn HBn
      clear hb1
      go_wp2_with fail
      have HT : Aside0 (IsBlk (w1.alloc (.cells #[.int .i64 a, .int .i64 b, .int .i64 c, .int .i64 d] 35)) w1.heap.size #[.int .i64 a, .int .i64 b, .int .i64 c, .int .i64 d] 35) := ⟨IsBlk.new _ _ rfl⟩
      have HRn : Aside0 (IsBlk (w1.alloc (.cells #[.int .i64 a, .int .i64 b, .int .i64 c, .int .i64 d] 35)) w.heap.size (rv n m seen (hf f)) 47) := ⟨HR.out.alloc _⟩
      have HKn : Aside0 (Wk (w1.alloc (.cells #[.int .i64 a, .int .i64 b, .int .i64 c, .int .i64 d] 35)) g q seen f) := ⟨HK.out.alloc _⟩
      have HBn : Aside0 (Below w.heap.size w (w1.alloc (.cells #[.int .i64 a, .int .i64 b, .int .i64 c, .int .i64 d] 35))) := ⟨below_alloc HB.out _⟩
      clear HR HK HB
      generalize (w1.alloc (.cells #[.int .i64 a, .int .i64 b, .int .i64 c, .int .i64 d] 35)) = w1x at *
      have HR := HRn
      have HK := HKn
      have HB := HBn
      clear HRn HKn HBn
      obtain ⟨x0, hx0⟩ : ∃ x, w1.heap.size = x := ⟨_, rfl⟩
      rw [hx0] at HT ⊢
      clear hx0
      refine (report_w g q seen f i _ (by repeat (with_reducible first | exact HK.out | apply Wk.alloc | apply Wk.drew))).mono ?_
      rw [HRP.out]
      rintro e w2 ⟨rfl, hb1⟩
      have HRn : Aside0 (IsBlk w2 w.heap.size (rv n m seen (hf f)) 47) := ⟨IsBlk.below (by repeat (with_reducible first | exact HR.out | apply IsBlk.alloc | apply IsBlk.drew)) hb1⟩
      have HTn : Aside0 (IsBlk w2 x0 #[.int .i64 a, .int .i64 b, .int .i64 c, .int .i64 d] 35) := ⟨IsBlk.below (by repeat (with_reducible first | exact HT.out | apply IsBlk.alloc | apply IsBlk.drew)) hb1⟩
      have HKn : Aside0 (Wk w2 g q seen f) := ⟨Wk.below (by repeat (with_reducible first | exact HK.out | apply Wk.alloc | apply Wk.drew)) hb1⟩
      have HBn : Aside0 (Below w.heap.size w w2) := ⟨below_step (by repeat (first | (with_reducible first | exact HB.out | apply below_alloc | apply pw_below_drewN | apply below_drew1) | refine below_set ?_ (by omega))) hb1⟩
      clear HR HT HK HB
      have HR := HRn
      have HT := HTn
      have HK := HKn
      have HB := HBn
      clear HRn HTn HKn HBn
      clear hb1
      go_wp2_with (first | ((with_reducible refine wpList_loadW w.heap.size (rv n m seen (hf f)) ?_ ?_ (rv_size _ _ _ _) ?_); rfl; exact (by repeat (with_reducible first | exact HR.out | apply IsBlk.alloc | apply IsBlk.drew))))
      have HU : Aside0 (IsBlk (w2.alloc (.cells #[.int .i64 2, .int .i64 seen, .int .i64 d, .int .i64 i, .int .i64 b, .int .i64 a] 26)) w2.heap.size #[.int .i64 2, .int .i64 seen, .int .i64 d, .int .i64 i, .int .i64 b, .int .i64 a] 26) := ⟨IsBlk.new _ _ rfl⟩
      have HRn : Aside0 (IsBlk (w2.alloc (.cells #[.int .i64 2, .int .i64 seen, .int .i64 d, .int .i64 i, .int .i64 b, .int .i64 a] 26)) w.heap.size (rv n m seen (hf f)) 47) := ⟨HR.out.alloc _⟩
      have HTn : Aside0 (IsBlk (w2.alloc (.cells #[.int .i64 2, .int .i64 seen, .int .i64 d, .int .i64 i, .int .i64 b, .int .i64 a] 26)) x0 #[.int .i64 a, .int .i64 b, .int .i64 c, .int .i64 d] 35) := ⟨HT.out.alloc _⟩
      have HKn : Aside0 (Wk (w2.alloc (.cells #[.int .i64 2, .int .i64 seen, .int .i64 d, .int .i64 i, .int .i64 b, .int .i64 a] 26)) g q seen f) := ⟨HK.out.alloc _⟩
      have HBn : Aside0 (Below w.heap.size w (w2.alloc (.cells #[.int .i64 2, .int .i64 seen, .int .i64 d, .int .i64 i, .int .i64 b, .int .i64 a] 26))) := ⟨below_alloc HB.out _⟩
      clear HR HT HK HB
      generalize (w2.alloc (.cells #[.int .i64 2, .int .i64 seen, .int .i64 d, .int .i64 i, .int .i64 b, .int .i64 a] 26)) = w2x at *
      have HR := HRn
      have HT := HTn
      have HK := HKn
      have HB := HBn
      clear HRn HTn HKn HBn
      obtain ⟨x1, hx1⟩ : ∃ x, w2.heap.size = x := ⟨_, rfl⟩
      rw [hx1] at HU ⊢
      clear hx1
      refine (rep16_q n m seen f HD.out HM.out i _).mono ?_
      rw [HRP.out]
      rintro e w3 ⟨rfl, hb1⟩
      have HRn : Aside0 (IsBlk w3 w.heap.size (rv n m seen (hf f)) 47) := ⟨IsBlk.below (by repeat (with_reducible first | exact HR.out | apply IsBlk.alloc | apply IsBlk.drew)) hb1⟩
      have HTn : Aside0 (IsBlk w3 x0 #[.int .i64 a, .int .i64 b, .int .i64 c, .int .i64 d] 35) := ⟨IsBlk.below (by repeat (with_reducible first | exact HT.out | apply IsBlk.alloc | apply IsBlk.drew)) hb1⟩
      have HUn : Aside0 (IsBlk w3 x1 #[.int .i64 2, .int .i64 seen, .int .i64 d, .int .i64 i, .int .i64 b, .int .i64 a] 26) := ⟨IsBlk.below (by repeat (with_reducible first | exact HU.out | apply IsBlk.alloc | apply IsBlk.drew)) hb1⟩
      have HKn : Aside0 (Wk w3 g q seen f) := ⟨Wk.below (by repeat (with_reducible first | exact HK.out | apply Wk.alloc | apply Wk.drew)) hb1⟩
      have HBn : Aside0 (Below w.heap.size w w3) := ⟨below_step (by repeat (first | (with_reducible first | exact HB.out | apply below_alloc | apply pw_below_drewN | apply below_drew1) | refine below_set ?_ (by omega))) hb1⟩
      clear HR HT HU HK HB
      have HR := HRn
      have HT := HTn
      have HU := HUn
      have HK := HKn
      have HB := HBn
      clear HRn HTn HUn HKn HBn
      clear hb1
      go_upto_region 7 with fail
      have HV : Aside0 (IsBlk (w3.alloc (.cells #[.int .i64 2, .int .i64 seen, .int .i64 d, .int .i64 i, .int .i64 b, .int .i64 a] 26)) w3.heap.size #[.int .i64 2, .int .i64 seen, .int .i64 d, .int .i64 i, .int .i64 b, .int .i64 a] 26) := ⟨IsBlk.new _ _ rfl⟩
      have HRn : Aside0 (IsBlk (w3.alloc (.cells #[.int .i64 2, .int .i64 seen, .int .i64 d, .int .i64 i, .int .i64 b, .int .i64 a] 26)) w.heap.size (rv n m seen (hf f)) 47) := ⟨HR.out.alloc _⟩
      have HTn : Aside0 (IsBlk (w3.alloc (.cells #[.int .i64 2, .int .i64 seen, .int .i64 d, .int .i64 i, .int .i64 b, .int .i64 a] 26)) x0 #[.int .i64 a, .int .i64 b, .int .i64 c, .int .i64 d] 35) := ⟨HT.out.alloc _⟩
      have HUn : Aside0 (IsBlk (w3.alloc (.cells #[.int .i64 2, .int .i64 seen, .int .i64 d, .int .i64 i, .int .i64 b, .int .i64 a] 26)) x1 #[.int .i64 2, .int .i64 seen, .int .i64 d, .int .i64 i, .int .i64 b, .int .i64 a] 26) := ⟨HU.out.alloc _⟩
      have HKn : Aside0 (Wk (w3.alloc (.cells #[.int .i64 2, .int .i64 seen, .int .i64 d, .int .i64 i, .int .i64 b, .int .i64 a] 26)) g q seen f) := ⟨HK.out.alloc _⟩
      have HBn : Aside0 (Below w.heap.size w (w3.alloc (.cells #[.int .i64 2, .int .i64 seen, .int .i64 d, .int .i64 i, .int .i64 b, .int .i64 a] 26))) := ⟨below_alloc HB.out _⟩
      clear HR HT HU HK HB
      generalize (w3.alloc (.cells #[.int .i64 2, .int .i64 seen, .int .i64 d, .int .i64 i, .int .i64 b, .int .i64 a] 26)) = w3x at *
      have HR := HRn
      have HT := HTn
      have HU := HUn
      have HK := HKn
      have HB := HBn
      clear HRn HTn HUn HKn HBn
      obtain ⟨x2, hx2⟩ : ∃ x, w3.heap.size = x := ⟨_, rfl⟩
      rw [hx2] at HV ⊢
      clear hx2
      have R_a : w3x.cell? ⟨w.heap.size, 3 + i.toNat * 4, none⟩ = some (.int .i64 a) := by have := (blk_cell HR.out (3 + i.toNat * 4 + 0)).trans (rv_u n m seen (hf f) i.toNat 0 HU16.out (by decide)); rw [hf_at HIU.out HF.out, Nat.add_zero] at this; exact this
      have R_b : w3x.cell? ⟨w.heap.size, 3 + i.toNat * 4 + 1, none⟩ = some (.int .i64 b) := by have := (blk_cell HR.out (3 + i.toNat * 4 + 1)).trans (rv_u n m seen (hf f) i.toNat 1 HU16.out (by decide)); rw [hf_at HIU.out HF.out] at this; exact this
      have R_c : w3x.cell? ⟨w.heap.size, 3 + i.toNat * 4 + 2, none⟩ = some (.int .i64 c) := by have := (blk_cell HR.out (3 + i.toNat * 4 + 2)).trans (rv_u n m seen (hf f) i.toNat 2 HU16.out (by decide)); rw [hf_at HIU.out HF.out] at this; exact this
      have R_d : w3x.cell? ⟨w.heap.size, 3 + i.toNat * 4 + 3, none⟩ = some (.int .i64 d) := by have := (blk_cell HR.out (3 + i.toNat * 4 + 3)).trans (rv_u n m seen (hf f) i.toNat 3 HU16.out (by decide)); rw [hf_at HIU.out HF.out] at this; exact this
      have hi0 := HIU.out.1
      have hi1 := HIU.out.2
      refine start_ (n := 26) (S := fun w' => IsBlk w' w.heap.size (rv n m seen (hf f)) 47 ∧ w'.cell? ⟨x0, 0, none⟩ = some (.int .i64 a) ∧ w'.cell? ⟨x0, 1, none⟩ = some (.int .i64 b) ∧ w'.cell? ⟨x0, 2, none⟩ = some (.int .i64 c) ∧ w'.cell? ⟨x0, 3, none⟩ = some (.int .i64 d) ∧ w'.cell? ⟨x1, 0, none⟩ = some (.int .i64 2) ∧ w'.cell? ⟨x1, 1, none⟩ = some (.int .i64 seen) ∧ w'.cell? ⟨x1, 2, none⟩ = some (.int .i64 d) ∧ w'.cell? ⟨x1, 3, none⟩ = some (.int .i64 i) ∧ w'.cell? ⟨x1, 4, none⟩ = some (.int .i64 b) ∧ w'.cell? ⟨x1, 5, none⟩ = some (.int .i64 a) ∧ w'.cell? ⟨x2, 0, none⟩ = some (.int .i64 2) ∧ w'.cell? ⟨x2, 1, none⟩ = some (.int .i64 seen) ∧ w'.cell? ⟨x2, 2, none⟩ = some (.int .i64 d) ∧ w'.cell? ⟨x2, 3, none⟩ = some (.int .i64 i) ∧ w'.cell? ⟨x2, 4, none⟩ = some (.int .i64 b) ∧ w'.cell? ⟨x2, 5, none⟩ = some (.int .i64 a) ∧ w'.cell? ⟨w.heap.size, 3 + i.toNat * 4, none⟩ = some (.int .i64 a) ∧ w'.cell? ⟨w.heap.size, 3 + i.toNat * 4 + 1, none⟩ = some (.int .i64 b) ∧ w'.cell? ⟨w.heap.size, 3 + i.toNat * 4 + 2, none⟩ = some (.int .i64 c) ∧ w'.cell? ⟨w.heap.size, 3 + i.toNat * 4 + 3, none⟩ = some (.int .i64 d)) (ds := []) #[false, false, false, false, false, false, false, false, false, false, false, false, false, false, false, false, false, false, false, false, false, false, false, false, false, false] (by kernel_rfl) rfl rfl ⟨HR.out.drew, blk_cell HT.out 0, blk_cell HT.out 1, blk_cell HT.out 2, blk_cell HT.out 3, blk_cell HU.out 0, blk_cell HU.out 1, blk_cell HU.out 2, blk_cell HU.out 3, blk_cell HU.out 4, blk_cell HU.out 5, blk_cell HV.out 0, blk_cell HV.out 1, blk_cell HV.out 2, blk_cell HV.out 3, blk_cell HV.out 4, blk_cell HV.out 5, R_a, R_b, R_c, R_d⟩ (fun hHeld => ?_)
      refine pure_ (i := 0) (N := some 35) (v := ?_) (a' := ?_) #[true, false, false, false, false, false, false, false, false, false, false, false, false, false, false, false, false, false, false, false, false, false, false, false, false, false] rfl rfl (by kernel_rfl) (fun _ _ _ h => h) (Or.inl ⟨by rfl, ?_⟩) ?_ ?_
      rotate_left
      · intro w'
        go_simp
        with_reducible rfl
      rotate_left
      · simp only [Act.put, List.setIfInBounds_toArray, List.set_cons_zero, List.set_cons_succ, i64_w, i32_w]
        rfl
      refine pure_ (i := 2) (N := some 37) (v := ?_) (a' := ?_) #[true, false, true, false, false, false, false, false, false, false, false, false, false, false, false, false, false, false, false, false, false, false, false, false, false, false] rfl rfl (by kernel_rfl) (fun _ _ _ h => h) (Or.inl ⟨by rfl, ?_⟩) ?_ ?_
      rotate_left
      · intro w'
        go_simp
        with_reducible rfl
      rotate_left
      · simp only [Act.put, List.setIfInBounds_toArray, List.set_cons_zero, List.set_cons_succ, i64_w, i32_w]
        rfl
      refine take_ (i := 1) (N := some 36) (v := ?_) (a' := ?_) #[true, true, true, false, false, false, false, false, false, false, false, false, false, false, false, false, false, false, false, false, false, false, false, false, false, false] rfl rfl (by kernel_rfl) (fun _ _ _ h => h) (Or.inl ⟨by rfl, ?_⟩) hHeld ?_ ?_
      rotate_left
      · rintro w' ⟨s0, s1, s2, s3, s4, s5, s6, s7, s8, s9, s10, s11, s12, s13, s14, s15, s16, s17, s18, s19, s20⟩
        (refine execW (x := Operand.tmp 3) w.heap.size (rv n m seen (hf f)) ?_ ?_ ?_ ?_; rfl; rfl; assumption; exact rv_size _ _ _ _)
      rotate_left
      · simp only [Act.put, List.setIfInBounds_toArray, List.set_cons_zero, List.set_cons_succ, i64_w, i32_w]
        rfl
      refine one_ (i := 3) (N := some 38) #[true, true, true, true, false, false, false, false, false, false, false, false, false, false, false, false, false, false, false, false, false, false, false, false, false, false] rfl rfl (by kernel_rfl) (by simp) (fun K hK => ?_)
      refine goes_ Try.func38 (by kernel_rfl) rfl #[.agg (rv n m seen (hf f)), .int .i64 i] (by rfl) rfl rfl (by simp only [List.map_toArray, List.map_cons, List.map_nil]; rfl) ?_
      with_reducible refine (own16_q n m seen f HD.out HM.out i _).mono ?_
      rw [HF.out]
      rintro e w4 ⟨rfl, hb1⟩
      have HKn : Aside0 (Wk w4 g q seen f) := ⟨Wk.below (by repeat (with_reducible first | exact HK.out | apply Wk.alloc | apply Wk.drew)) hb1⟩
      have HRn : Aside0 (IsBlk w4 w.heap.size (rv n m seen (hf f)) 47) := ⟨IsBlk.below (by repeat (with_reducible first | exact HR.out | apply IsBlk.alloc | apply IsBlk.drew)) hb1⟩
      have HBn : Aside0 (Below w.heap.size w w4) := ⟨below_step (by repeat (first | (with_reducible first | exact HB.out | apply below_alloc | apply pw_below_drewN | apply below_drew1) | refine below_set ?_ (by omega))) hb1⟩
      clear HK HR HB
      have HK := HKn
      have HR := HRn
      have HB := HBn
      clear HKn HRn HBn
      refine ⟨_, rfl, ?_⟩
      refine hK.out _ _ ⟨IsBlk.below hHeld.1 hb1, cell_keep hb1 hHeld.2.1, cell_keep hb1 hHeld.2.2.1, cell_keep hb1 hHeld.2.2.2.1, cell_keep hb1 hHeld.2.2.2.2.1, cell_keep hb1 hHeld.2.2.2.2.2.1, cell_keep hb1 hHeld.2.2.2.2.2.2.1, cell_keep hb1 hHeld.2.2.2.2.2.2.2.1, cell_keep hb1 hHeld.2.2.2.2.2.2.2.2.1, cell_keep hb1 hHeld.2.2.2.2.2.2.2.2.2.1, cell_keep hb1 hHeld.2.2.2.2.2.2.2.2.2.2.1, cell_keep hb1 hHeld.2.2.2.2.2.2.2.2.2.2.2.1, cell_keep hb1 hHeld.2.2.2.2.2.2.2.2.2.2.2.2.1, cell_keep hb1 hHeld.2.2.2.2.2.2.2.2.2.2.2.2.2.1, cell_keep hb1 hHeld.2.2.2.2.2.2.2.2.2.2.2.2.2.2.1, cell_keep hb1 hHeld.2.2.2.2.2.2.2.2.2.2.2.2.2.2.2.1, cell_keep hb1 hHeld.2.2.2.2.2.2.2.2.2.2.2.2.2.2.2.2.1, cell_keep hb1 hHeld.2.2.2.2.2.2.2.2.2.2.2.2.2.2.2.2.2.1, cell_keep hb1 hHeld.2.2.2.2.2.2.2.2.2.2.2.2.2.2.2.2.2.2.1, cell_keep hb1 hHeld.2.2.2.2.2.2.2.2.2.2.2.2.2.2.2.2.2.2.2.1, cell_keep hb1 hHeld.2.2.2.2.2.2.2.2.2.2.2.2.2.2.2.2.2.2.2.2⟩ (fun hHeld => ?_)
      clear hK K
      refine norm_ (a' := ?_) ?_ ?_
      rotate_left
      · show Act.put _ (some 38) _ = _
        simp only [Act.put, List.setIfInBounds_toArray, List.set_cons_zero, List.set_cons_succ, i64_w, i32_w]
        rfl
      refine pure_ (i := 4) (N := some 39) (v := ?_) (a' := ?_) #[true, true, true, true, true, false, false, false, false, false, false, false, false, false, false, false, false, false, false, false, false, false, false, false, false, false] rfl rfl (by kernel_rfl) (fun _ _ _ h => h) (Or.inl ⟨by rfl, ?_⟩) ?_ ?_
      rotate_left
      · intro w'
        go_simp
        with_reducible rfl
      rotate_left
      · simp only [Act.put, List.setIfInBounds_toArray, List.set_cons_zero, List.set_cons_succ, i64_w, i32_w]
        rfl
      refine pure_ (i := 5) (N := some 40) (v := ?_) (a' := ?_) #[true, true, true, true, true, true, false, false, false, false, false, false, false, false, false, false, false, false, false, false, false, false, false, false, false, false] rfl rfl (by kernel_rfl) (fun _ _ _ h => h) (Or.inl ⟨by rfl, ?_⟩) ?_ ?_
      rotate_left
      · intro w'
        go_simp
        with_reducible rfl
      rotate_left
      · simp only [Act.put, List.setIfInBounds_toArray, List.set_cons_zero, List.set_cons_succ, i64_w, i32_w]
        rfl
      refine take_ (i := 6) (N := some 41) (v := ?_) (a' := ?_) #[true, true, true, true, true, true, true, false, false, false, false, false, false, false, false, false, false, false, false, false, false, false, false, false, false, false] rfl rfl (by kernel_rfl) (fun _ _ _ h => h) (Or.inl ⟨by rfl, ?_⟩) hHeld ?_ ?_
      rotate_left
      · rintro w' ⟨s0, s1, s2, s3, s4, s5, s6, s7, s8, s9, s10, s11, s12, s13, s14, s15, s16, s17, s18, s19, s20⟩
        go_simp
        with_reducible rfl
      rotate_left
      · simp only [Act.put, List.setIfInBounds_toArray, List.set_cons_zero, List.set_cons_succ, i64_w, i32_w]
        rfl
      refine take_ (i := 7) (N := some 42) (v := ?_) (a' := ?_) #[true, true, true, true, true, true, true, true, false, false, false, false, false, false, false, false, false, false, false, false, false, false, false, false, false, false] rfl rfl (by kernel_rfl) (fun _ _ _ h => h) (Or.inl ⟨by rfl, ?_⟩) hHeld ?_ ?_
      rotate_left
      · rintro w' ⟨s0, s1, s2, s3, s4, s5, s6, s7, s8, s9, s10, s11, s12, s13, s14, s15, s16, s17, s18, s19, s20⟩
        go_simp
        with_reducible rfl
      rotate_left
      · simp only [Act.put, List.setIfInBounds_toArray, List.set_cons_zero, List.set_cons_succ, i64_w, i32_w]
        rfl
      refine pure_ (i := 8) (N := some 43) (v := ?_) (a' := ?_) #[true, true, true, true, true, true, true, true, true, false, false, false, false, false, false, false, false, false, false, false, false, false, false, false, false, false] rfl rfl (by kernel_rfl) (fun _ _ _ h => h) (Or.inl ⟨by rfl, ?_⟩) ?_ ?_
      rotate_left
      · intro w'
        go_simp
        with_reducible rfl
      rotate_left
      · simp only [Act.put, List.setIfInBounds_toArray, List.set_cons_zero, List.set_cons_succ, i64_w, i32_w]
        rfl
      refine pure_ (i := 9) (N := some 44) (v := ?_) (a' := ?_) #[true, true, true, true, true, true, true, true, true, true, false, false, false, false, false, false, false, false, false, false, false, false, false, false, false, false] rfl rfl (by kernel_rfl) (fun _ _ _ h => h) (Or.inl ⟨by rfl, ?_⟩) ?_ ?_
      rotate_left
      · intro w'
        go_simp
        with_reducible rfl
      rotate_left
      · simp only [Act.put, List.setIfInBounds_toArray, List.set_cons_zero, List.set_cons_succ, i64_w, i32_w]
        rfl
      refine pure_ (i := 10) (N := some 45) (v := ?_) (a' := ?_) #[true, true, true, true, true, true, true, true, true, true, true, false, false, false, false, false, false, false, false, false, false, false, false, false, false, false] rfl rfl (by kernel_rfl) (fun _ _ _ h => h) (Or.inl ⟨by rfl, ?_⟩) ?_ ?_
      rotate_left
      · intro w'
        go_simp
        with_reducible rfl
      rotate_left
      · simp only [Act.put, List.setIfInBounds_toArray, List.set_cons_zero, List.set_cons_succ, i64_w, i32_w]
        rfl
      refine pure_ (i := 11) (N := some 46) (v := ?_) (a' := ?_) #[true, true, true, true, true, true, true, true, true, true, true, true, false, false, false, false, false, false, false, false, false, false, false, false, false, false] rfl rfl (by kernel_rfl) (fun _ _ _ h => h) (Or.inl ⟨by rfl, ?_⟩) ?_ ?_
      rotate_left
      · intro w'
        go_simp
        with_reducible rfl
      rotate_left
      · simp only [Act.put, List.setIfInBounds_toArray, List.set_cons_zero, List.set_cons_succ, i64_w, i32_w]
        rfl
      refine pure_ (i := 12) (N := some 47) (v := ?_) (a' := ?_) #[true, true, true, true, true, true, true, true, true, true, true, true, true, false, false, false, false, false, false, false, false, false, false, false, false, false] rfl rfl (by kernel_rfl) (fun _ _ _ h => h) (Or.inl ⟨by rfl, ?_⟩) ?_ ?_
      rotate_left
      · intro w'
        go_simp
        with_reducible rfl
      rotate_left
      · simp only [Act.put, List.setIfInBounds_toArray, List.set_cons_zero, List.set_cons_succ, i64_w, i32_w]
        rfl
      refine pure_ (i := 13) (N := some 48) (v := ?_) (a' := ?_) #[true, true, true, true, true, true, true, true, true, true, true, true, true, true, false, false, false, false, false, false, false, false, false, false, false, false] rfl rfl (by kernel_rfl) (fun _ _ _ h => h) (Or.inl ⟨by rfl, ?_⟩) ?_ ?_
      rotate_left
      · intro w'
        go_simp
        with_reducible rfl
      rotate_left
      · simp only [Act.put, List.setIfInBounds_toArray, List.set_cons_zero, List.set_cons_succ, i64_w, i32_w]
        rfl
      refine pure_ (i := 14) (N := some 49) (v := ?_) (a' := ?_) #[true, true, true, true, true, true, true, true, true, true, true, true, true, true, true, false, false, false, false, false, false, false, false, false, false, false] rfl rfl (by kernel_rfl) (fun _ _ _ h => h) (Or.inl ⟨by rfl, ?_⟩) ?_ ?_
      rotate_left
      · intro w'
        go_simp
        with_reducible rfl
      rotate_left
      · simp only [Act.put, List.setIfInBounds_toArray, List.set_cons_zero, List.set_cons_succ, i64_w, i32_w]
        rfl
      refine pure_ (i := 15) (N := some 50) (v := ?_) (a' := ?_) #[true, true, true, true, true, true, true, true, true, true, true, true, true, true, true, true, false, false, false, false, false, false, false, false, false, false] rfl rfl (by kernel_rfl) (fun _ _ _ h => h) (Or.inl ⟨by rfl, ?_⟩) ?_ ?_
      rotate_left
      · intro w'
        go_simp
        with_reducible rfl
      rotate_left
      · simp only [Act.put, List.setIfInBounds_toArray, List.set_cons_zero, List.set_cons_succ, i64_w, i32_w]
        rfl
      refine pure_ (i := 16) (N := some 51) (v := ?_) (a' := ?_) #[true, true, true, true, true, true, true, true, true, true, true, true, true, true, true, true, true, false, false, false, false, false, false, false, false, false] rfl rfl (by kernel_rfl) (fun _ _ _ h => h) (Or.inl ⟨by rfl, ?_⟩) ?_ ?_
      rotate_left
      · intro w'
        go_simp
        with_reducible rfl
      rotate_left
      · simp only [Act.put, List.setIfInBounds_toArray, List.set_cons_zero, List.set_cons_succ, i64_w, i32_w]
        rfl
      refine pure_ (i := 17) (N := some 52) (v := ?_) (a' := ?_) #[true, true, true, true, true, true, true, true, true, true, true, true, true, true, true, true, true, true, false, false, false, false, false, false, false, false] rfl rfl (by kernel_rfl) (fun _ _ _ h => h) (Or.inl ⟨by rfl, ?_⟩) ?_ ?_
      rotate_left
      · intro w'
        go_simp
        with_reducible rfl
      rotate_left
      · simp only [Act.put, List.setIfInBounds_toArray, List.set_cons_zero, List.set_cons_succ, i64_w, i32_w]
        rfl
      refine pure_ (i := 19) (N := some 54) (v := ?_) (a' := ?_) #[true, true, true, true, true, true, true, true, true, true, true, true, true, true, true, true, true, true, false, true, false, false, false, false, false, false] rfl rfl (by kernel_rfl) (fun _ _ _ h => h) (Or.inl ⟨by rfl, ?_⟩) ?_ ?_
      rotate_left
      · intro w'
        go_simp
        with_reducible rfl
      rotate_left
      · simp only [Act.put, List.setIfInBounds_toArray, List.set_cons_zero, List.set_cons_succ, i64_w, i32_w]
        rfl
      refine pure_ (i := 20) (N := some 55) (v := ?_) (a' := ?_) #[true, true, true, true, true, true, true, true, true, true, true, true, true, true, true, true, true, true, false, true, true, false, false, false, false, false] rfl rfl (by kernel_rfl) (fun _ _ _ h => h) (Or.inl ⟨by rfl, ?_⟩) ?_ ?_
      rotate_left
      · intro w'
        go_simp
        with_reducible rfl
      rotate_left
      · simp only [Act.put, List.setIfInBounds_toArray, List.set_cons_zero, List.set_cons_succ, i64_w, i32_w]
        rfl
      refine pure_ (i := 21) (N := some 56) (v := ?_) (a' := ?_) #[true, true, true, true, true, true, true, true, true, true, true, true, true, true, true, true, true, true, false, true, true, true, false, false, false, false] rfl rfl (by kernel_rfl) (fun _ _ _ h => h) (Or.inl ⟨by rfl, ?_⟩) ?_ ?_
      rotate_left
      · intro w'
        go_simp
        with_reducible rfl
      rotate_left
      · simp only [Act.put, List.setIfInBounds_toArray, List.set_cons_zero, List.set_cons_succ, i64_w, i32_w]
        rfl
      refine take_ (i := 18) (N := some 53) (v := ?_) (a' := ?_) #[true, true, true, true, true, true, true, true, true, true, true, true, true, true, true, true, true, true, true, true, true, true, false, false, false, false] rfl rfl (by kernel_rfl) (fun _ _ _ h => h) (Or.inl ⟨by rfl, ?_⟩) hHeld ?_ ?_
      rotate_left
      · rintro w' ⟨s0, s1, s2, s3, s4, s5, s6, s7, s8, s9, s10, s11, s12, s13, s14, s15, s16, s17, s18, s19, s20⟩
        go_simp
        with_reducible rfl
      rotate_left
      · simp only [Act.put, List.setIfInBounds_toArray, List.set_cons_zero, List.set_cons_succ, i64_w, i32_w]
        rfl
      refine take_ (i := 22) (N := some 57) (v := ?_) (a' := ?_) #[true, true, true, true, true, true, true, true, true, true, true, true, true, true, true, true, true, true, true, true, true, true, true, false, false, false] rfl rfl (by kernel_rfl) (fun _ _ _ h => h) (Or.inl ⟨by rfl, ?_⟩) hHeld ?_ ?_
      rotate_left
      · rintro w' ⟨s0, s1, s2, s3, s4, s5, s6, s7, s8, s9, s10, s11, s12, s13, s14, s15, s16, s17, s18, s19, s20⟩
        go_simp
        with_reducible rfl
      rotate_left
      · simp only [Act.put, List.setIfInBounds_toArray, List.set_cons_zero, List.set_cons_succ, i64_w, i32_w]
        rfl
      refine pure_ (i := 23) (N := some 58) (v := ?_) (a' := ?_) #[true, true, true, true, true, true, true, true, true, true, true, true, true, true, true, true, true, true, true, true, true, true, true, true, false, false] rfl rfl (by kernel_rfl) (fun _ _ _ h => h) (Or.inl ⟨by rfl, ?_⟩) ?_ ?_
      rotate_left
      · intro w'
        go_simp
        with_reducible rfl
      rotate_left
      · simp only [Act.put, List.setIfInBounds_toArray, List.set_cons_zero, List.set_cons_succ, i64_w, i32_w]
        rfl
      refine pure_ (i := 24) (N := some 59) (v := ?_) (a' := ?_) #[true, true, true, true, true, true, true, true, true, true, true, true, true, true, true, true, true, true, true, true, true, true, true, true, true, false] rfl rfl (by kernel_rfl) (fun _ _ _ h => h) (Or.inl ⟨by rfl, ?_⟩) ?_ ?_
      rotate_left
      · intro w'
        go_simp
        with_reducible rfl
      rotate_left
      · simp only [Act.put, List.setIfInBounds_toArray, List.set_cons_zero, List.set_cons_succ, i64_w, i32_w]
        rfl
      refine pure_ (i := 25) (N := some 60) (v := ?_) (a' := ?_) #[true, true, true, true, true, true, true, true, true, true, true, true, true, true, true, true, true, true, true, true, true, true, true, true, true, true] rfl rfl (by kernel_rfl) (fun _ _ _ h => h) (Or.inl ⟨by rfl, ?_⟩) ?_ ?_
      rotate_left
      · intro w'
        go_simp
        with_reducible rfl
      rotate_left
      · simp only [Act.put, List.setIfInBounds_toArray, List.set_cons_zero, List.set_cons_succ, i64_w, i32_w]
        rfl
      refine done_ (by kernel_rfl) ?_

      clear HT HU HV R_a R_b R_c R_d
      have hw1 : wrap64 (i + 1) = i + 1 := wrap64_eq (by have := HI.out; omega) (by have := HI17.out; omega)
      go_wp2
      go_roundw
      case rel => exact ⟨i + 1, by first | rfl | rw [hw1], ⟨by have := HI.out; have := HI17.out; omega⟩, HR, HK, HB⟩
      case measure => have := HI.out; have := HI17.out; simp [intOf, hw1]; omega
    · have t1 : decide (i ≤ 16) = false := decide_eq_false hi
      clear hi HI
      go_wp2_with fail
      go_loopw [12] (fun v12 wr => ∃ (j : Int), v12 = .int .i64 j ∧ Aside0 (-1 ≤ j ∧ j ≤ 6) ∧ Aside0 (IsBlk wr w.heap.size (rv n m seen (hf f)) 47) ∧ Aside0 (Wk wr g q seen f) ∧ Aside0 (Below w.heap.size w wr)) (fun v12 _ => (40 - intOf v12).toNat)
      case atStart => exact ⟨-1, rfl, ⟨by omega⟩, HR, HK, HB⟩
      case round =>
        clear HB HK HR
        obtain ⟨j, rfl, HJ, HR, HK, HB⟩ := hrel
        obtain ⟨wp, hwp⟩ : ∃ x, x = wr := ⟨_, rfl⟩
        subst hwp
        by_cases hj : j ≤ 5
        · have t2 : decide (j ≤ 5) = true := decide_eq_true hj
          have HJ5 := Aside0.mk hj
          clear hj
          go_upto_region 12 with fail
          refine start_ (n := 7) (S := fun w' => IsBlk w' w.heap.size (rv n m seen (hf f)) 47) (ds := []) #[false, false, false, false, false, false, false] (by kernel_rfl) rfl rfl (HR.out.drew) (fun hHeld => ?_)
          refine pure_ (i := 0) (N := some 65) (v := ?_) (a' := ?_) #[true, false, false, false, false, false, false] rfl rfl (by kernel_rfl) (fun _ _ _ h => h) (Or.inl ⟨by rfl, ?_⟩) ?_ ?_
          rotate_left
          · intro w'
            go_simp
            with_reducible rfl
          rotate_left
          · simp only [Act.put, List.setIfInBounds_toArray, List.set_cons_zero, List.set_cons_succ, i64_w, i32_w]
            rfl
          refine pure_ (i := 1) (N := some 66) (v := ?_) (a' := ?_) #[true, true, false, false, false, false, false] rfl rfl (by kernel_rfl) (fun _ _ _ h => h) (Or.inl ⟨by rfl, ?_⟩) ?_ ?_
          rotate_left
          · intro w'
            go_simp
            with_reducible rfl
          rotate_left
          · simp only [Act.put, List.setIfInBounds_toArray, List.set_cons_zero, List.set_cons_succ, i64_w, i32_w]
            rfl
          refine pure_ (i := 4) (N := some 69) (v := ?_) (a' := ?_) #[true, true, false, false, true, false, false] rfl rfl (by kernel_rfl) (fun _ _ _ h => h) (Or.inl ⟨by rfl, ?_⟩) ?_ ?_
          rotate_left
          · intro w'
            go_simp
            with_reducible rfl
          rotate_left
          · simp only [Act.put, List.setIfInBounds_toArray, List.set_cons_zero, List.set_cons_succ, i64_w, i32_w]
            rfl
          refine take_ (i := 3) (N := some 68) (v := ?_) (a' := ?_) #[true, true, false, true, true, false, false] rfl rfl (by kernel_rfl) (fun _ _ _ h => h) (Or.inl ⟨by rfl, ?_⟩) hHeld ?_ ?_
          rotate_left
          · intro w' s0
            (refine execW (x := Operand.tmp 3) w.heap.size (rv n m seen (hf f)) ?_ ?_ ?_ ?_; rfl; rfl; assumption; exact rv_size _ _ _ _)
          rotate_left
          · simp only [Act.put, List.setIfInBounds_toArray, List.set_cons_zero, List.set_cons_succ, i64_w, i32_w]
            rfl
          refine one_ (i := 2) (N := some 67) #[true, true, true, true, true, false, false] rfl rfl (by kernel_rfl) (by simp) (fun K hK => ?_)
          refine goes_ Try.func18 (by kernel_rfl) rfl #[.pointer (some ⟨g, 0, none⟩), .int .i64 j] (by rfl) rfl rfl (by simp only [List.map_toArray, List.map_cons, List.map_nil]; rfl) ?_
          with_reducible refine (count_w g q seen f j _ (by repeat (with_reducible first | exact HK.out | apply Wk.alloc | apply Wk.drew))).mono ?_
          rintro e y1 ⟨rfl, hb1⟩
          have HKn : Aside0 (Wk y1 g q seen f) := ⟨Wk.below (by repeat (with_reducible first | exact HK.out | apply Wk.alloc | apply Wk.drew)) hb1⟩
          have HRn : Aside0 (IsBlk y1 w.heap.size (rv n m seen (hf f)) 47) := ⟨IsBlk.below (by repeat (with_reducible first | exact HR.out | apply IsBlk.alloc | apply IsBlk.drew)) hb1⟩
          have HBn : Aside0 (Below w.heap.size w y1) := ⟨below_step (by repeat (first | (with_reducible first | exact HB.out | apply below_alloc | apply pw_below_drewN | apply below_drew1) | refine below_set ?_ (by omega))) hb1⟩
          clear HK HR HB
          have HK := HKn
          have HR := HRn
          have HB := HBn
          clear HKn HRn HBn
          refine ⟨_, rfl, ?_⟩
          refine hK.out _ _ (IsBlk.below hHeld hb1) (fun hHeld => ?_)
          clear hK K
          refine norm_ (a' := ?_) ?_ ?_
          rotate_left
          · show Act.put _ (some 67) _ = _
            simp only [Act.put, List.setIfInBounds_toArray, List.set_cons_zero, List.set_cons_succ, i64_w, i32_w]
            rfl
          refine one_ (i := 5) (N := some 70) #[true, true, true, true, true, true, false] rfl rfl (by kernel_rfl) (by simp) (fun K hK => ?_)
          refine goes_ Try.func39 (by kernel_rfl) rfl #[.agg (rv n m seen (hf f)), .int .i64 j] (by rfl) rfl rfl (by simp only [List.map_toArray, List.map_cons, List.map_nil]; rfl) ?_
          with_reducible refine (count16_q n m seen f HD.out HM.out j _).mono ?_
          rintro e y2 ⟨rfl, hb1⟩
          have HKn : Aside0 (Wk y2 g q seen f) := ⟨Wk.below (by repeat (with_reducible first | exact HK.out | apply Wk.alloc | apply Wk.drew)) hb1⟩
          have HRn : Aside0 (IsBlk y2 w.heap.size (rv n m seen (hf f)) 47) := ⟨IsBlk.below (by repeat (with_reducible first | exact HR.out | apply IsBlk.alloc | apply IsBlk.drew)) hb1⟩
          have HBn : Aside0 (Below w.heap.size w y2) := ⟨below_step (by repeat (first | (with_reducible first | exact HB.out | apply below_alloc | apply pw_below_drewN | apply below_drew1) | refine below_set ?_ (by omega))) hb1⟩
          clear HK HR HB
          have HK := HKn
          have HR := HRn
          have HB := HBn
          clear HKn HRn HBn
          refine ⟨_, rfl, ?_⟩
          refine hK.out _ _ (IsBlk.below hHeld hb1) (fun hHeld => ?_)
          clear hK K
          refine norm_ (a' := ?_) ?_ ?_
          rotate_left
          · show Act.put _ (some 70) _ = _
            simp only [Act.put, List.setIfInBounds_toArray, List.set_cons_zero, List.set_cons_succ, i64_w, i32_w]
            rfl
          refine pure_ (i := 6) (N := some 71) (v := ?_) (a' := ?_) #[true, true, true, true, true, true, true] rfl rfl (by kernel_rfl) (fun _ _ _ h => h) (Or.inl ⟨by rfl, ?_⟩) ?_ ?_
          rotate_left
          · intro w'
            go_simp
            with_reducible rfl
          rotate_left
          · simp only [Act.put, List.setIfInBounds_toArray, List.set_cons_zero, List.set_cons_succ, i64_w, i32_w]
            rfl
          refine done_ (by kernel_rfl) ?_

          have hw1 : wrap64 (j + 1) = j + 1 := wrap64_eq (by have := HJ.out; omega) (by have := HJ5.out; omega)
          go_wp2
          go_roundw
          case rel => exact ⟨j + 1, by first | rfl | rw [hw1], ⟨by have := HJ.out; have := HJ5.out; omega⟩, HR, HK, HB⟩
          case measure => have := HJ.out; have := HJ5.out; simp [intOf, hw1]; omega
        · have t2 : decide (j ≤ 5) = false := decide_eq_false hj
          clear hj HJ
          have HSC := Aside0.mk (same_self (ownL f) (Nat.le_trans (ownL_len f) (by decide)))
          go_upto_region 14 with fail
          have R_2 : wp.cell? ⟨w.heap.size, 2, none⟩ = some (.int .i64 seen) := (blk_cell HR.out 2).trans (rv_2 n m seen (hf f))
          refine start_ (n := 13) (S := fun w' => IsBlk w' w.heap.size (rv n m seen (hf f)) 47 ∧ w'.cell? ⟨w.heap.size, 2, none⟩ = some (.int .i64 seen)) (ds := []) #[false, false, false, false, false, false, false, false, false, false, false, false, false] (by kernel_rfl) rfl rfl ⟨HR.out.drew, R_2⟩ (fun hHeld => ?_)
          refine pure_ (i := 0) (N := some 72) (v := ?_) (a' := ?_) #[true, false, false, false, false, false, false, false, false, false, false, false, false] rfl rfl (by kernel_rfl) (fun _ _ _ h => h) (Or.inl ⟨by rfl, ?_⟩) ?_ ?_
          rotate_left
          · intro w'
            go_simp
            with_reducible rfl
          rotate_left
          · simp only [Act.put, List.setIfInBounds_toArray, List.set_cons_zero, List.set_cons_succ, i64_w, i32_w]
            rfl
          refine pure_ (i := 2) (N := some 74) (v := ?_) (a' := ?_) #[true, false, true, false, false, false, false, false, false, false, false, false, false] rfl rfl (by kernel_rfl) (fun _ _ _ h => h) (Or.inl ⟨by rfl, ?_⟩) ?_ ?_
          rotate_left
          · intro w'
            go_simp
            with_reducible rfl
          rotate_left
          · simp only [Act.put, List.setIfInBounds_toArray, List.set_cons_zero, List.set_cons_succ, i64_w, i32_w]
            rfl
          refine take_ (i := 3) (N := some 75) (v := ?_) (a' := ?_) #[true, false, true, true, false, false, false, false, false, false, false, false, false] rfl rfl (by kernel_rfl) (fun _ _ _ h => h) (Or.inl ⟨by rfl, ?_⟩) hHeld ?_ ?_
          rotate_left
          · rintro w' ⟨s0, s1⟩
            go_simp
            with_reducible rfl
          rotate_left
          · simp only [Act.put, List.setIfInBounds_toArray, List.set_cons_zero, List.set_cons_succ, i64_w, i32_w]
            rfl
          refine one_ (i := 1) (N := some 73) #[true, true, true, true, false, false, false, false, false, false, false, false, false] rfl rfl (by kernel_rfl) (by simp) (fun K hK => ?_)
          refine goes_ Try.func15 (by kernel_rfl) rfl #[.pointer (some ⟨g, 0, none⟩)] (by rfl) rfl rfl (by simp only [List.map_toArray, List.map_cons, List.map_nil]; rfl) ?_
          with_reducible refine (seen_q g q seen f _ (by repeat (with_reducible first | exact HK.out | apply Wk.alloc | apply Wk.drew))).mono ?_
          rintro e y1 ⟨rfl, hb1⟩
          have HKn : Aside0 (Wk y1 g q seen f) := ⟨Wk.below (by repeat (with_reducible first | exact HK.out | apply Wk.alloc | apply Wk.drew)) hb1⟩
          have HRn : Aside0 (IsBlk y1 w.heap.size (rv n m seen (hf f)) 47) := ⟨IsBlk.below (by repeat (with_reducible first | exact HR.out | apply IsBlk.alloc | apply IsBlk.drew)) hb1⟩
          have HBn : Aside0 (Below w.heap.size w y1) := ⟨below_step (by repeat (first | (with_reducible first | exact HB.out | apply below_alloc | apply pw_below_drewN | apply below_drew1) | refine below_set ?_ (by omega))) hb1⟩
          clear HK HR HB
          have HK := HKn
          have HR := HRn
          have HB := HBn
          clear HKn HRn HBn
          refine ⟨_, rfl, ?_⟩
          refine hK.out _ _ ⟨IsBlk.below hHeld.1 hb1, cell_keep hb1 hHeld.2⟩ (fun hHeld => ?_)
          clear hK K
          refine norm_ (a' := ?_) ?_ ?_
          rotate_left
          · show Act.put _ (some 73) _ = _
            simp only [Act.put, List.setIfInBounds_toArray, List.set_cons_zero, List.set_cons_succ, i64_w, i32_w]
            rfl
          refine pure_ (i := 4) (N := some 76) (v := ?_) (a' := ?_) #[true, true, true, true, true, false, false, false, false, false, false, false, false] rfl rfl (by kernel_rfl) (fun _ _ _ h => h) (Or.inl ⟨by rfl, ?_⟩) ?_ ?_
          rotate_left
          · intro w'
            go_simp
            with_reducible rfl
          rotate_left
          · simp only [Act.put, List.setIfInBounds_toArray, List.set_cons_zero, List.set_cons_succ, i64_w, i32_w]
            rfl
          refine pure_ (i := 5) (N := some 77) (v := ?_) (a' := ?_) #[true, true, true, true, true, true, false, false, false, false, false, false, false] rfl rfl (by kernel_rfl) (fun _ _ _ h => h) (Or.inl ⟨by rfl, ?_⟩) ?_ ?_
          rotate_left
          · intro w'
            go_simp
            with_reducible rfl
          rotate_left
          · simp only [Act.put, List.setIfInBounds_toArray, List.set_cons_zero, List.set_cons_succ, i64_w, i32_w]
            rfl
          refine pure_ (i := 6) (N := some 78) (v := ?_) (a' := ?_) #[true, true, true, true, true, true, true, false, false, false, false, false, false] rfl rfl (by kernel_rfl) (fun _ _ _ h => h) (Or.inl ⟨by rfl, ?_⟩) ?_ ?_
          rotate_left
          · intro w'
            go_simp
            with_reducible rfl
          rotate_left
          · simp only [Act.put, List.setIfInBounds_toArray, List.set_cons_zero, List.set_cons_succ, i64_w, i32_w]
            rfl
          refine take_ (i := 8) (N := some 80) (v := ?_) (a' := ?_) #[true, true, true, true, true, true, true, false, true, false, false, false, false] rfl rfl (by kernel_rfl) (fun _ _ _ h => h) (Or.inl ⟨by rfl, ?_⟩) hHeld ?_ ?_
          rotate_left
          · rintro w' ⟨s0, s1⟩
            (refine execW (x := Operand.tmp 3) w.heap.size (rv n m seen (hf f)) ?_ ?_ ?_ ?_; rfl; rfl; assumption; exact rv_size _ _ _ _)
          rotate_left
          · simp only [Act.put, List.setIfInBounds_toArray, List.set_cons_zero, List.set_cons_succ, i64_w, i32_w]
            rfl
          refine one_ (i := 7) (N := some 79) #[true, true, true, true, true, true, true, true, true, false, false, false, false] rfl rfl (by kernel_rfl) (by simp) (fun K hK => ?_)
          refine goes_ Try.func14 (by kernel_rfl) rfl #[.pointer (some ⟨g, 0, none⟩)] (by rfl) rfl rfl (by simp only [List.map_toArray, List.map_cons, List.map_nil]; rfl) ?_
          with_reducible refine (units_q g q seen f _ (by repeat (with_reducible first | exact HK.out | apply Wk.alloc | apply Wk.drew))).mono ?_
          rintro e y2 ⟨A1, c1, rfl, hlc1, hC1, hb1⟩
          have HC1 := Aside0.mk hC1
          have HL1 := Aside0.mk hlc1
          clear hC1 hlc1
          have HKn : Aside0 (Wk y2 g q seen f) := ⟨Wk.below (by repeat (with_reducible first | exact HK.out | apply Wk.alloc | apply Wk.drew)) hb1⟩
          have HRn : Aside0 (IsBlk y2 w.heap.size (rv n m seen (hf f)) 47) := ⟨IsBlk.below (by repeat (with_reducible first | exact HR.out | apply IsBlk.alloc | apply IsBlk.drew)) hb1⟩
          have HBn : Aside0 (Below w.heap.size w y2) := ⟨below_step (by repeat (first | (with_reducible first | exact HB.out | apply below_alloc | apply pw_below_drewN | apply below_drew1) | refine below_set ?_ (by omega))) hb1⟩
          clear HK HR HB
          have HK := HKn
          have HR := HRn
          have HB := HBn
          clear HKn HRn HBn
          refine ⟨_, rfl, ?_⟩
          refine hK.out _ _ ⟨IsBlk.below hHeld.1 hb1, cell_keep hb1 hHeld.2⟩ (fun hHeld => ?_)
          clear hK K
          refine norm_ (a' := ?_) ?_ ?_
          rotate_left
          · show Act.put _ (some 79) _ = _
            simp only [Act.put, List.setIfInBounds_toArray, List.set_cons_zero, List.set_cons_succ, i64_w, i32_w]
            rfl
          refine one_ (i := 9) (N := some 81) #[true, true, true, true, true, true, true, true, true, true, false, false, false] rfl rfl (by kernel_rfl) (by simp) (fun K hK => ?_)
          refine goes_ Try.func40 (by kernel_rfl) rfl #[.agg (rv n m seen (hf f))] (by rfl) rfl rfl (by simp only [List.map_toArray, List.map_cons, List.map_nil]; rfl) ?_
          with_reducible refine (units16_q n m seen f HD.out HM.out _).mono ?_
          rintro e y3 ⟨A2, c2, rfl, hlc2, hC2, hb1⟩
          have HC1n := Aside0.mk (Kd.C_below (by with_reducible repeat (first | exact HC1.out | apply Kd.C_alloc | apply Kd.C_drewN | apply Kd.C_drew)) hb1)
          have HC2 := Aside0.mk hC2
          have HL2 := Aside0.mk hlc2
          clear hC2 hlc2 HC1
          have HC1 := HC1n
          clear HC1n
          have HKn : Aside0 (Wk y3 g q seen f) := ⟨Wk.below (by repeat (with_reducible first | exact HK.out | apply Wk.alloc | apply Wk.drew)) hb1⟩
          have HRn : Aside0 (IsBlk y3 w.heap.size (rv n m seen (hf f)) 47) := ⟨IsBlk.below (by repeat (with_reducible first | exact HR.out | apply IsBlk.alloc | apply IsBlk.drew)) hb1⟩
          have HBn : Aside0 (Below w.heap.size w y3) := ⟨below_step (by repeat (first | (with_reducible first | exact HB.out | apply below_alloc | apply pw_below_drewN | apply below_drew1) | refine below_set ?_ (by omega))) hb1⟩
          clear HK HR HB
          have HK := HKn
          have HR := HRn
          have HB := HBn
          clear HKn HRn HBn
          refine ⟨_, rfl, ?_⟩
          refine hK.out _ _ ⟨IsBlk.below hHeld.1 hb1, cell_keep hb1 hHeld.2⟩ (fun hHeld => ?_)
          clear hK K
          refine norm_ (a' := ?_) ?_ ?_
          rotate_left
          · show Act.put _ (some 81) _ = _
            simp only [Act.put, List.setIfInBounds_toArray, List.set_cons_zero, List.set_cons_succ, i64_w, i32_w]
            rfl
          refine one_ (i := 10) (N := some 82) #[true, true, true, true, true, true, true, true, true, true, true, false, false] rfl rfl (by kernel_rfl) (by simp) (fun K hK => ?_)
          refine goes_ Try.func25 (by kernel_rfl) rfl #[.slice A1 (ownL f).length c1, .slice A2 (ownL f).length c2] (by rfl) rfl rfl (by simp only [List.map_toArray, List.map_cons, List.map_nil]; rfl) ?_
          with_reducible refine (same_q A1 A2 c1 c2 (ownL f) _ (by with_reducible repeat (first | exact HC1.out | apply Kd.C_alloc | apply Kd.C_drewN | apply Kd.C_drew)) HL1.out (by with_reducible repeat (first | exact HC2.out | apply Kd.C_alloc | apply Kd.C_drewN | apply Kd.C_drew)) HL2.out 200 HSC.out).mono ?_
          rintro e y4 ⟨rfl, hb1⟩
          have HKn : Aside0 (Wk y4 g q seen f) := ⟨Wk.below (by repeat (with_reducible first | exact HK.out | apply Wk.alloc | apply Wk.drew)) hb1⟩
          have HRn : Aside0 (IsBlk y4 w.heap.size (rv n m seen (hf f)) 47) := ⟨IsBlk.below (by repeat (with_reducible first | exact HR.out | apply IsBlk.alloc | apply IsBlk.drew)) hb1⟩
          have HBn : Aside0 (Below w.heap.size w y4) := ⟨below_step (by repeat (first | (with_reducible first | exact HB.out | apply below_alloc | apply pw_below_drewN | apply below_drew1) | refine below_set ?_ (by omega))) hb1⟩
          clear HK HR HB
          have HK := HKn
          have HR := HRn
          have HB := HBn
          clear HKn HRn HBn
          refine ⟨_, rfl, ?_⟩
          refine hK.out _ _ ⟨IsBlk.below hHeld.1 hb1, cell_keep hb1 hHeld.2⟩ (fun hHeld => ?_)
          clear hK K
          refine norm_ (a' := ?_) ?_ ?_
          rotate_left
          · show Act.put _ (some 82) _ = _
            simp only [Act.put, List.setIfInBounds_toArray, List.set_cons_zero, List.set_cons_succ, i64_w, i32_w]
            rfl
          refine pure_ (i := 11) (N := some 83) (v := ?_) (a' := ?_) #[true, true, true, true, true, true, true, true, true, true, true, true, false] rfl rfl (by kernel_rfl) (fun _ _ _ h => h) (Or.inl ⟨by rfl, ?_⟩) ?_ ?_
          rotate_left
          · intro w'
            go_simp
            with_reducible rfl
          rotate_left
          · simp only [Act.put, List.setIfInBounds_toArray, List.set_cons_zero, List.set_cons_succ, i64_w, i32_w]
            rfl
          refine pure_ (i := 12) (N := some 4) (v := ?_) (a' := ?_) #[true, true, true, true, true, true, true, true, true, true, true, true, true] rfl rfl (by kernel_rfl) (fun _ _ _ h => h) (Or.inl ⟨by rfl, ?_⟩) ?_ ?_
          rotate_left
          · intro w'
            go_simp
            with_reducible rfl
          rotate_left
          · simp only [Act.put, List.setIfInBounds_toArray, List.set_cons_zero, List.set_cons_succ, i64_w, i32_w]
            rfl
          refine done_ (by kernel_rfl) ?_

          go_wp2
          go_ret
          exact ⟨rfl, by repeat (first | (with_reducible first | exact HB.out | apply below_alloc | apply pw_below_drewN | apply below_drew1) | refine below_set ?_ (by omega))⟩
end Go.Proofs.Ytkjaeodnpgpfeaa.V8
