/-
  Proved here: NumBudgets answers true, at all whole numbers of 64 bits: the plain law and the walk. No condition.
-/
import Derived.Test.YtldanidookkmaaaPNumBudgetsx1
import Derived.Outline
import Derived.Deep.QuietTactic
import Derived.BigQuiet
namespace Go.Proofs.Ytldanidookkmaaa.WalkNumBudgets
open Go.RowKit Go.Proofs.Ytldanidookkmaaa.PNumBudgets Go.Proofs.YtldanidookkmaaaW.PrintWords Go.Proofs.YtldanidookkmaaaW.PrintLast Go.Proofs.YtldanidookkmaaaW.PrintMore
set_option linter.unusedVariables false

def cut (n : Int) : Int := mn (mx n 0) 1048576
theorem cut_bounds (n : Int) : 0 ≤ cut n ∧ cut n ≤ 1048576 := by
  unfold cut mn mx; constructor <;> (repeat' split) <;> omega
theorem wrap_in (x : Int) (h0 : -9223372036854775808 ≤ x) (h1 : x ≤ 9223372036854775807) : wrap64 x = x := by unfold wrap64; omega
theorem lives_true : pacesetterlaw02_lives.f 70 = some true := by decide +kernel
theorem lives_any (w : World) : Calls Try.prog 10 #[] w fun e w' => e = .returned (.bool true) ∧ Below w.heap.size w w' :=
  pacesetterlaw02_lives.calls 70 true w lives_true
theorem of_drawn {w w' : World} (h : Drawn0 w w') : Below w.heap.size w w' := by
  obtain ⟨n, rfl⟩ := h.out
  exact pw_below_drewN (Below.refl _ _) n
theorem refcut_eq (n : Int) : pacesetterref02_Cut.f n = some (cut n) := by
  unfold pacesetterref02_Cut.f cut mn mx; (repeat' split) <;> first | rfl | (congr 1; omega) | omega
theorem cut_eq (n : Int) : num_Cut.f n = some (cut n) := rfl

def clip (p : Int) : Int := mn (mx p 0) 100
theorem clip_bounds (p : Int) : 0 ≤ clip p ∧ clip p ≤ 100 := by
  unfold clip mn mx; constructor <;> (repeat' split) <;> omega
def perc (p n : Int) (up : Bool) : Int := if up = true then (clip p * cut n + 99) / 100 else (clip p * cut n) / 100
theorem prod_bounds (a b : Int) (ha : 0 ≤ a) (ha' : a ≤ 100) (hb : 0 ≤ b) (hb' : b ≤ 1048576) : 0 ≤ a * b ∧ a * b ≤ 100 * b ∧ a * b ≤ 104857600 := by
  have h1 := Int.mul_nonneg ha hb
  have h2 := Int.mul_le_mul_of_nonneg_right ha' hb
  exact ⟨h1, h2, by omega⟩
theorem percent_eq (p n : Int) (up : Bool) : num_Percent.f p n up = some (perc p n up) := by
  have hp := clip_bounds p
  have hn := cut_bounds n
  have hb := prod_bounds _ _ hp.1 hp.2 hn.1 hn.2
  unfold num_Percent.f perc
  rw [cut_eq, Option.bind_some, show mn (mx p 0) 100 = clip p from rfl]
  generalize clip p * cut n = x at hb ⊢
  rw [wrap_in x (by omega) (by omega), wrap_in (x + 99) (by omega) (by omega), Int.tdiv_eq_ediv_of_nonneg (by omega : 0 ≤ x), Int.tdiv_eq_ediv_of_nonneg (by omega : 0 ≤ x + 99),
    wrap_in (x / 100) (by omega) (by omega), wrap_in ((x + 99) / 100) (by omega) (by omega)]
  split <;> rfl
theorem refpercent_eq (p n : Int) (up : Bool) : pacesetterref02_Percent.f p n up = some (perc p n up) := by
  have hp := clip_bounds p
  have hn := cut_bounds n
  have hb := prod_bounds _ _ hp.1 hp.2 hn.1 hn.2
  unfold pacesetterref02_Percent.f perc
  rw [refcut_eq, Option.bind_some, show mn (mx p 0) 100 = clip p from rfl]
  generalize clip p * cut n = x at hb ⊢
  rw [wrap_in x (by omega) (by omega), Int.tmod_eq_emod_of_nonneg (by omega), Int.tdiv_eq_ediv_of_nonneg (by omega : 0 ≤ x),
    wrap_in (x / 100) (by omega) (by omega), wrap_in (x / 100 + 1) (by omega) (by omega)]
  by_cases hu : up = true
  · rw [if_pos hu, if_pos hu]
    by_cases hx : x % 100 > 0
    · rw [if_pos hx]; congr 1; omega
    · rw [if_neg hx]; congr 1; omega
  · rw [if_neg hu, if_neg hu]

def least (d m : Int) : Int := mx (cut d - cut m) 0
theorem least_bounds (d m : Int) : 0 ≤ least d m ∧ least d m ≤ 1048576 := by
  have hd := cut_bounds d
  have hm := cut_bounds m
  unfold least mx; (repeat' split) <;> omega
def need (r d m : Int) : Int := mx (least d m - cut r) 0
def room (t d m : Int) : Int := mx (cut d + cut m - cut t) 0
def spare (r d m : Int) : Int := mx (cut r - least d m) 0
theorem least_eq (d m : Int) : num_least.f d m = some (least d m) := by
  have hd := cut_bounds d
  have hm := cut_bounds m
  unfold num_least.f
  simp only [cut_eq, Option.bind_some]
  rw [wrap_in _ (by omega) (by omega)]; rfl
theorem need_eq (r d m : Int) : num_Need.f r d m = some (need r d m) := by
  have hl := least_bounds d m
  have hr := cut_bounds r
  unfold num_Need.f
  simp only [least_eq, cut_eq, Option.bind_some]
  rw [wrap_in _ (by omega) (by omega)]; rfl
theorem refneed_eq (r d m : Int) : pacesetterref02_Need.f r d m = some (need r d m) := by
  have hd := cut_bounds d
  have hm := cut_bounds m
  have hl := least_bounds d m
  have hr := cut_bounds r
  unfold pacesetterref02_Need.f
  simp only [refcut_eq, Option.bind_some]
  rw [wrap_in (cut d - cut m) (by omega) (by omega), show mx (cut d - cut m) 0 = least d m from rfl, wrap_in _ (by omega) (by omega)]; rfl
theorem room_eq (t d m : Int) : num_Room.f t d m = some (room t d m) := by
  have hd := cut_bounds d
  have hm := cut_bounds m
  have ht := cut_bounds t
  unfold num_Room.f
  simp only [cut_eq, Option.bind_some]
  rw [wrap_in (cut d + cut m) (by omega) (by omega), wrap_in _ (by omega) (by omega)]; rfl
theorem refroom_eq (t d m : Int) : pacesetterref02_Room.f t d m = some (room t d m) := by
  have hd := cut_bounds d
  have hm := cut_bounds m
  have ht := cut_bounds t
  unfold pacesetterref02_Room.f
  simp only [refcut_eq, Option.bind_some]
  rw [wrap_in (cut d + cut m) (by omega) (by omega), wrap_in _ (by omega) (by omega)]; rfl
theorem spare_eq (r d m : Int) : num_Spare.f r d m = some (spare r d m) := by
  have hl := least_bounds d m
  have hr := cut_bounds r
  unfold num_Spare.f
  simp only [least_eq, cut_eq, Option.bind_some]
  rw [wrap_in _ (by omega) (by omega)]; rfl
theorem refspare_eq (r d m : Int) : pacesetterref02_Spare.f r d m = some (spare r d m) := by
  have hd := cut_bounds d
  have hm := cut_bounds m
  have hl := least_bounds d m
  have hr := cut_bounds r
  unfold pacesetterref02_Spare.f
  simp only [refcut_eq, Option.bind_some]
  rw [wrap_in (cut d - cut m) (by omega) (by omega), show mx (cut d - cut m) 0 = least d m from rfl, wrap_in _ (by omega) (by omega)]; rfl

/-! ### the calls: none of them turns anything in memory -/
attribute [local go_sem] max2_int min2_int max_two min_two max_three min_three max_four min_four
theorem cut_q (n : Int) (w : World) : Calls Try.prog 14 #[.int .i64 n] w fun e w' => e = .returned (.int .i64 (cut n)) ∧ w' = w := by
  obtain ⟨x, hx⟩ : ∃ x, mx n 0 = x := ⟨_, rfl⟩
  obtain ⟨y, hy⟩ : ∃ y, mn x 1048576 = y := ⟨_, rfl⟩
  have e : cut n = y := by unfold cut; rw [hx, hy]
  have hx_ : (if n < 0 then 0 else n) = x := hx
  have hy_ : (if 1048576 < x then 1048576 else x) = y := hy
  rw [e]
  clear e hx hy
  go_enter Try.func14, Try.ntmps14
  go_wp2
  go_ret
  exact ⟨rfl, rfl⟩
theorem refcut_q (n : Int) (w : World) : Calls Try.prog 27 #[.int .i64 n] w fun e w' => e = .returned (.int .i64 (cut n)) ∧ w' = w := by
  by_cases h1 : n < 0
  · have e : cut n = 0 := by unfold cut mn mx; (repeat' split) <;> omega
    rw [e]; clear e
    go_enter Try.func27, Try.ntmps27
    go_wp2
    go_ret
    exact ⟨rfl, rfl⟩
  · by_cases h2 : 1048576 < n
    · have e : cut n = 1048576 := by unfold cut mn mx; (repeat' split) <;> omega
      rw [e]; clear e
      go_enter Try.func27, Try.ntmps27
      go_wp2
      go_ret
      exact ⟨rfl, rfl⟩
    · have e : cut n = n := by unfold cut mn mx; (repeat' split) <;> omega
      rw [e]; clear e
      go_enter Try.func27, Try.ntmps27
      go_wp2
      go_ret
      exact ⟨rfl, rfl⟩

theorem perc_q (p n : Int) (up : Bool) (w : World) : Calls Try.prog 15 #[.int .i64 p, .int .i64 n, .bool up] w fun e w' => e = .returned (.int .i64 (perc p n up)) ∧ w' = w := by
  have hp := clip_bounds p
  have hn := cut_bounds n
  have hb := prod_bounds _ _ hp.1 hp.2 hn.1 hn.2
  obtain ⟨x, hx⟩ : ∃ x, mx p 0 = x := ⟨_, rfl⟩
  obtain ⟨y, hy⟩ : ∃ y, mn x 100 = y := ⟨_, rfl⟩
  have e : clip p = y := by unfold clip; rw [hx, hy]
  have hx_ : (if p < 0 then 0 else p) = x := hx
  have hy_ : (if 100 < x then 100 else x) = y := hy
  unfold perc
  rw [e] at hb ⊢
  clear e hx hy
  obtain ⟨b1, _, b2⟩ := hb
  cases up with
  | true =>
    go_enter Try.func15, Try.ntmps15
    go_wp2_with (go_at_call 14; refine (cut_q _ _).mono ?_; rintro e w1 ⟨rfl, rfl⟩)
    go_ret
    exact ⟨rfl, rfl⟩
  | false =>
    go_enter Try.func15, Try.ntmps15
    go_wp2_with (go_at_call 14; refine (cut_q _ _).mono ?_; rintro e w1 ⟨rfl, rfl⟩)
    go_ret
    exact ⟨rfl, rfl⟩
theorem least_q (d m : Int) (w : World) : Calls Try.prog 28 #[.int .i64 d, .int .i64 m] w fun e w' => e = .returned (.int .i64 (least d m)) ∧ w' = w := by
  have hd := cut_bounds d
  have hm := cut_bounds m
  obtain ⟨x, hx⟩ : ∃ x, mx (cut d - cut m) 0 = x := ⟨_, rfl⟩
  have e : least d m = x := by unfold least; rw [hx]
  have hx_ : (if cut d - cut m < 0 then 0 else cut d - cut m) = x := hx
  rw [e]
  clear e hx
  obtain ⟨d1, d2⟩ := hd
  obtain ⟨m1, m2⟩ := hm
  go_enter Try.func28, Try.ntmps28
  go_wp2_with (go_at_call 14; refine (cut_q _ _).mono ?_; rintro e w1 ⟨rfl, rfl⟩)
  go_ret
  exact ⟨rfl, rfl⟩
theorem q17 (a b c : Int) (w : World) : Calls Try.prog 17 #[.int .i64 a, .int .i64 b, .int .i64 c] w fun e w' => e = .returned (.int .i64 (need a b c)) ∧ w' = w := by
  obtain ⟨b0, c0⟩ := least_bounds b c
  obtain ⟨b1, c1⟩ := cut_bounds a
  obtain ⟨x, hx⟩ : ∃ x, mx (least b c - cut a) 0 = x := ⟨_, rfl⟩
  have e : need a b c = x := by unfold need; rw [hx]
  have hx_ : (if least b c - cut a < 0 then 0 else least b c - cut a) = x := hx
  rw [e]
  clear e hx
  go_enter Try.func17, Try.ntmps17
  go_wp2_with (first | (go_at_call 14; refine (cut_q _ _).mono ?_; rintro e w1 ⟨rfl, rfl⟩) | (go_at_call 28; refine (least_q _ _ _).mono ?_; rintro e w1 ⟨rfl, rfl⟩))
  go_ret
  exact ⟨rfl, rfl⟩
theorem q16 (a b c : Int) (w : World) : Calls Try.prog 16 #[.int .i64 a, .int .i64 b, .int .i64 c] w fun e w' => e = .returned (.int .i64 (room a b c)) ∧ w' = w := by
  obtain ⟨b0, c0⟩ := cut_bounds a
  obtain ⟨b1, c1⟩ := cut_bounds b
  obtain ⟨b2, c2⟩ := cut_bounds c
  obtain ⟨x, hx⟩ : ∃ x, mx (cut b + cut c - cut a) 0 = x := ⟨_, rfl⟩
  have e : room a b c = x := by unfold room; rw [hx]
  have hx_ : (if cut b + cut c - cut a < 0 then 0 else cut b + cut c - cut a) = x := hx
  rw [e]
  clear e hx
  go_enter Try.func16, Try.ntmps16
  go_wp2_with (first | (go_at_call 14; refine (cut_q _ _).mono ?_; rintro e w1 ⟨rfl, rfl⟩))
  go_ret
  exact ⟨rfl, rfl⟩
theorem q18 (a b c : Int) (w : World) : Calls Try.prog 18 #[.int .i64 a, .int .i64 b, .int .i64 c] w fun e w' => e = .returned (.int .i64 (spare a b c)) ∧ w' = w := by
  obtain ⟨b0, c0⟩ := least_bounds b c
  obtain ⟨b1, c1⟩ := cut_bounds a
  obtain ⟨x, hx⟩ : ∃ x, mx (cut a - least b c) 0 = x := ⟨_, rfl⟩
  have e : spare a b c = x := by unfold spare; rw [hx]
  have hx_ : (if cut a - least b c < 0 then 0 else cut a - least b c) = x := hx
  rw [e]
  clear e hx
  go_enter Try.func18, Try.ntmps18
  go_wp2_with (first | (go_at_call 14; refine (cut_q _ _).mono ?_; rintro e w1 ⟨rfl, rfl⟩) | (go_at_call 28; refine (least_q _ _ _).mono ?_; rintro e w1 ⟨rfl, rfl⟩))
  go_ret
  exact ⟨rfl, rfl⟩
theorem q21 (a b c : Int) (w : World) : Calls Try.prog 21 #[.int .i64 a, .int .i64 b, .int .i64 c] w fun e w' => e = .returned (.int .i64 (room a b c)) ∧ w' = w := by
  obtain ⟨b0, c0⟩ := cut_bounds a
  obtain ⟨b1, c1⟩ := cut_bounds b
  obtain ⟨b2, c2⟩ := cut_bounds c
  obtain ⟨x, hx⟩ : ∃ x, mx (cut b + cut c - cut a) 0 = x := ⟨_, rfl⟩
  have e : room a b c = x := by unfold room; rw [hx]
  have hx_ : (if cut b + cut c - cut a < 0 then 0 else cut b + cut c - cut a) = x := hx
  rw [e]
  clear e hx
  go_enter Try.func21, Try.ntmps21
  go_wp2_with (first | (go_at_call 27; refine (refcut_q _ _).mono ?_; rintro e w1 ⟨rfl, rfl⟩))
  go_ret
  exact ⟨rfl, rfl⟩
theorem q20 (a b c : Int) (w : World) : Calls Try.prog 20 #[.int .i64 a, .int .i64 b, .int .i64 c] w fun e w' => e = .returned (.int .i64 (need a b c)) ∧ w' = w := by
  obtain ⟨b0, c0⟩ := least_bounds b c
  obtain ⟨b1, c1⟩ := cut_bounds a
  obtain ⟨b2, c2⟩ := cut_bounds b
  obtain ⟨b3, c3⟩ := cut_bounds c
  obtain ⟨y, hy⟩ : ∃ y, least b c = y := ⟨_, rfl⟩
  have hy' : mx (cut b - cut c) 0 = y := hy
  obtain ⟨x, hx⟩ : ∃ x, mx (y - cut a) 0 = x := ⟨_, rfl⟩
  have e : need a b c = x := by unfold need; rw [hy, hx]
  have hy_ : (if cut b - cut c < 0 then 0 else cut b - cut c) = y := hy'
  have hx_ : (if y - cut a < 0 then 0 else y - cut a) = x := hx
  rw [e]
  rw [hy] at b0 c0
  clear e hx hy hy'
  go_enter Try.func20, Try.ntmps20
  go_wp2_with (go_at_call 27; refine (refcut_q _ _).mono ?_; rintro e w1 ⟨rfl, rfl⟩)
  go_ret
  exact ⟨rfl, rfl⟩
theorem q22 (a b c : Int) (w : World) : Calls Try.prog 22 #[.int .i64 a, .int .i64 b, .int .i64 c] w fun e w' => e = .returned (.int .i64 (spare a b c)) ∧ w' = w := by
  obtain ⟨b0, c0⟩ := least_bounds b c
  obtain ⟨b1, c1⟩ := cut_bounds a
  obtain ⟨b2, c2⟩ := cut_bounds b
  obtain ⟨b3, c3⟩ := cut_bounds c
  obtain ⟨y, hy⟩ : ∃ y, least b c = y := ⟨_, rfl⟩
  have hy' : mx (cut b - cut c) 0 = y := hy
  obtain ⟨x, hx⟩ : ∃ x, mx (cut a - y) 0 = x := ⟨_, rfl⟩
  have e : spare a b c = x := by unfold spare; rw [hy, hx]
  have hy_ : (if cut b - cut c < 0 then 0 else cut b - cut c) = y := hy'
  have hx_ : (if cut a - y < 0 then 0 else cut a - y) = x := hx
  rw [e]
  rw [hy] at b0 c0
  clear e hx hy hy'
  go_enter Try.func22, Try.ntmps22
  go_wp2_with (go_at_call 27; refine (refcut_q _ _).mono ?_; rintro e w1 ⟨rfl, rfl⟩)
  go_ret
  exact ⟨rfl, rfl⟩
theorem refperc_q (p n : Int) (up : Bool) (w : World) : Calls Try.prog 19 #[.int .i64 p, .int .i64 n, .bool up] w fun e w' => e = .returned (.int .i64 (perc p n up)) ∧ w' = w := by
  have hp := clip_bounds p
  have hn := cut_bounds n
  have hb := prod_bounds _ _ hp.1 hp.2 hn.1 hn.2
  obtain ⟨x, hx⟩ : ∃ x, mx p 0 = x := ⟨_, rfl⟩
  obtain ⟨y, hy⟩ : ∃ y, mn x 100 = y := ⟨_, rfl⟩
  have e : clip p = y := by unfold clip; rw [hx, hy]
  have hx_ : (if p < 0 then 0 else p) = x := hx
  have hy_ : (if 100 < x then 100 else x) = y := hy
  unfold perc
  rw [e] at hb ⊢
  clear e hx hy
  obtain ⟨b1, _, b2⟩ := hb
  cases up with
  | true =>
    by_cases hz : (y * cut n) % 100 > 0
    · have e2 : (y * cut n + 99) / 100 = y * cut n / 100 + 1 := by omega
      have hz' : decide (0 < y * cut n % 100) = true := decide_eq_true hz
      rw [if_pos rfl, e2]
      clear e2
      go_enter Try.func19, Try.ntmps19
      go_wp2_with (go_at_call 27; refine (refcut_q _ _).mono ?_; rintro e w1 ⟨rfl, rfl⟩)
      go_ret
      exact ⟨rfl, rfl⟩
    · have e2 : (y * cut n + 99) / 100 = y * cut n / 100 := by omega
      have hz' : decide (0 < y * cut n % 100) = false := decide_eq_false hz
      rw [if_pos rfl, e2]
      clear e2
      go_enter Try.func19, Try.ntmps19
      go_wp2_with (go_at_call 27; refine (refcut_q _ _).mono ?_; rintro e w1 ⟨rfl, rfl⟩)
      go_ret
      exact ⟨rfl, rfl⟩
  | false =>
    go_enter Try.func19, Try.ntmps19
    go_wp2_with (go_at_call 27; refine (refcut_q _ _).mono ?_; rintro e w1 ⟨rfl, rfl⟩)
    go_ret
    exact ⟨rfl, rfl⟩

set_option maxHeartbeats 1000000 in
theorem walk (a b c : Int) (up : Bool) (w : World) : Calls Try.prog 7 #[.agg #[.int .i64 a, .int .i64 b, .int .i64 c], .bool up] w fun e w' => e = .returned (.bool true) ∧ Below w.heap.size w w' := by
  have HB := Aside0.mk (Below.refl w.heap.size w)
  go_enter Try.func7, Try.ntmps7
  go_wp2_with (go_at_call 10; refine (lives_any _).mono ?_; rintro e w1 ⟨rfl, hb⟩; have n0_ := Aside0.mk (below_step (by repeat (first | exact HB.out | apply below_alloc | apply pw_below_drewN | apply below_drew1)) hb); have cc := hb.cell (p := ⟨w.heap.size, 0, none⟩) (by simp); have cc1 := hb.cell (p := ⟨w.heap.size, 1, none⟩) (by simp); have cc2 := hb.cell (p := ⟨w.heap.size, 2, none⟩) (by simp); simp [go_sem] at cc cc1 cc2; clear HB hb; have HB := n0_; clear n0_)
  go_quiet ((first | (go_at_call 15; exact Calls.quiet_of_same (perc_q _ _ _ _)) | (go_at_call 19; exact Calls.quiet_of_same (refperc_q _ _ _ _)) | (go_at_call 16; exact Calls.quiet_of_same (q16 _ _ _ _)) | (go_at_call 17; exact Calls.quiet_of_same (q17 _ _ _ _)) | (go_at_call 18; exact Calls.quiet_of_same (q18 _ _ _ _)) | (go_at_call 20; exact Calls.quiet_of_same (q20 _ _ _ _)) | (go_at_call 21; exact Calls.quiet_of_same (q21 _ _ _ _)) | (go_at_call 22; exact Calls.quiet_of_same (q22 _ _ _ _))))
  go_wp2
  go_ret
  exact ⟨rfl, by repeat (first | exact HB.out | apply below_alloc | apply pw_below_drewN | apply below_drew1)⟩
end Go.Proofs.Ytldanidookkmaaa.WalkNumBudgets
