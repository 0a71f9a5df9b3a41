/-
  Proved here: what plan.isThere, isUp, isOld, isNew, the closure that counts, and plan.of answer. No condition.
-/
import Derived.Test.YtloljhopccpeeaaPl
import Derived.Test.YtloljhopccpeeaaB1
import Derived.Deep.DeepCutAuto
import Derived.Deep.CutBlock
namespace Go.Proofs.Ytloljhopccpeeaa.Q1
open Go.RowKit Go.Sort Go.Proofs.Ytloljhopccpeeaa.B0 Go.Proofs.Ytloljhopccpeeaa.Pl Go.Proofs.YtloljhopccpeeaaW.PrintWords Go.Proofs.YtloljhopccpeeaaW.PrintLast Go.Proofs.YtloljhopccpeeaaW.PrintMore
open PPlanEnds (S35 z35 k35 k35_open rd_T35 at_T35 info35)
set_option linter.unusedVariables false
set_option linter.unusedSimpArgs false
attribute [local go_sem] max2_int min2_int max_two min_two

set_option maxHeartbeats 2000000 in
theorem there_q (v s : Int) (b : Bool) (w : World) : Calls Try.prog 24 #[.agg #[.int .i64 v, .int .i64 s, .bool b]] w fun e w' => e = .returned (.bool (isThere ⟨v, s, b⟩)) ∧ Below w.heap.size w w' := by
  cases h0 : decide (0 < v)
  · skip
    have HB := Aside0.mk (Below.refl w.heap.size w)
    go_enter Try.func24, Try.ntmps24
    go_wp2
    go_ret
    exact ⟨ret_bool (by unfold isThere; simp [h0]), by repeat (first | (with_reducible first | exact HB.out | apply below_alloc | apply pw_below_drewN | apply below_drew1) | refine below_set ?_ (by omega))⟩
  · skip
    have HB := Aside0.mk (Below.refl w.heap.size w)
    go_enter Try.func24, Try.ntmps24
    go_wp2
    go_ret
    exact ⟨ret_bool (by unfold isThere; simp [h0]), by repeat (first | (with_reducible first | exact HB.out | apply below_alloc | apply pw_below_drewN | apply below_drew1) | refine below_set ?_ (by omega))⟩

set_option maxHeartbeats 2000000 in
theorem up_q (v s : Int) (b : Bool) (w : World) : Calls Try.prog 34 #[.agg #[.int .i64 v, .int .i64 s, .bool b]] w fun e w' => e = .returned (.bool (isUp ⟨v, s, b⟩)) ∧ Below w.heap.size w w' := by
  cases h0 : decide (0 < v)
  · skip
    have HB := Aside0.mk (Below.refl w.heap.size w)
    go_enter Try.func34, Try.ntmps34
    go_wp2
    go_ret
    exact ⟨ret_bool (by unfold isUp; simp [h0]), by repeat (first | (with_reducible first | exact HB.out | apply below_alloc | apply pw_below_drewN | apply below_drew1) | refine below_set ?_ (by omega))⟩
  · skip
    have HB := Aside0.mk (Below.refl w.heap.size w)
    go_enter Try.func34, Try.ntmps34
    go_wp2
    go_ret
    exact ⟨ret_bool (by unfold isUp; simp [h0]), by repeat (first | (with_reducible first | exact HB.out | apply below_alloc | apply pw_below_drewN | apply below_drew1) | refine below_set ?_ (by omega))⟩

set_option maxHeartbeats 2000000 in
theorem old_q (nw t d lo hi : Int) (bl : Bool) (sv : Value) (c0 c1 c2 c3 c4 : Int) (v s : Int) (b : Bool) (w : World) : Calls Try.prog 26 #[.agg #[.int .i64 nw, .int .i64 t, .int .i64 d, .int .i64 lo, .int .i64 hi, .bool bl, sv, .int .i64 c0, .int .i64 c1, .int .i64 c2, .int .i64 c3, .int .i64 c4], .agg #[.int .i64 v, .int .i64 s, .bool b]] w fun e w' => e = .returned (.bool (isOld ⟨nw, t, d, lo, hi, bl⟩ ⟨v, s, b⟩)) ∧ Below w.heap.size w w' := by
  cases h0 : decide (0 < v)
  · skip
    cases h1 : (v == nw)
    · skip
      have HB := Aside0.mk (Below.refl w.heap.size w)
      go_enter Try.func26, Try.ntmps26
      go_wp2
      go_ret
      exact ⟨ret_bool (by unfold isOld; simp [h0, h1]), by repeat (first | (with_reducible first | exact HB.out | apply below_alloc | apply pw_below_drewN | apply below_drew1) | refine below_set ?_ (by omega))⟩
    · skip
      have HB := Aside0.mk (Below.refl w.heap.size w)
      go_enter Try.func26, Try.ntmps26
      go_wp2
      go_ret
      exact ⟨ret_bool (by unfold isOld; simp [h0, h1]), by repeat (first | (with_reducible first | exact HB.out | apply below_alloc | apply pw_below_drewN | apply below_drew1) | refine below_set ?_ (by omega))⟩
  · skip
    cases h1 : (v == nw)
    · skip
      have HB := Aside0.mk (Below.refl w.heap.size w)
      go_enter Try.func26, Try.ntmps26
      go_wp2
      go_ret
      exact ⟨ret_bool (by unfold isOld; simp [h0, h1]), by repeat (first | (with_reducible first | exact HB.out | apply below_alloc | apply pw_below_drewN | apply below_drew1) | refine below_set ?_ (by omega))⟩
    · skip
      have HB := Aside0.mk (Below.refl w.heap.size w)
      go_enter Try.func26, Try.ntmps26
      go_wp2
      go_ret
      exact ⟨ret_bool (by unfold isOld; simp [h0, h1]), by repeat (first | (with_reducible first | exact HB.out | apply below_alloc | apply pw_below_drewN | apply below_drew1) | refine below_set ?_ (by omega))⟩

set_option maxHeartbeats 2000000 in
theorem new_q (nw t d lo hi : Int) (bl : Bool) (sv : Value) (c0 c1 c2 c3 c4 : Int) (v s : Int) (b : Bool) (w : World) : Calls Try.prog 27 #[.agg #[.int .i64 nw, .int .i64 t, .int .i64 d, .int .i64 lo, .int .i64 hi, .bool bl, sv, .int .i64 c0, .int .i64 c1, .int .i64 c2, .int .i64 c3, .int .i64 c4], .agg #[.int .i64 v, .int .i64 s, .bool b]] w fun e w' => e = .returned (.bool (isNew ⟨nw, t, d, lo, hi, bl⟩ ⟨v, s, b⟩)) ∧ Below w.heap.size w w' := by
  cases h0 : decide (0 < v)
  · skip
    cases h1 : (v == nw)
    · skip
      have HB := Aside0.mk (Below.refl w.heap.size w)
      go_enter Try.func27, Try.ntmps27
      go_wp2
      go_ret
      exact ⟨ret_bool (by unfold isNew; simp [h0, h1]), by repeat (first | (with_reducible first | exact HB.out | apply below_alloc | apply pw_below_drewN | apply below_drew1) | refine below_set ?_ (by omega))⟩
    · skip
      have HB := Aside0.mk (Below.refl w.heap.size w)
      go_enter Try.func27, Try.ntmps27
      go_wp2
      go_ret
      exact ⟨ret_bool (by unfold isNew; simp [h0, h1]), by repeat (first | (with_reducible first | exact HB.out | apply below_alloc | apply pw_below_drewN | apply below_drew1) | refine below_set ?_ (by omega))⟩
  · skip
    cases h1 : (v == nw)
    · skip
      have HB := Aside0.mk (Below.refl w.heap.size w)
      go_enter Try.func27, Try.ntmps27
      go_wp2
      go_ret
      exact ⟨ret_bool (by unfold isNew; simp [h0, h1]), by repeat (first | (with_reducible first | exact HB.out | apply below_alloc | apply pw_below_drewN | apply below_drew1) | refine below_set ?_ (by omega))⟩
    · skip
      have HB := Aside0.mk (Below.refl w.heap.size w)
      go_enter Try.func27, Try.ntmps27
      go_wp2
      go_ret
      exact ⟨ret_bool (by unfold isNew; simp [h0, h1]), by repeat (first | (with_reducible first | exact HB.out | apply below_alloc | apply pw_below_drewN | apply below_drew1) | refine below_set ?_ (by omega))⟩

def b1 (b : Bool) : Int := if b = true then 1 else 0
theorem set_same {cs : Array Value} {j : Nat} {x : Value} (h : cs[j]? = some x) : cs.setIfInBounds j x = cs := by
  apply Array.ext_getElem?
  intro i
  rw [Array.getElem?_setIfInBounds]
  split
  · rename_i e
    subst e
    rw [h]
    split
    · rfl
    · rename_i hlt
      rw [Array.getElem?_eq_none (by omega)] at h
      cases h
  · rfl
theorem one_q (g j : Nat) (cs : Array Value) (n : Int) (b : Bool) (w : World) (hT : IsBlk w g cs 51) (hj : cs[j]? = some (.int .i64 n)) (hn : 0 ≤ n) (hn1 : n ≤ 1000) {w0 : World} (hB : Below w0.heap.size w0 w) (hg : w0.heap.size ≤ g) :
    Calls Try.prog 33 #[.pointer (some ⟨g, j, none⟩), .bool b] w fun e w' => ∃ v, e = .returned v ∧ IsBlk w' g (cs.setIfInBounds j (.int .i64 (n + b1 b))) 51 ∧ (∀ k, k ≠ g → w'.heap[k]? = w.heap[k]?) ∧ Below w0.heap.size w0 w' := by
  have c0 := blk_cell hT j
  rw [hj] at c0
  have z0 := blk_frozen hT j
  have HT := Aside0.mk hT
  have HB := Aside0.mk hB
  have HJ := Aside0.mk hj
  clear hT hB hj
  cases b with
  | true =>
    go_enter Try.func33, Try.ntmps33
    go_wp2
    exact bodyPost_end (v := .tuple #[]) (by simp [results, Try.results33, go_sem]) rfl ⟨_, rfl, blk_set HT.out j _, fun k hk => Below.heap_setCell w ⟨g, j, none⟩ _ k hk, below_set HB.out hg⟩
  | false =>
    go_enter Try.func33, Try.ntmps33
    go_wp2
    refine bodyPost_end (v := .tuple #[]) (by simp [results, Try.results33, go_sem]) rfl ⟨_, rfl, ?_, fun _ _ => rfl, HB.out⟩
    rw [show n + b1 false = n by unfold b1; simp, set_same HJ.out]
    exact HT.out

theorem C_at {w : World} {A : Option Addr} {n : Nat} {xs : List S35} (hC : Kd.C k35 w A n xs) (k : Nat) (hk : k < n) :
    ∃ (rb ro : Nat) (v s : Int) (b : Bool), A = some ⟨rb, ro, none⟩ ∧ rb < w.heap.size ∧ at_ xs k = ⟨v, s, b⟩ ∧ w.cell? ⟨rb, ro + k * 3, none⟩ = some (.int .i64 v) ∧ w.cell? ⟨rb, ro + k * 3 + 1, none⟩ = some (.int .i64 s) ∧ w.cell? ⟨rb, ro + k * 3 + 2, none⟩ = some (.bool b) := by
  obtain ⟨ad0, cs0, e_, hl0, hK0, hcell0⟩ := Kd.C_get hC z35 0 (by omega) (by omega)
  obtain rfl := k35_open hK0
  have g0 := hcell0 0 _ rfl
  have hsz : k35.sz = 3 := rfl
  rw [show Int.toNat 0 * k35.sz + 0 = 0 from rfl, show ad0.add 0 = ad0 from rfl] at g0
  have hsp := World.cell?_spot g0
  obtain ⟨ad, cs, e2_, hl, hK, hcell⟩ := Kd.C_get hC z35 (k : Int) (by omega) (by omega)
  obtain rfl : ad0 = ad := by rw [e_] at e2_; exact Option.some.inj e2_
  subst e_
  obtain rfl := k35_open hK
  have e0 := hcell 0 _ rfl
  have e1 := hcell 1 _ rfl
  have e2 := hcell 2 _ rfl
  rw [hsz] at e0 e1 e2
  obtain ⟨rb, ro, sp⟩ := ad0
  dsimp only at hsp
  subst hsp
  have hadd : ∀ j, (⟨rb, ro, none⟩ : Addr).add j = ⟨rb, ro + j, none⟩ := fun j => by unfold Addr.add; split <;> simp_all
  simp only [hadd, Int.toNat_natCast, Nat.add_zero, ← Nat.add_assoc] at e0 e1 e2
  exact ⟨rb, ro, _, _, _, rfl, World.block_lt_of_cell? w _ e0, rfl, e0, e1, e2⟩
theorem cnt_snoc (p : S35 → Bool) (l : List S35) (k : Nat) (hk : k < l.length) : cnt p (l.take (k + 1)) = cnt p (l.take k) + b1 (p (at_ l k)) := by
  unfold cnt b1
  rw [List.take_succ_eq_append_getElem hk, List.countP_append, at_get hk]
  simp only [List.countP_cons, List.countP_nil]
  split <;> simp_all

theorem cell_keep {W w1 : World} {b i : Nat} {v : Value} (hb : Below W.heap.size W w1) (h : W.cell? ⟨b, i, none⟩ = some v) : w1.cell? ⟨b, i, none⟩ = some v :=
  (hb.cell (p := ⟨b, i, none⟩) (World.block_lt_of_cell? W _ h)).trans h
set_option maxRecDepth 100000 in
set_option maxHeartbeats 4000000 in
theorem of_q (nw t d lo hi : Int) (bl : Bool) (A : Option Addr) (c : Nat) (l : List S35) (w : World) (hr : Kd.C k35 w A l.length l) (hc : l.length ≤ c) (h16 : l.length ≤ 16) :
    Calls Try.prog 21 #[.agg #[.int .i64 nw, .int .i64 t, .int .i64 d, .int .i64 lo, .int .i64 hi, .bool bl], .slice A l.length c] w fun e w' => e = .returned (.agg #[.int .i64 nw, .int .i64 t, .int .i64 d, .int .i64 lo, .int .i64 hi, .bool bl, (.slice A l.length c), .int .i64 (cnt (isNew ⟨nw, t, d, lo, hi, bl⟩) l), .int .i64 (cnt (isOld ⟨nw, t, d, lo, hi, bl⟩) l), .int .i64 (cnt isThere l), .int .i64 (cnt isUp l), .int .i64 (cnt (newUp ⟨nw, t, d, lo, hi, bl⟩) l)]) ∧ Below w.heap.size w w' := by
  have HB := Aside0.mk (Below.refl w.heap.size w)
  have HR := Aside0.mk hr
  clear hr
  have hm : (l.length : Int) ≤ 16 := by omega
  have hc' : (l.length : Int) ≤ (c : Int) := by omega
  have hif : (if (16 : Int) < (l.length : Int) then (16 : Int) else (l.length : Int)) = (l.length : Int) := if_neg (by omega)
  go_enter Try.func21, Try.ntmps21
  go_wp2_with fail
  have D : IsBlk ((w.alloc (.cells #[.int .i64 nw, .int .i64 t, .int .i64 d, .int .i64 lo, .int .i64 hi, .bool bl] 29)).alloc (.cells #[.int .i64 0, .int .i64 0, .int .i64 0, .int .i64 0, .int .i64 0, .bool false, .slice none 0 0, .int .i64 0, .int .i64 0, .int .i64 0, .int .i64 0, .int .i64 0] 51)) w.heap.size #[.int .i64 nw, .int .i64 t, .int .i64 d, .int .i64 lo, .int .i64 hi, .bool bl] 29 := (IsBlk.new _ _ rfl).alloc _
  have D_0 := blk_cell D 0
  have D_1 := blk_cell D 1
  have D_2 := blk_cell D 2
  have D_3 := blk_cell D 3
  have D_4 := blk_cell D 4
  have D_5 := blk_cell D 5
  simp only [List.getElem?_toArray, List.getElem?_cons_zero, List.getElem?_cons_succ] at D_0 D_1 D_2 D_3 D_4 D_5
  have D_l := blk_lt D
  have HD := Aside0.mk D
  clear D
  refine start_ (n := 9) (S := fun w' => w'.cell? ⟨w.heap.size, 0, none⟩ = some (.int .i64 nw) ∧ w'.cell? ⟨w.heap.size, 1, none⟩ = some (.int .i64 t) ∧ w'.cell? ⟨w.heap.size, 2, none⟩ = some (.int .i64 d) ∧ w'.cell? ⟨w.heap.size, 3, none⟩ = some (.int .i64 lo) ∧ w'.cell? ⟨w.heap.size, 4, none⟩ = some (.int .i64 hi) ∧ w'.cell? ⟨w.heap.size, 5, none⟩ = some (.bool bl)) (ds := [8]) #[false, false, false, false, false, false, false, false, false] (by kernel_rfl) rfl rfl ⟨D_0, D_1, D_2, D_3, D_4, D_5⟩ (fun hHeld => ?_)
  refine pure_ (i := 1) (N := some 10) (v := ?_) (a' := ?_) #[false, true, false, false, false, false, false, false, false] rfl rfl (by kernel_rfl) (fun _ _ _ h => h) (Or.inl ⟨by rfl, ?_⟩) ?_ ?_
  rotate_left
  · intro w'
    go_simp
    with_reducible rfl
  rotate_left
  · simp only [Act.put, List.setIfInBounds_toArray, List.set_cons_zero, List.set_cons_succ, i64_w, i32_w]
    rfl
  refine pure_ (i := 2) (N := some 11) (v := ?_) (a' := ?_) #[false, true, true, false, false, false, false, false, false] rfl rfl (by kernel_rfl) (fun _ _ _ h => h) (Or.inl ⟨by rfl, ?_⟩) ?_ ?_
  rotate_left
  · intro w'
    go_simp
    with_reducible rfl
  rotate_left
  · simp only [Act.put, List.setIfInBounds_toArray, List.set_cons_zero, List.set_cons_succ, i64_w, i32_w]
    rfl
  refine pure_ (i := 3) (N := some 12) (v := ?_) (a' := ?_) #[false, true, true, true, false, false, false, false, false] rfl rfl (by kernel_rfl) (fun _ _ _ h => h) (Or.inl ⟨by rfl, ?_⟩) ?_ ?_
  rotate_left
  · intro w'
    go_simp
    with_reducible rfl
  rotate_left
  · simp only [Act.put, List.setIfInBounds_toArray, List.set_cons_zero, List.set_cons_succ, i64_w, i32_w]
    rfl
  refine pure_ (i := 4) (N := some 13) (v := ?_) (a' := ?_) #[false, true, true, true, true, false, false, false, false] rfl rfl (by kernel_rfl) (fun _ _ _ h => h) (Or.inl ⟨by rfl, ?_⟩) ?_ ?_
  rotate_left
  · intro w'
    go_simp
    with_reducible rfl
  rotate_left
  · simp only [Act.put, List.setIfInBounds_toArray, List.set_cons_zero, List.set_cons_succ, i64_w, i32_w]
    rfl
  refine pure_ (i := 5) (N := some 14) (v := ?_) (a' := ?_) #[false, true, true, true, true, true, false, false, false] rfl rfl (by kernel_rfl) (fun _ _ _ h => h) (Or.inl ⟨by rfl, ?_⟩) ?_ ?_
  rotate_left
  · intro w'
    go_simp
    with_reducible rfl
  rotate_left
  · simp only [Act.put, List.setIfInBounds_toArray, List.set_cons_zero, List.set_cons_succ, i64_w, i32_w]
    rfl
  refine take_ (i := 0) (N := some 9) (v := ?_) (a' := ?_) #[true, true, true, true, true, true, false, false, false] rfl rfl (by kernel_rfl) (fun _ _ _ h => h) (Or.inl ⟨by rfl, ?_⟩) hHeld ?_ ?_
  rotate_left
  · rintro w' ⟨s0, s1, s2, s3, s4, s5⟩
    go_simp
    with_reducible rfl
  rotate_left
  · simp only [Act.put, List.setIfInBounds_toArray, List.set_cons_zero, List.set_cons_succ, i64_w, i32_w]
    rfl
  refine pure_ (i := 6) (N := some 15) (v := ?_) (a' := ?_) #[true, true, true, true, true, true, true, false, false] rfl rfl (by kernel_rfl) (fun _ _ _ h => h) (Or.inl ⟨by rfl, ?_⟩) ?_ ?_
  rotate_left
  · intro w'
    go_simp
    with_reducible rfl
  rotate_left
  · simp only [Act.put, List.setIfInBounds_toArray, List.set_cons_zero, List.set_cons_succ, i64_w, i32_w]
    rfl
  refine one_ (i := 7) (N := some 5) #[true, true, true, true, true, true, true, true, false] rfl rfl (by kernel_rfl) (by decide) (fun K hK => ?_)
  refine value_ (w1 := ?_) (v := ?_) (by rfl) rfl ?_ ?_
  rotate_left 2
  · go_simp
    constructor
    · rfl
    · rfl
  refine hK.out _ _ ⟨cell_keep (below_alloc (Below.refl _ _) _) hHeld.1, cell_keep (below_alloc (Below.refl _ _) _) hHeld.2.1, cell_keep (below_alloc (Below.refl _ _) _) hHeld.2.2.1, cell_keep (below_alloc (Below.refl _ _) _) hHeld.2.2.2.1, cell_keep (below_alloc (Below.refl _ _) _) hHeld.2.2.2.2.1, cell_keep (below_alloc (Below.refl _ _) _) hHeld.2.2.2.2.2⟩ (fun hHeld => ?_)
  clear hK K
  refine norm_ (a' := ?_) ?_ ?_
  rotate_left
  · show Act.put _ (some 5) _ = _
    simp only [Act.put, List.setIfInBounds_toArray, List.set_cons_zero, List.set_cons_succ, i64_w, i32_w]
    rfl
  refine last_ (i := 8) (N := none) #[true, true, true, true, true, true, true, true, true] rfl rfl (by kernel_rfl) (by decide) (fun K hK => ?_)
  refine skip_ (w1 := ?_) (by rfl) rfl ?_ ?_
  rotate_left
  · go_simp
    rfl
  refine hK.out _ _ ?_
  clear hK K
  refine done_ (by kernel_rfl) ?_
  clear D_0 D_1 D_2 D_3 D_4 D_5 D_l HD
  have T0 : IsBlk ((((w.alloc (.cells #[.int .i64 nw, .int .i64 t, .int .i64 d, .int .i64 lo, .int .i64 hi, .bool bl] 29)).alloc (.cells #[.int .i64 0, .int .i64 0, .int .i64 0, .int .i64 0, .int .i64 0, .bool false, .slice none 0 0, .int .i64 0, .int .i64 0, .int .i64 0, .int .i64 0, .int .i64 0] 51)).alloc (.cells #[.int .i64 nw, .int .i64 t, .int .i64 d, .int .i64 lo, .int .i64 hi, .bool bl, (.slice A l.length c), .int .i64 0, .int .i64 0, .int .i64 0, .int .i64 0, .int .i64 0] 51)).drew) (w.heap.size + 1 + 1) #[.int .i64 nw, .int .i64 t, .int .i64 d, .int .i64 lo, .int .i64 hi, .bool bl, (.slice A l.length c), .int .i64 0, .int .i64 0, .int .i64 0, .int .i64 0, .int .i64 0] 51 := (IsBlk.new _ _ (by simp)).drew
  have R0 : IsBlk ((((w.alloc (.cells #[.int .i64 nw, .int .i64 t, .int .i64 d, .int .i64 lo, .int .i64 hi, .bool bl] 29)).alloc (.cells #[.int .i64 0, .int .i64 0, .int .i64 0, .int .i64 0, .int .i64 0, .bool false, .slice none 0 0, .int .i64 0, .int .i64 0, .int .i64 0, .int .i64 0, .int .i64 0] 51)).alloc (.cells #[.int .i64 nw, .int .i64 t, .int .i64 d, .int .i64 lo, .int .i64 hi, .bool bl, (.slice A l.length c), .int .i64 0, .int .i64 0, .int .i64 0, .int .i64 0, .int .i64 0] 51)).drew) (w.heap.size + 1) #[.int .i64 0, .int .i64 0, .int .i64 0, .int .i64 0, .int .i64 0, .bool false, .slice none 0 0, .int .i64 0, .int .i64 0, .int .i64 0, .int .i64 0, .int .i64 0] 51 := ((IsBlk.new _ _ (by simp)).alloc _).drew
  have n0 : Below w.heap.size w ((((w.alloc (.cells #[.int .i64 nw, .int .i64 t, .int .i64 d, .int .i64 lo, .int .i64 hi, .bool bl] 29)).alloc (.cells #[.int .i64 0, .int .i64 0, .int .i64 0, .int .i64 0, .int .i64 0, .bool false, .slice none 0 0, .int .i64 0, .int .i64 0, .int .i64 0, .int .i64 0, .int .i64 0] 51)).alloc (.cells #[.int .i64 nw, .int .i64 t, .int .i64 d, .int .i64 lo, .int .i64 hi, .bool bl, (.slice A l.length c), .int .i64 0, .int .i64 0, .int .i64 0, .int .i64 0, .int .i64 0] 51)).drew) := (by repeat (first | (with_reducible first | exact HB.out | apply below_alloc | apply pw_below_drewN | apply below_drew1) | refine below_set ?_ (by omega)))
  have hgT : w.heap.size ≤ w.heap.size + 1 + 1 := by omega
  have hgR : w.heap.size + 1 ≠ w.heap.size + 1 + 1 := by omega
  generalize (((w.alloc (.cells #[.int .i64 nw, .int .i64 t, .int .i64 d, .int .i64 lo, .int .i64 hi, .bool bl] 29)).alloc (.cells #[.int .i64 0, .int .i64 0, .int .i64 0, .int .i64 0, .int .i64 0, .bool false, .slice none 0 0, .int .i64 0, .int .i64 0, .int .i64 0, .int .i64 0, .int .i64 0] 51)).alloc (.cells #[.int .i64 nw, .int .i64 t, .int .i64 d, .int .i64 lo, .int .i64 hi, .bool bl, (.slice A l.length c), .int .i64 0, .int .i64 0, .int .i64 0, .int .i64 0, .int .i64 0] 51)).drew = w1 at *
  clear HB
  have HB := Aside0.mk n0
  clear n0
  obtain ⟨gT, hgt⟩ : ∃ g, w.heap.size + 1 + 1 = g := ⟨_, rfl⟩
  rw [hgt] at T0 hgT hgR ⊢
  have T := T0
  have HR0 := Aside0.mk R0
  clear T0 R0 hgt
  have T_0 := blk_cell T 0
  have T_1 := blk_cell T 1
  have T_2 := blk_cell T 2
  have T_3 := blk_cell T 3
  have T_4 := blk_cell T 4
  have T_5 := blk_cell T 5
  have T_6 := blk_cell T 6
  have T_7 := blk_cell T 7
  have T_8 := blk_cell T 8
  have T_9 := blk_cell T 9
  have T_10 := blk_cell T 10
  have T_11 := blk_cell T 11
  simp only [List.getElem?_toArray, List.getElem?_cons_zero, List.getElem?_cons_succ] at T_0 T_1 T_2 T_3 T_4 T_5 T_6 T_7 T_8 T_9 T_10 T_11
  have T_l := blk_lt T
  have HT := Aside0.mk T
  clear T
  go_wp2_with fail
  go_loopw [19] (fun v19 wr => ∃ k : Nat, v19 = .int .i64 k ∧ k ≤ l.length ∧ Aside0 (IsBlk wr gT #[.int .i64 nw, .int .i64 t, .int .i64 d, .int .i64 lo, .int .i64 hi, .bool bl, (.slice A l.length c), .int .i64 (cnt (isNew ⟨nw, t, d, lo, hi, bl⟩) (l.take k)), .int .i64 (cnt (isOld ⟨nw, t, d, lo, hi, bl⟩) (l.take k)), .int .i64 (cnt isThere (l.take k)), .int .i64 (cnt isUp (l.take k)), .int .i64 (cnt (newUp ⟨nw, t, d, lo, hi, bl⟩) (l.take k))] 51) ∧ Aside0 (IsBlk wr (w.heap.size + 1) #[.int .i64 0, .int .i64 0, .int .i64 0, .int .i64 0, .int .i64 0, .bool false, .slice none 0 0, .int .i64 0, .int .i64 0, .int .i64 0, .int .i64 0, .int .i64 0] 51) ∧ Aside0 (Below w.heap.size w wr)) (fun v19 _ => l.length - (intOf v19).toNat)
  case atStart => exact ⟨0, rfl, by omega, HT, HR0, HB⟩
  case round =>
    clear T_0 T_1 T_2 T_3 T_4 T_5 T_6 T_7 T_8 T_9 T_10 T_11 T_l HT
    clear HR0 HB
    obtain ⟨k, rfl, hk, HT, HR0, HB⟩ := hrel
    obtain ⟨wq, hwq⟩ : ∃ x, x = wr := ⟨_, rfl⟩
    subst hwq
    by_cases hlt : k < l.length
    · have hd : decide ((k : Int) < (l.length : Int)) = true := by simp; omega
      have hki : (k : Int) < (l.length : Int) := by omega
      obtain ⟨rb, ro, v, s, b, rfl, hrb, hat, u0, u1, u2⟩ := C_at (Kd.C_below HR.out HB.out) k hlt
      obtain ⟨n0, e0⟩ : ∃ n, (cnt (isNew ⟨nw, t, d, lo, hi, bl⟩) (l.take k)) = n := ⟨_, rfl⟩
      obtain ⟨n1, e1⟩ : ∃ n, (cnt (isOld ⟨nw, t, d, lo, hi, bl⟩) (l.take k)) = n := ⟨_, rfl⟩
      obtain ⟨n2, e2⟩ : ∃ n, (cnt isThere (l.take k)) = n := ⟨_, rfl⟩
      obtain ⟨n3, e3⟩ : ∃ n, (cnt isUp (l.take k)) = n := ⟨_, rfl⟩
      obtain ⟨n4, e4⟩ : ∃ n, (cnt (newUp ⟨nw, t, d, lo, hi, bl⟩) (l.take k)) = n := ⟨_, rfl⟩
      have bd0 : 0 ≤ n0 ∧ n0 ≤ 16 := by have h1 := cnt_bound (isNew ⟨nw, t, d, lo, hi, bl⟩) (l.take k); have h2 := List.length_take_le k l; omega
      have bd1 : 0 ≤ n1 ∧ n1 ≤ 16 := by have h1 := cnt_bound (isOld ⟨nw, t, d, lo, hi, bl⟩) (l.take k); have h2 := List.length_take_le k l; omega
      have bd2 : 0 ≤ n2 ∧ n2 ≤ 16 := by have h1 := cnt_bound isThere (l.take k); have h2 := List.length_take_le k l; omega
      have bd3 : 0 ≤ n3 ∧ n3 ≤ 16 := by have h1 := cnt_bound isUp (l.take k); have h2 := List.length_take_le k l; omega
      have bd4 : 0 ≤ n4 ∧ n4 ≤ 16 := by have h1 := cnt_bound (newUp ⟨nw, t, d, lo, hi, bl⟩) (l.take k); have h2 := List.length_take_le k l; omega
      rw [e0, e1, e2, e3, e4] at HT
      have E0 := Aside0.mk (show (cnt (isNew ⟨nw, t, d, lo, hi, bl⟩) (l.take (k + 1))) = n0 + b1 ((isNew ⟨nw, t, d, lo, hi, bl⟩) ⟨v, s, b⟩) by rw [cnt_snoc _ _ _ hlt, e0, hat])
      have E1 := Aside0.mk (show (cnt (isOld ⟨nw, t, d, lo, hi, bl⟩) (l.take (k + 1))) = n1 + b1 ((isOld ⟨nw, t, d, lo, hi, bl⟩) ⟨v, s, b⟩) by rw [cnt_snoc _ _ _ hlt, e1, hat])
      have E2 := Aside0.mk (show (cnt isThere (l.take (k + 1))) = n2 + b1 (isThere ⟨v, s, b⟩) by rw [cnt_snoc _ _ _ hlt, e2, hat])
      have E3 := Aside0.mk (show (cnt isUp (l.take (k + 1))) = n3 + b1 (isUp ⟨v, s, b⟩) by rw [cnt_snoc _ _ _ hlt, e3, hat])
      have E4 := Aside0.mk (show (cnt (newUp ⟨nw, t, d, lo, hi, bl⟩) (l.take (k + 1))) = n4 + b1 ((newUp ⟨nw, t, d, lo, hi, bl⟩) ⟨v, s, b⟩) by rw [cnt_snoc _ _ _ hlt, e4, hat])
      clear e0 e1 e2 e3 e4
      have HK := Aside0.mk hat
      clear hat hlt
      have T := HT.out
      clear HT
      have T_0 := blk_cell T 0
      have T_1 := blk_cell T 1
      have T_2 := blk_cell T 2
      have T_3 := blk_cell T 3
      have T_4 := blk_cell T 4
      have T_5 := blk_cell T 5
      have T_6 := blk_cell T 6
      have T_7 := blk_cell T 7
      have T_8 := blk_cell T 8
      have T_9 := blk_cell T 9
      have T_10 := blk_cell T 10
      have T_11 := blk_cell T 11
      simp only [List.getElem?_toArray, List.getElem?_cons_zero, List.getElem?_cons_succ] at T_0 T_1 T_2 T_3 T_4 T_5 T_6 T_7 T_8 T_9 T_10 T_11
      have T_z0 := blk_frozen T 0
      have T_z1 := blk_frozen T 1
      have T_z2 := blk_frozen T 2
      have T_z3 := blk_frozen T 3
      have T_z4 := blk_frozen T 4
      have T_z5 := blk_frozen T 5
      have T_z6 := blk_frozen T 6
      have T_z7 := blk_frozen T 7
      have T_z8 := blk_frozen T 8
      have T_z9 := blk_frozen T 9
      have T_z10 := blk_frozen T 10
      have T_z11 := blk_frozen T 11
      have T_l := blk_lt T
      have HT := Aside0.mk T
      clear T
      go_wp2_with fail
      (with_reducible refine (new_q nw t d lo hi bl _ n0 n1 n2 n3 n4 v s b _).mono ?_)
      rintro e w2 ⟨rfl, hb1⟩
      have U : IsBlk w2 wq.heap.size #[.int .i64 v, .int .i64 s, .bool b] 35 := IsBlk.below (by repeat (first | ((refine IsBlk.new _ _ ?_); (simp; done)) | apply IsBlk.alloc | apply IsBlk.drewN)) hb1
      have U_0 := blk_cell U 0
      have U_1 := blk_cell U 1
      have U_2 := blk_cell U 2
      simp only [List.getElem?_toArray, List.getElem?_cons_zero, List.getElem?_cons_succ] at U_0 U_1 U_2
      have U_l := blk_lt U
      have HU := Aside0.mk U
      clear U
      have hgU : wq.heap.size ≠ gT := by have := T_l; omega
      have T' := IsBlk.below (by repeat (with_reducible first | exact HT.out | apply IsBlk.alloc | apply IsBlk.drewN | apply IsBlk.drew)) hb1
      clear T_0 T_1 T_2 T_3 T_4 T_5 T_6 T_7 T_8 T_9 T_10 T_11 T_z0 T_z1 T_z2 T_z3 T_z4 T_z5 T_z6 T_z7 T_z8 T_z9 T_z10 T_z11 T_l HT
      have T := T'
      clear T'
      have T_0 := blk_cell T 0
      have T_1 := blk_cell T 1
      have T_2 := blk_cell T 2
      have T_3 := blk_cell T 3
      have T_4 := blk_cell T 4
      have T_5 := blk_cell T 5
      have T_6 := blk_cell T 6
      have T_7 := blk_cell T 7
      have T_8 := blk_cell T 8
      have T_9 := blk_cell T 9
      have T_10 := blk_cell T 10
      have T_11 := blk_cell T 11
      simp only [List.getElem?_toArray, List.getElem?_cons_zero, List.getElem?_cons_succ] at T_0 T_1 T_2 T_3 T_4 T_5 T_6 T_7 T_8 T_9 T_10 T_11
      have T_z0 := blk_frozen T 0
      have T_z1 := blk_frozen T 1
      have T_z2 := blk_frozen T 2
      have T_z3 := blk_frozen T 3
      have T_z4 := blk_frozen T 4
      have T_z5 := blk_frozen T 5
      have T_z6 := blk_frozen T 6
      have T_z7 := blk_frozen T 7
      have T_z8 := blk_frozen T 8
      have T_z9 := blk_frozen T 9
      have T_z10 := blk_frozen T 10
      have T_z11 := blk_frozen T 11
      have T_l := blk_lt T
      have HT := Aside0.mk T
      clear T
      have nR := Aside0.mk (IsBlk.below (by repeat (with_reducible first | exact HR0.out | apply IsBlk.alloc | apply IsBlk.drewN | apply IsBlk.drew)) hb1)
      have n0 := Aside0.mk (below_step (by repeat (first | (with_reducible first | exact HB.out | apply below_alloc | apply pw_below_drewN | apply below_drew1) | refine below_set ?_ (by omega))) hb1)
      clear HR0 HB hb1
      have HR0 := nR
      have HB := n0
      clear nR n0
      go_wp2_with fail
      (with_reducible refine (one_q gT 7 _ n0 _ _ HT.out rfl (by omega) (by omega) HB.out hgT).mono ?_)
      rintro e w3 ⟨_, rfl, hT, hk3, hB3⟩
      clear T_0 T_1 T_2 T_3 T_4 T_5 T_6 T_7 T_8 T_9 T_10 T_11 T_z0 T_z1 T_z2 T_z3 T_z4 T_z5 T_z6 T_z7 T_z8 T_z9 T_z10 T_z11 T_l HT
      clear U_0 U_1 U_2 U_l 
      simp only [List.setIfInBounds_toArray, List.set_cons_zero, List.set_cons_succ] at hT
      have nU : IsBlk w3 wq.heap.size #[.int .i64 v, .int .i64 s, .bool b] 35 := (hk3 _ hgU).trans HU.out
      have nR : IsBlk w3 (w.heap.size + 1) #[.int .i64 0, .int .i64 0, .int .i64 0, .int .i64 0, .int .i64 0, .bool false, .slice none 0 0, .int .i64 0, .int .i64 0, .int .i64 0, .int .i64 0, .int .i64 0] 51 := (hk3 _ hgR).trans HR0.out
      clear HU HR0 HB hk3
      have HR0 := Aside0.mk nR
      have HB := Aside0.mk hB3
      clear nR hB3
      have U := nU
      have T := hT
      clear nU hT
      have U_0 := blk_cell U 0
      have U_1 := blk_cell U 1
      have U_2 := blk_cell U 2
      simp only [List.getElem?_toArray, List.getElem?_cons_zero, List.getElem?_cons_succ] at U_0 U_1 U_2
      have U_l := blk_lt U
      have HU := Aside0.mk U
      clear U
      have T_0 := blk_cell T 0
      have T_1 := blk_cell T 1
      have T_2 := blk_cell T 2
      have T_3 := blk_cell T 3
      have T_4 := blk_cell T 4
      have T_5 := blk_cell T 5
      have T_6 := blk_cell T 6
      have T_7 := blk_cell T 7
      have T_8 := blk_cell T 8
      have T_9 := blk_cell T 9
      have T_10 := blk_cell T 10
      have T_11 := blk_cell T 11
      simp only [List.getElem?_toArray, List.getElem?_cons_zero, List.getElem?_cons_succ] at T_0 T_1 T_2 T_3 T_4 T_5 T_6 T_7 T_8 T_9 T_10 T_11
      have T_z0 := blk_frozen T 0
      have T_z1 := blk_frozen T 1
      have T_z2 := blk_frozen T 2
      have T_z3 := blk_frozen T 3
      have T_z4 := blk_frozen T 4
      have T_z5 := blk_frozen T 5
      have T_z6 := blk_frozen T 6
      have T_z7 := blk_frozen T 7
      have T_z8 := blk_frozen T 8
      have T_z9 := blk_frozen T 9
      have T_z10 := blk_frozen T 10
      have T_z11 := blk_frozen T 11
      have T_l := blk_lt T
      have HT := Aside0.mk T
      clear T
      go_wp2_with fail
      (with_reducible refine (old_q nw t d lo hi bl _ (n0 + b1 ((isNew ⟨nw, t, d, lo, hi, bl⟩) ⟨v, s, b⟩)) n1 n2 n3 n4 v s b _).mono ?_)
      rintro e w2 ⟨rfl, hb1⟩
      have U' := IsBlk.below (by repeat (with_reducible first | exact HU.out | apply IsBlk.alloc | apply IsBlk.drewN | apply IsBlk.drew)) hb1
      clear U_0 U_1 U_2 U_l HU
      have U := U'
      clear U'
      have U_0 := blk_cell U 0
      have U_1 := blk_cell U 1
      have U_2 := blk_cell U 2
      simp only [List.getElem?_toArray, List.getElem?_cons_zero, List.getElem?_cons_succ] at U_0 U_1 U_2
      have U_l := blk_lt U
      have HU := Aside0.mk U
      clear U
      have T' := IsBlk.below (by repeat (with_reducible first | exact HT.out | apply IsBlk.alloc | apply IsBlk.drewN | apply IsBlk.drew)) hb1
      clear T_0 T_1 T_2 T_3 T_4 T_5 T_6 T_7 T_8 T_9 T_10 T_11 T_z0 T_z1 T_z2 T_z3 T_z4 T_z5 T_z6 T_z7 T_z8 T_z9 T_z10 T_z11 T_l HT
      have T := T'
      clear T'
      have T_0 := blk_cell T 0
      have T_1 := blk_cell T 1
      have T_2 := blk_cell T 2
      have T_3 := blk_cell T 3
      have T_4 := blk_cell T 4
      have T_5 := blk_cell T 5
      have T_6 := blk_cell T 6
      have T_7 := blk_cell T 7
      have T_8 := blk_cell T 8
      have T_9 := blk_cell T 9
      have T_10 := blk_cell T 10
      have T_11 := blk_cell T 11
      simp only [List.getElem?_toArray, List.getElem?_cons_zero, List.getElem?_cons_succ] at T_0 T_1 T_2 T_3 T_4 T_5 T_6 T_7 T_8 T_9 T_10 T_11
      have T_z0 := blk_frozen T 0
      have T_z1 := blk_frozen T 1
      have T_z2 := blk_frozen T 2
      have T_z3 := blk_frozen T 3
      have T_z4 := blk_frozen T 4
      have T_z5 := blk_frozen T 5
      have T_z6 := blk_frozen T 6
      have T_z7 := blk_frozen T 7
      have T_z8 := blk_frozen T 8
      have T_z9 := blk_frozen T 9
      have T_z10 := blk_frozen T 10
      have T_z11 := blk_frozen T 11
      have T_l := blk_lt T
      have HT := Aside0.mk T
      clear T
      have nR := Aside0.mk (IsBlk.below (by repeat (with_reducible first | exact HR0.out | apply IsBlk.alloc | apply IsBlk.drewN | apply IsBlk.drew)) hb1)
      have n0 := Aside0.mk (below_step (by repeat (first | (with_reducible first | exact HB.out | apply below_alloc | apply pw_below_drewN | apply below_drew1) | refine below_set ?_ (by omega))) hb1)
      clear HR0 HB hb1
      have HR0 := nR
      have HB := n0
      clear nR n0
      go_wp2_with fail
      (with_reducible refine (one_q gT 8 _ n1 _ _ HT.out rfl (by omega) (by omega) HB.out hgT).mono ?_)
      rintro e w3 ⟨_, rfl, hT, hk3, hB3⟩
      clear T_0 T_1 T_2 T_3 T_4 T_5 T_6 T_7 T_8 T_9 T_10 T_11 T_z0 T_z1 T_z2 T_z3 T_z4 T_z5 T_z6 T_z7 T_z8 T_z9 T_z10 T_z11 T_l HT
      clear U_0 U_1 U_2 U_l 
      simp only [List.setIfInBounds_toArray, List.set_cons_zero, List.set_cons_succ] at hT
      have nU : IsBlk w3 wq.heap.size #[.int .i64 v, .int .i64 s, .bool b] 35 := (hk3 _ hgU).trans HU.out
      have nR : IsBlk w3 (w.heap.size + 1) #[.int .i64 0, .int .i64 0, .int .i64 0, .int .i64 0, .int .i64 0, .bool false, .slice none 0 0, .int .i64 0, .int .i64 0, .int .i64 0, .int .i64 0, .int .i64 0] 51 := (hk3 _ hgR).trans HR0.out
      clear HU HR0 HB hk3
      have HR0 := Aside0.mk nR
      have HB := Aside0.mk hB3
      clear nR hB3
      have U := nU
      have T := hT
      clear nU hT
      have U_0 := blk_cell U 0
      have U_1 := blk_cell U 1
      have U_2 := blk_cell U 2
      simp only [List.getElem?_toArray, List.getElem?_cons_zero, List.getElem?_cons_succ] at U_0 U_1 U_2
      have U_l := blk_lt U
      have HU := Aside0.mk U
      clear U
      have T_0 := blk_cell T 0
      have T_1 := blk_cell T 1
      have T_2 := blk_cell T 2
      have T_3 := blk_cell T 3
      have T_4 := blk_cell T 4
      have T_5 := blk_cell T 5
      have T_6 := blk_cell T 6
      have T_7 := blk_cell T 7
      have T_8 := blk_cell T 8
      have T_9 := blk_cell T 9
      have T_10 := blk_cell T 10
      have T_11 := blk_cell T 11
      simp only [List.getElem?_toArray, List.getElem?_cons_zero, List.getElem?_cons_succ] at T_0 T_1 T_2 T_3 T_4 T_5 T_6 T_7 T_8 T_9 T_10 T_11
      have T_z0 := blk_frozen T 0
      have T_z1 := blk_frozen T 1
      have T_z2 := blk_frozen T 2
      have T_z3 := blk_frozen T 3
      have T_z4 := blk_frozen T 4
      have T_z5 := blk_frozen T 5
      have T_z6 := blk_frozen T 6
      have T_z7 := blk_frozen T 7
      have T_z8 := blk_frozen T 8
      have T_z9 := blk_frozen T 9
      have T_z10 := blk_frozen T 10
      have T_z11 := blk_frozen T 11
      have T_l := blk_lt T
      have HT := Aside0.mk T
      clear T
      go_wp2_with fail
      (with_reducible refine (there_q v s b _).mono ?_)
      rintro e w2 ⟨rfl, hb1⟩
      have U' := IsBlk.below (by repeat (with_reducible first | exact HU.out | apply IsBlk.alloc | apply IsBlk.drewN | apply IsBlk.drew)) hb1
      clear U_0 U_1 U_2 U_l HU
      have U := U'
      clear U'
      have U_0 := blk_cell U 0
      have U_1 := blk_cell U 1
      have U_2 := blk_cell U 2
      simp only [List.getElem?_toArray, List.getElem?_cons_zero, List.getElem?_cons_succ] at U_0 U_1 U_2
      have U_l := blk_lt U
      have HU := Aside0.mk U
      clear U
      have T' := IsBlk.below (by repeat (with_reducible first | exact HT.out | apply IsBlk.alloc | apply IsBlk.drewN | apply IsBlk.drew)) hb1
      clear T_0 T_1 T_2 T_3 T_4 T_5 T_6 T_7 T_8 T_9 T_10 T_11 T_z0 T_z1 T_z2 T_z3 T_z4 T_z5 T_z6 T_z7 T_z8 T_z9 T_z10 T_z11 T_l HT
      have T := T'
      clear T'
      have T_0 := blk_cell T 0
      have T_1 := blk_cell T 1
      have T_2 := blk_cell T 2
      have T_3 := blk_cell T 3
      have T_4 := blk_cell T 4
      have T_5 := blk_cell T 5
      have T_6 := blk_cell T 6
      have T_7 := blk_cell T 7
      have T_8 := blk_cell T 8
      have T_9 := blk_cell T 9
      have T_10 := blk_cell T 10
      have T_11 := blk_cell T 11
      simp only [List.getElem?_toArray, List.getElem?_cons_zero, List.getElem?_cons_succ] at T_0 T_1 T_2 T_3 T_4 T_5 T_6 T_7 T_8 T_9 T_10 T_11
      have T_z0 := blk_frozen T 0
      have T_z1 := blk_frozen T 1
      have T_z2 := blk_frozen T 2
      have T_z3 := blk_frozen T 3
      have T_z4 := blk_frozen T 4
      have T_z5 := blk_frozen T 5
      have T_z6 := blk_frozen T 6
      have T_z7 := blk_frozen T 7
      have T_z8 := blk_frozen T 8
      have T_z9 := blk_frozen T 9
      have T_z10 := blk_frozen T 10
      have T_z11 := blk_frozen T 11
      have T_l := blk_lt T
      have HT := Aside0.mk T
      clear T
      have nR := Aside0.mk (IsBlk.below (by repeat (with_reducible first | exact HR0.out | apply IsBlk.alloc | apply IsBlk.drewN | apply IsBlk.drew)) hb1)
      have n0 := Aside0.mk (below_step (by repeat (first | (with_reducible first | exact HB.out | apply below_alloc | apply pw_below_drewN | apply below_drew1) | refine below_set ?_ (by omega))) hb1)
      clear HR0 HB hb1
      have HR0 := nR
      have HB := n0
      clear nR n0
      go_wp2_with fail
      (with_reducible refine (one_q gT 9 _ n2 _ _ HT.out rfl (by omega) (by omega) HB.out hgT).mono ?_)
      rintro e w3 ⟨_, rfl, hT, hk3, hB3⟩
      clear T_0 T_1 T_2 T_3 T_4 T_5 T_6 T_7 T_8 T_9 T_10 T_11 T_z0 T_z1 T_z2 T_z3 T_z4 T_z5 T_z6 T_z7 T_z8 T_z9 T_z10 T_z11 T_l HT
      clear U_0 U_1 U_2 U_l 
      simp only [List.setIfInBounds_toArray, List.set_cons_zero, List.set_cons_succ] at hT
      have nU : IsBlk w3 wq.heap.size #[.int .i64 v, .int .i64 s, .bool b] 35 := (hk3 _ hgU).trans HU.out
      have nR : IsBlk w3 (w.heap.size + 1) #[.int .i64 0, .int .i64 0, .int .i64 0, .int .i64 0, .int .i64 0, .bool false, .slice none 0 0, .int .i64 0, .int .i64 0, .int .i64 0, .int .i64 0, .int .i64 0] 51 := (hk3 _ hgR).trans HR0.out
      clear HU HR0 HB hk3
      have HR0 := Aside0.mk nR
      have HB := Aside0.mk hB3
      clear nR hB3
      have U := nU
      have T := hT
      clear nU hT
      have U_0 := blk_cell U 0
      have U_1 := blk_cell U 1
      have U_2 := blk_cell U 2
      simp only [List.getElem?_toArray, List.getElem?_cons_zero, List.getElem?_cons_succ] at U_0 U_1 U_2
      have U_l := blk_lt U
      have HU := Aside0.mk U
      clear U
      have T_0 := blk_cell T 0
      have T_1 := blk_cell T 1
      have T_2 := blk_cell T 2
      have T_3 := blk_cell T 3
      have T_4 := blk_cell T 4
      have T_5 := blk_cell T 5
      have T_6 := blk_cell T 6
      have T_7 := blk_cell T 7
      have T_8 := blk_cell T 8
      have T_9 := blk_cell T 9
      have T_10 := blk_cell T 10
      have T_11 := blk_cell T 11
      simp only [List.getElem?_toArray, List.getElem?_cons_zero, List.getElem?_cons_succ] at T_0 T_1 T_2 T_3 T_4 T_5 T_6 T_7 T_8 T_9 T_10 T_11
      have T_z0 := blk_frozen T 0
      have T_z1 := blk_frozen T 1
      have T_z2 := blk_frozen T 2
      have T_z3 := blk_frozen T 3
      have T_z4 := blk_frozen T 4
      have T_z5 := blk_frozen T 5
      have T_z6 := blk_frozen T 6
      have T_z7 := blk_frozen T 7
      have T_z8 := blk_frozen T 8
      have T_z9 := blk_frozen T 9
      have T_z10 := blk_frozen T 10
      have T_z11 := blk_frozen T 11
      have T_l := blk_lt T
      have HT := Aside0.mk T
      clear T
      go_wp2_with fail
      (with_reducible refine (up_q v s b _).mono ?_)
      rintro e w2 ⟨rfl, hb1⟩
      have U' := IsBlk.below (by repeat (with_reducible first | exact HU.out | apply IsBlk.alloc | apply IsBlk.drewN | apply IsBlk.drew)) hb1
      clear U_0 U_1 U_2 U_l HU
      have U := U'
      clear U'
      have U_0 := blk_cell U 0
      have U_1 := blk_cell U 1
      have U_2 := blk_cell U 2
      simp only [List.getElem?_toArray, List.getElem?_cons_zero, List.getElem?_cons_succ] at U_0 U_1 U_2
      have U_l := blk_lt U
      have HU := Aside0.mk U
      clear U
      have T' := IsBlk.below (by repeat (with_reducible first | exact HT.out | apply IsBlk.alloc | apply IsBlk.drewN | apply IsBlk.drew)) hb1
      clear T_0 T_1 T_2 T_3 T_4 T_5 T_6 T_7 T_8 T_9 T_10 T_11 T_z0 T_z1 T_z2 T_z3 T_z4 T_z5 T_z6 T_z7 T_z8 T_z9 T_z10 T_z11 T_l HT
      have T := T'
      clear T'
      have T_0 := blk_cell T 0
      have T_1 := blk_cell T 1
      have T_2 := blk_cell T 2
      have T_3 := blk_cell T 3
      have T_4 := blk_cell T 4
      have T_5 := blk_cell T 5
      have T_6 := blk_cell T 6
      have T_7 := blk_cell T 7
      have T_8 := blk_cell T 8
      have T_9 := blk_cell T 9
      have T_10 := blk_cell T 10
      have T_11 := blk_cell T 11
      simp only [List.getElem?_toArray, List.getElem?_cons_zero, List.getElem?_cons_succ] at T_0 T_1 T_2 T_3 T_4 T_5 T_6 T_7 T_8 T_9 T_10 T_11
      have T_z0 := blk_frozen T 0
      have T_z1 := blk_frozen T 1
      have T_z2 := blk_frozen T 2
      have T_z3 := blk_frozen T 3
      have T_z4 := blk_frozen T 4
      have T_z5 := blk_frozen T 5
      have T_z6 := blk_frozen T 6
      have T_z7 := blk_frozen T 7
      have T_z8 := blk_frozen T 8
      have T_z9 := blk_frozen T 9
      have T_z10 := blk_frozen T 10
      have T_z11 := blk_frozen T 11
      have T_l := blk_lt T
      have HT := Aside0.mk T
      clear T
      have nR := Aside0.mk (IsBlk.below (by repeat (with_reducible first | exact HR0.out | apply IsBlk.alloc | apply IsBlk.drewN | apply IsBlk.drew)) hb1)
      have n0 := Aside0.mk (below_step (by repeat (first | (with_reducible first | exact HB.out | apply below_alloc | apply pw_below_drewN | apply below_drew1) | refine below_set ?_ (by omega))) hb1)
      clear HR0 HB hb1
      have HR0 := nR
      have HB := n0
      clear nR n0
      go_wp2_with fail
      (with_reducible refine (one_q gT 10 _ n3 _ _ HT.out rfl (by omega) (by omega) HB.out hgT).mono ?_)
      rintro e w3 ⟨_, rfl, hT, hk3, hB3⟩
      clear T_0 T_1 T_2 T_3 T_4 T_5 T_6 T_7 T_8 T_9 T_10 T_11 T_z0 T_z1 T_z2 T_z3 T_z4 T_z5 T_z6 T_z7 T_z8 T_z9 T_z10 T_z11 T_l HT
      clear U_0 U_1 U_2 U_l 
      simp only [List.setIfInBounds_toArray, List.set_cons_zero, List.set_cons_succ] at hT
      have nU : IsBlk w3 wq.heap.size #[.int .i64 v, .int .i64 s, .bool b] 35 := (hk3 _ hgU).trans HU.out
      have nR : IsBlk w3 (w.heap.size + 1) #[.int .i64 0, .int .i64 0, .int .i64 0, .int .i64 0, .int .i64 0, .bool false, .slice none 0 0, .int .i64 0, .int .i64 0, .int .i64 0, .int .i64 0, .int .i64 0] 51 := (hk3 _ hgR).trans HR0.out
      clear HU HR0 HB hk3
      have HR0 := Aside0.mk nR
      have HB := Aside0.mk hB3
      clear nR hB3
      have U := nU
      have T := hT
      clear nU hT
      have U_0 := blk_cell U 0
      have U_1 := blk_cell U 1
      have U_2 := blk_cell U 2
      simp only [List.getElem?_toArray, List.getElem?_cons_zero, List.getElem?_cons_succ] at U_0 U_1 U_2
      have U_l := blk_lt U
      have HU := Aside0.mk U
      clear U
      have T_0 := blk_cell T 0
      have T_1 := blk_cell T 1
      have T_2 := blk_cell T 2
      have T_3 := blk_cell T 3
      have T_4 := blk_cell T 4
      have T_5 := blk_cell T 5
      have T_6 := blk_cell T 6
      have T_7 := blk_cell T 7
      have T_8 := blk_cell T 8
      have T_9 := blk_cell T 9
      have T_10 := blk_cell T 10
      have T_11 := blk_cell T 11
      simp only [List.getElem?_toArray, List.getElem?_cons_zero, List.getElem?_cons_succ] at T_0 T_1 T_2 T_3 T_4 T_5 T_6 T_7 T_8 T_9 T_10 T_11
      have T_z0 := blk_frozen T 0
      have T_z1 := blk_frozen T 1
      have T_z2 := blk_frozen T 2
      have T_z3 := blk_frozen T 3
      have T_z4 := blk_frozen T 4
      have T_z5 := blk_frozen T 5
      have T_z6 := blk_frozen T 6
      have T_z7 := blk_frozen T 7
      have T_z8 := blk_frozen T 8
      have T_z9 := blk_frozen T 9
      have T_z10 := blk_frozen T 10
      have T_z11 := blk_frozen T 11
      have T_l := blk_lt T
      have HT := Aside0.mk T
      clear T
      go_wp2_with fail
      (with_reducible refine (new_q nw t d lo hi bl _ (n0 + b1 ((isNew ⟨nw, t, d, lo, hi, bl⟩) ⟨v, s, b⟩)) (n1 + b1 ((isOld ⟨nw, t, d, lo, hi, bl⟩) ⟨v, s, b⟩)) (n2 + b1 (isThere ⟨v, s, b⟩)) (n3 + b1 (isUp ⟨v, s, b⟩)) n4 v s b _).mono ?_)
      rintro e w2 ⟨rfl, hb1⟩
      have U' := IsBlk.below (by repeat (with_reducible first | exact HU.out | apply IsBlk.alloc | apply IsBlk.drewN | apply IsBlk.drew)) hb1
      clear U_0 U_1 U_2 U_l HU
      have U := U'
      clear U'
      have U_0 := blk_cell U 0
      have U_1 := blk_cell U 1
      have U_2 := blk_cell U 2
      simp only [List.getElem?_toArray, List.getElem?_cons_zero, List.getElem?_cons_succ] at U_0 U_1 U_2
      have U_l := blk_lt U
      have HU := Aside0.mk U
      clear U
      have T' := IsBlk.below (by repeat (with_reducible first | exact HT.out | apply IsBlk.alloc | apply IsBlk.drewN | apply IsBlk.drew)) hb1
      clear T_0 T_1 T_2 T_3 T_4 T_5 T_6 T_7 T_8 T_9 T_10 T_11 T_z0 T_z1 T_z2 T_z3 T_z4 T_z5 T_z6 T_z7 T_z8 T_z9 T_z10 T_z11 T_l HT
      have T := T'
      clear T'
      have T_0 := blk_cell T 0
      have T_1 := blk_cell T 1
      have T_2 := blk_cell T 2
      have T_3 := blk_cell T 3
      have T_4 := blk_cell T 4
      have T_5 := blk_cell T 5
      have T_6 := blk_cell T 6
      have T_7 := blk_cell T 7
      have T_8 := blk_cell T 8
      have T_9 := blk_cell T 9
      have T_10 := blk_cell T 10
      have T_11 := blk_cell T 11
      simp only [List.getElem?_toArray, List.getElem?_cons_zero, List.getElem?_cons_succ] at T_0 T_1 T_2 T_3 T_4 T_5 T_6 T_7 T_8 T_9 T_10 T_11
      have T_z0 := blk_frozen T 0
      have T_z1 := blk_frozen T 1
      have T_z2 := blk_frozen T 2
      have T_z3 := blk_frozen T 3
      have T_z4 := blk_frozen T 4
      have T_z5 := blk_frozen T 5
      have T_z6 := blk_frozen T 6
      have T_z7 := blk_frozen T 7
      have T_z8 := blk_frozen T 8
      have T_z9 := blk_frozen T 9
      have T_z10 := blk_frozen T 10
      have T_z11 := blk_frozen T 11
      have T_l := blk_lt T
      have HT := Aside0.mk T
      clear T
      have nR := Aside0.mk (IsBlk.below (by repeat (with_reducible first | exact HR0.out | apply IsBlk.alloc | apply IsBlk.drewN | apply IsBlk.drew)) hb1)
      have n0 := Aside0.mk (below_step (by repeat (first | (with_reducible first | exact HB.out | apply below_alloc | apply pw_below_drewN | apply below_drew1) | refine below_set ?_ (by omega))) hb1)
      clear HR0 HB hb1
      have HR0 := nR
      have HB := n0
      clear nR n0
      cases hz : isNew ⟨nw, t, d, lo, hi, bl⟩ ⟨v, s, b⟩
      · have hnu : newUp ⟨nw, t, d, lo, hi, bl⟩ ⟨v, s, b⟩ = false := by unfold newUp; rw [hz]; rfl
        have HN := Aside0.mk hnu
        have HZ := Aside0.mk hz
        clear hnu hz
        go_wp2_with fail
        (with_reducible refine (one_q gT 11 _ n4 _ _ HT.out rfl (by omega) (by omega) HB.out hgT).mono ?_)
        rintro e w3 ⟨_, rfl, hT, hk3, hB3⟩
        clear T_0 T_1 T_2 T_3 T_4 T_5 T_6 T_7 T_8 T_9 T_10 T_11 T_z0 T_z1 T_z2 T_z3 T_z4 T_z5 T_z6 T_z7 T_z8 T_z9 T_z10 T_z11 T_l HT
        clear U_0 U_1 U_2 U_l 
        simp only [List.setIfInBounds_toArray, List.set_cons_zero, List.set_cons_succ] at hT
        have nU : IsBlk w3 wq.heap.size #[.int .i64 v, .int .i64 s, .bool b] 35 := (hk3 _ hgU).trans HU.out
        have nR : IsBlk w3 (w.heap.size + 1) #[.int .i64 0, .int .i64 0, .int .i64 0, .int .i64 0, .int .i64 0, .bool false, .slice none 0 0, .int .i64 0, .int .i64 0, .int .i64 0, .int .i64 0, .int .i64 0] 51 := (hk3 _ hgR).trans HR0.out
        clear HU HR0 HB hk3
        have HR0 := Aside0.mk nR
        have HB := Aside0.mk hB3
        clear nR hB3
        go_wp2
        go_roundw
        case rel => exact ⟨k + 1, by go_num, by omega, ⟨by rw [E0.out, E1.out, E2.out, E3.out, E4.out, HN.out]; exact hT⟩, HR0, HB⟩
        case measure => simp [intOf]; omega
      · have hnu : newUp ⟨nw, t, d, lo, hi, bl⟩ ⟨v, s, b⟩ = b := by unfold newUp; rw [hz]; rfl
        have HN := Aside0.mk hnu
        have HZ := Aside0.mk hz
        clear hnu hz
        go_wp2_with fail
        (with_reducible refine (one_q gT 11 _ n4 _ _ HT.out rfl (by omega) (by omega) HB.out hgT).mono ?_)
        rintro e w3 ⟨_, rfl, hT, hk3, hB3⟩
        clear T_0 T_1 T_2 T_3 T_4 T_5 T_6 T_7 T_8 T_9 T_10 T_11 T_z0 T_z1 T_z2 T_z3 T_z4 T_z5 T_z6 T_z7 T_z8 T_z9 T_z10 T_z11 T_l HT
        clear U_0 U_1 U_2 U_l 
        simp only [List.setIfInBounds_toArray, List.set_cons_zero, List.set_cons_succ] at hT
        have nU : IsBlk w3 wq.heap.size #[.int .i64 v, .int .i64 s, .bool b] 35 := (hk3 _ hgU).trans HU.out
        have nR : IsBlk w3 (w.heap.size + 1) #[.int .i64 0, .int .i64 0, .int .i64 0, .int .i64 0, .int .i64 0, .bool false, .slice none 0 0, .int .i64 0, .int .i64 0, .int .i64 0, .int .i64 0, .int .i64 0] 51 := (hk3 _ hgR).trans HR0.out
        clear HU HR0 HB hk3
        have HR0 := Aside0.mk nR
        have HB := Aside0.mk hB3
        clear nR hB3
        go_wp2
        go_roundw
        case rel => exact ⟨k + 1, by go_num, by omega, ⟨by rw [E0.out, E1.out, E2.out, E3.out, E4.out, HN.out]; exact hT⟩, HR0, HB⟩
        case measure => simp [intOf]; omega
    · have hd : decide ((k : Int) < (l.length : Int)) = false := by simp; omega
      obtain rfl : k = l.length := by omega
      clear hlt hk
      have T := HT.out
      have R := HR0.out
      rw [List.take_length] at T
      clear HT HR0
      obtain ⟨n0, e0⟩ : ∃ n, (cnt (isNew ⟨nw, t, d, lo, hi, bl⟩) l) = n := ⟨_, rfl⟩
      obtain ⟨n1, e1⟩ : ∃ n, (cnt (isOld ⟨nw, t, d, lo, hi, bl⟩) l) = n := ⟨_, rfl⟩
      obtain ⟨n2, e2⟩ : ∃ n, (cnt isThere l) = n := ⟨_, rfl⟩
      obtain ⟨n3, e3⟩ : ∃ n, (cnt isUp l) = n := ⟨_, rfl⟩
      obtain ⟨n4, e4⟩ : ∃ n, (cnt (newUp ⟨nw, t, d, lo, hi, bl⟩) l) = n := ⟨_, rfl⟩
      rw [e0, e1, e2, e3, e4] at T
      have E0 := Aside0.mk e0
      have E1 := Aside0.mk e1
      have E2 := Aside0.mk e2
      have E3 := Aside0.mk e3
      have E4 := Aside0.mk e4
      clear e0 e1 e2 e3 e4
      have T_0 := blk_cell T 0
      have T_1 := blk_cell T 1
      have T_2 := blk_cell T 2
      have T_3 := blk_cell T 3
      have T_4 := blk_cell T 4
      have T_5 := blk_cell T 5
      have T_6 := blk_cell T 6
      have T_7 := blk_cell T 7
      have T_8 := blk_cell T 8
      have T_9 := blk_cell T 9
      have T_10 := blk_cell T 10
      have T_11 := blk_cell T 11
      simp only [List.getElem?_toArray, List.getElem?_cons_zero, List.getElem?_cons_succ] at T_0 T_1 T_2 T_3 T_4 T_5 T_6 T_7 T_8 T_9 T_10 T_11
      have T_l := blk_lt T
      have HT := Aside0.mk T
      clear T
      have R_0 := blk_cell R 0
      have R_1 := blk_cell R 1
      have R_2 := blk_cell R 2
      have R_3 := blk_cell R 3
      have R_4 := blk_cell R 4
      have R_5 := blk_cell R 5
      have R_6 := blk_cell R 6
      have R_7 := blk_cell R 7
      have R_8 := blk_cell R 8
      have R_9 := blk_cell R 9
      have R_10 := blk_cell R 10
      have R_11 := blk_cell R 11
      simp only [List.getElem?_toArray, List.getElem?_cons_zero, List.getElem?_cons_succ] at R_0 R_1 R_2 R_3 R_4 R_5 R_6 R_7 R_8 R_9 R_10 R_11
      have R_z0 := blk_frozen R 0
      have R_z1 := blk_frozen R 1
      have R_z2 := blk_frozen R 2
      have R_z3 := blk_frozen R 3
      have R_z4 := blk_frozen R 4
      have R_z5 := blk_frozen R 5
      have R_z6 := blk_frozen R 6
      have R_z7 := blk_frozen R 7
      have R_z8 := blk_frozen R 8
      have R_z9 := blk_frozen R 9
      have R_z10 := blk_frozen R 10
      have R_z11 := blk_frozen R 11
      have R_l := blk_lt R
      have HR := Aside0.mk R
      clear R
      go_wp2
      exact bodyPost_ret (v := .agg #[.int .i64 nw, .int .i64 t, .int .i64 d, .int .i64 lo, .int .i64 hi, .bool bl, (.slice A l.length c), .int .i64 n0, .int .i64 n1, .int .i64 n2, .int .i64 n3, .int .i64 n4]) (by simp [results, Try.results21, go_sem, *]) rfl ⟨by rw [E0.out, E1.out, E2.out, E3.out, E4.out], by repeat (first | (with_reducible first | exact HB.out | apply below_alloc | apply pw_below_drewN | apply below_drew1) | refine below_set ?_ (by omega))⟩
end Go.Proofs.Ytloljhopccpeeaa.Q1

