/-
  Proved here: what worker.Slot, Seen, Units, New answer and leave. No condition.
-/
import Derived.Test.YtkjaeodnpgpfeaaW0
namespace Go.Proofs.Ytkjaeodnpgpfeaa.W1
open Go.RowKit Go.Maps Go.Sort Go.Shelf Go.Proofs.Ytkjaeodnpgpfeaa.M Go.Proofs.Ytkjaeodnpgpfeaa.S0 Go.Proofs.Ytkjaeodnpgpfeaa.S4 Go.Proofs.Ytkjaeodnpgpfeaa.W0 Go.Proofs.YtkjaeodnpgpfeaaW.PrintWords Go.Proofs.YtkjaeodnpgpfeaaW.PrintLast Go.Proofs.YtkjaeodnpgpfeaaW.PrintMore
set_option linter.unusedVariables false
set_option linter.unusedSimpArgs false
attribute [local go_sem] max2_int min2_int max_two min_two run_makeMap

set_option maxHeartbeats 1000000 in
theorem slot_l (g q : Nat) (seen : Int) (f : Int → Option Sl) (k a b c d : Int) (is : Bool) (w : World) (h : Wk w g q seen f) (he : (f k).getD zs = ⟨a, b, c, d⟩) (hi : (f k).isSome = is) :
    Calls Try.prog 13 #[.pointer (some ⟨g, 0, none⟩), .int .i64 k] w fun e w' => e = .returned (.tuple #[S1.sval a b c d, .bool is]) ∧ Below w.heap.size w w' := by
  have HB := Aside0.mk (Below.refl w.heap.size w)
  have D := h.blk
  have D_0 := blk_cell D 0
  have D_1 := blk_cell D 1
  simp only [List.getElem?_toArray, List.getElem?_cons_zero, List.getElem?_cons_succ] at D_0 D_1
  have D_z0 := blk_frozen D 0
  have D_z1 := blk_frozen D 1
  have D_l := blk_lt D
  have HD := Aside0.mk D
  clear D
  have HM := Aside0.mk h.map
  have HE := Aside0.mk he
  have HI := Aside0.mk hi
  clear h he hi
  go_enter Try.func13, Try.ntmps13
  go_wp2_with (at_lookup; refine wpList_get (f := f) (q := q) _ rfl _ _ rfl rfl (by repeat (with_reducible first | exact HM.out | apply WM.alloc | apply WM.drewN | apply WM.drew)) k rfl ?_; rw [HE.out, HI.out]; dsimp only [sv])
  exact bodyPost_ret (v := .tuple #[S1.sval a b c d, .bool is]) (by simp [results, Try.results13, go_sem, *]) rfl ⟨rfl, by repeat (first | (with_reducible first | exact HB.out | apply below_alloc | apply pw_below_drewN | apply below_drew1) | refine below_set ?_ (by omega))⟩

theorem slot_q (g q : Nat) (seen : Int) (f : Int → Option Sl) (k : Int) (w : World) (h : Wk w g q seen f) :
    Calls Try.prog 13 #[.pointer (some ⟨g, 0, none⟩), .int .i64 k] w fun e w' => e = .returned (.tuple #[sv ((f k).getD zs), .bool (f k).isSome]) ∧ Below w.heap.size w w' :=
  slot_l g q seen f k _ _ _ _ _ w h rfl rfl
theorem slot_nil (k : Int) (w : World) :
    Calls Try.prog 13 #[.pointer none, .int .i64 k] w fun e w' => e = .returned (.tuple #[sv zs, .bool false]) ∧ Below w.heap.size w w' := by
  have HB := Aside0.mk (Below.refl w.heap.size w)
  go_enter Try.func13, Try.ntmps13
  go_wp2
  exact bodyPost_ret (v := .tuple #[S1.sval 0 0 0 0, .bool false]) (by simp [results, Try.results13, go_sem]) rfl ⟨rfl, by repeat (first | (with_reducible first | exact HB.out | apply below_alloc | apply pw_below_drewN | apply below_drew1) | refine below_set ?_ (by omega))⟩

theorem seen_q (g q : Nat) (seen : Int) (f : Int → Option Sl) (w : World) (h : Wk w g q seen f) : Calls Try.prog 15 #[.pointer (some ⟨g, 0, none⟩)] w fun e w' => e = .returned (.int .i64 seen) ∧ Below w.heap.size w w' := by
  have HB := Aside0.mk (Below.refl w.heap.size w)
  have D := h.blk
  have D_0 := blk_cell D 0
  have D_1 := blk_cell D 1
  simp only [List.getElem?_toArray, List.getElem?_cons_zero, List.getElem?_cons_succ] at D_0 D_1
  have D_z0 := blk_frozen D 0
  have D_z1 := blk_frozen D 1
  have D_l := blk_lt D
  have HD := Aside0.mk D
  clear D
  clear h
  go_enter Try.func15, Try.ntmps15
  go_wp2
  go_ret
  exact ⟨rfl, by repeat (first | (with_reducible first | exact HB.out | apply below_alloc | apply pw_below_drewN | apply below_drew1) | refine below_set ?_ (by omega))⟩
theorem seen_nil (w : World) : Calls Try.prog 15 #[.pointer none] w fun e w' => e = .returned (.int .i64 0) ∧ Below w.heap.size w w' := by
  have HB := Aside0.mk (Below.refl w.heap.size w)
  go_enter Try.func15, Try.ntmps15
  go_wp2
  go_ret
  exact ⟨rfl, by repeat (first | (with_reducible first | exact HB.out | apply below_alloc | apply pw_below_drewN | apply below_drew1) | refine below_set ?_ (by omega))⟩

/-! ### the units, by the shelf -/
theorem sorts (m : Nat) : AnyZI.SortsIn Try.prog Try.sorted27_ren Fence.wide m :=
  ⟨fun blk off cap ss W hH hblk hsz => callsIn_wide.2 (AnyM.slices_Sort_int Try.sort46 blk off cap ss W hH hblk hsz),
   fun p cap W => callsIn_wide.2 (AnyM.slices_Sort_int_none Try.sort46 p cap W)⟩
theorem keys_c (mb : Option Nat) (W : World) : Calls Try.prog 28 #[.map mb] W fun e w' => e = .returned (.func (.func 47) #[] #[.pointer (some ⟨W.heap.size, 0, none⟩)]) ∧ w' = W.alloc (.cells #[.map mb] 63) :=
  (callsIn_wide (n := 5)).1 (AnyZI.keys_in Try.keys28 Fence.wide 5 trivial rfl mb W)
set_option maxHeartbeats 1000000 in
theorem sorted_c (q : Nat) (f : Int → Option Sl) (w : World) (h : WM w q f) : Calls Try.prog 27 #[.func (.func 47) #[] #[.pointer (some ⟨w.heap.size, 0, none⟩)]] (w.alloc (.cells #[.map (some q)] 63)) fun e w' =>
    ∃ (A : Option Addr) (c : Nat), e = .returned (.slice A (ownL f).length c) ∧ (ownL f).length ≤ c ∧ Kd.C (Kd.int .i64) w' A (ownL f).length (ownL f) ∧ Below (w.alloc (.cells #[.map (some q)] 63)).heap.size (w.alloc (.cells #[.map (some q)] 63)) w' := by
  refine (callsIn_wide (n := 5)).1 ?_
  obtain ⟨n, D, ho⟩ := h.own
  have hsz := (h.size ho).1
  have hbl := ho.lt
  have hseq : SeqGives Fence.wide 2 Try.prog 47 #[.pointer (some ⟨w.heap.size, 0, none⟩)] encZ (fun ss => ss.Perm (intKeys D)) (Maps.size D) (w.alloc (.cells #[.map (some q)] 63)) :=
    AnyZI.keys_gives (ρ := Try.keys28_ren) { Try.keys28 with } Fence.wide _ trivial rfl (by omega) w.heap.size q n D _ (by simp) (by simp) (by
      obtain ⟨es, clock, hb, Ft, hs, hD⟩ := ho
      exact ⟨es, clock, (Below.heap_alloc _ _ q hbl).trans hb, Ft, hs, hD⟩)
  have cS := AnyZI.sorted_in Try.sorted27 Fence.wide 5 trivial trivial trivial trivial rfl (by omega) (sorts _) (enters_of Try.func46 (by kernel_rfl) rfl) 47 #[.pointer (some ⟨w.heap.size, 0, none⟩)] trivial (enters_of Try.func47 (by kernel_rfl) rfl) _ _ (Nat.le_trans hsz (by decide)) (by omega) _ hseq
  change CallsIn _ _ Try.prog 27 _ _ _ at cS
  refine cS.mono ?_
  rintro e w' ⟨v, ss, rfl, hS, hrow, hnil, hb⟩
  have e1 : ss.mergeSort (fun x y => decide (x ≤ y)) = ownL f := h.sort ho hS
  have e2 : ss.length = (ownL f).length := (hS.trans (h.perm ho).symm).length_eq
  rw [e1, e2] at hrow
  obtain ⟨A, c, rfl, hR⟩ := own_reads (k := .i64) (xs := ownL f) hrow
  refine ⟨A, c, rfl, ?_, Kd.C_of_reads (enc := Value.int .i64) (d := 0) hR, hb⟩
  rcases hrow with ⟨_, ⟨e3, e4⟩ | ⟨g0, cap, cur, e3, _, _, e4, _⟩⟩
  · rw [e4]; exact Nat.zero_le _
  · cases e3
    exact e4
set_option maxHeartbeats 1000000 in
theorem units_q (g q : Nat) (seen : Int) (f : Int → Option Sl) (w : World) (h : Wk w g q seen f) : Calls Try.prog 14 #[.pointer (some ⟨g, 0, none⟩)] w fun e w' => ∃ (A : Option Addr) (c : Nat), e = .returned (.slice A (ownL f).length c) ∧ (ownL f).length ≤ c ∧ Kd.C (Kd.int .i64) w' A (ownL f).length (ownL f) ∧ Below w.heap.size w w' := by
  have HB := Aside0.mk (Below.refl w.heap.size w)
  have D := h.blk
  have D_0 := blk_cell D 0
  have D_1 := blk_cell D 1
  simp only [List.getElem?_toArray, List.getElem?_cons_zero, List.getElem?_cons_succ] at D_0 D_1
  have D_z0 := blk_frozen D 0
  have D_z1 := blk_frozen D 1
  have D_l := blk_lt D
  have HD := Aside0.mk D
  clear D
  have HM := Aside0.mk h.map
  clear h
  go_enter Try.func14, Try.ntmps14
  go_wp2_with fail
  refine (keys_c _ _).mono ?_
  rintro e w1 ⟨rfl, hw1⟩
  subst hw1
  go_wp2_with fail
  refine (sorted_c q f _ HM.out).mono ?_
  rintro e w2 ⟨A, c, rfl, hlc, hR, hb1⟩
  have n0 := Aside0.mk (below_step (by repeat (first | (with_reducible first | exact HB.out | apply below_alloc | apply pw_below_drewN | apply below_drew1) | refine below_set ?_ (by omega))) hb1)
  clear HB hb1
  have HB := n0
  clear n0
  have HRd := Aside0.mk hR
  have HLc := Aside0.mk hlc
  clear hR hlc
  go_wp2
  go_ret
  exact ⟨A, c, rfl, HLc.out, HRd.out, by repeat (first | (with_reducible first | exact HB.out | apply below_alloc | apply pw_below_drewN | apply below_drew1) | refine below_set ?_ (by omega))⟩
theorem units_nil (w : World) : Calls Try.prog 14 #[.pointer none] w fun e w' => e = .returned (.slice none 0 0) ∧ Below w.heap.size w w' := by
  have HB := Aside0.mk (Below.refl w.heap.size w)
  go_enter Try.func14, Try.ntmps14
  go_wp2
  go_ret
  exact ⟨rfl, by repeat (first | (with_reducible first | exact HB.out | apply below_alloc | apply pw_below_drewN | apply below_drew1) | refine below_set ?_ (by omega))⟩

/-! ### New -/
/-- The slots of a new worker, of the units below u. -/
def fresh (n m u : Int) : Int → Option Sl := fun k => if 0 ≤ k ∧ k < u ∧ k < 16 ∧ k % m = n then some zs else none
theorem fresh_low (n m u k : Int) (h : (fresh n m u k).isSome = true) : 0 ≤ k ∧ k < 16 := by
  unfold fresh at h
  split at h
  · omega
  · cases h
theorem fresh_start (n m : Int) (h1 : 0 ≤ n) (h2 : n < m) : fresh n m n = fun _ => none := by
  funext k
  unfold fresh
  rw [if_neg]
  rintro ⟨h3, h4, h5, h6⟩
  rw [Int.emod_eq_of_lt h3 (by omega)] at h6
  omega
theorem fresh_step (n m u : Int) (h1 : 0 ≤ n) (h2 : n < m) (h3 : 0 ≤ u) (h4 : u < 16) (h5 : u % m = n) : upd (fresh n m u) u zs = fresh n m (u + m) := by
  funext k
  unfold upd fresh
  by_cases e : k = u
  · subst e
    rw [if_pos rfl, if_pos ⟨h3, by omega, h4, h5⟩]
  · rw [if_neg e]
    by_cases c : 0 ≤ k ∧ k < u ∧ k < 16 ∧ k % m = n
    · rw [if_pos c, if_pos ⟨c.1, by omega, c.2.2⟩]
    · rw [if_neg c, if_neg]
      rintro ⟨c1, c2, c3, c4⟩
      have : u < k := by
        rcases Int.lt_or_gt_of_ne e with c5 | c5
        · exact absurd ⟨c1, c5, c3, c4⟩ c
        · exact c5
      have h6 : (k - u) % m = 0 := by rw [Int.sub_emod, c4, h5]; simp
      rw [Int.emod_eq_of_lt (by omega) (by omega)] at h6
      omega
theorem fresh_end (n m u : Int) (h : 16 ≤ u) : fresh n m u = fresh n m 16 := by
  funext k
  unfold fresh
  by_cases c : 0 ≤ k ∧ k < u ∧ k < 16 ∧ k % m = n
  · rw [if_pos c, if_pos ⟨c.1, c.2.2.1, c.2.2⟩]
  · rw [if_neg c, if_neg]
    rintro ⟨c1, c2, c3, c4⟩
    exact c ⟨c1, by omega, c3, c4⟩
theorem wrap64_eq {n : Int} (h : -9223372036854775808 ≤ n) (h1 : n ≤ 9223372036854775807) : wrap64 n = n := by unfold wrap64; omega

set_option maxHeartbeats 1000000 in
theorem new_no (n m : Int) (w : World) (x1 x2 x3 x4 : Bool) (h1 : decide (m < 1) = x1) (h2 : decide (16 < m) = x2) (h3 : decide (n < 0) = x3) (h4 : decide (m ≤ n) = x4) (hx : (x1 || x2 || x3 || x4) = true) : Calls Try.prog 11 #[.int .i64 n, .int .i64 m] w fun e w' => e = .returned (.tuple #[.pointer none, .int .i64 1]) ∧ Below w.heap.size w w' := by
  cases x1 <;> cases x2 <;> cases x3 <;> cases x4 <;> cases hx
  all_goals (
    have HB := Aside0.mk (Below.refl w.heap.size w)
    go_enter Try.func11, Try.ntmps11
    go_wp2
    exact bodyPost_ret (v := .tuple #[.pointer none, .int .i64 1]) (by simp [results, Try.results11, go_sem, *]) rfl ⟨rfl, by repeat (first | (with_reducible first | exact HB.out | apply below_alloc | apply pw_below_drewN | apply below_drew1) | refine below_set ?_ (by omega))⟩
  )
set_option maxHeartbeats 2000000 in
theorem new_q (n m : Int) (w : World) (h1 : 1 ≤ m) (h2 : m ≤ 16) (h3 : 0 ≤ n) (h4 : n < m) : Calls Try.prog 11 #[.int .i64 n, .int .i64 m] w fun e w' => e = .returned (.tuple #[.pointer (some ⟨w.heap.size + 1, 0, none⟩), .int .i64 0]) ∧ Wk w' (w.heap.size + 1) w.heap.size 0 (fresh n m 16) ∧ Below w.heap.size w w' := by
  have t1 : decide (m < 1) = false := decide_eq_false (by omega)
  have t2 : decide (16 < m) = false := decide_eq_false (by omega)
  have t3 : decide (n < 0) = false := decide_eq_false (by omega)
  have t4 : decide (m ≤ n) = false := decide_eq_false (by omega)
  have HN : Aside0 (1 ≤ m ∧ m ≤ 16 ∧ 0 ≤ n ∧ n < m) := ⟨⟨h1, h2, h3, h4⟩⟩
  clear h1 h2 h3 h4
  have HB := Aside0.mk (Below.refl w.heap.size w)
  go_enter Try.func11, Try.ntmps11
  go_wp2_with fail
  go_loopw [7] (fun v7 wr => ∃ (u : Int), v7 = .int .i64 u ∧ Aside0 (0 ≤ u ∧ u ≤ 31 ∧ u % m = n) ∧ Aside0 (Wk wr (w.heap.size + 1) w.heap.size 0 (fresh n m u)) ∧ Aside0 (Below w.heap.size w wr)) (fun v7 _ => 40 - (intOf v7).toNat)
  case atStart =>
    obtain ⟨h1, h2, h3, h4⟩ := HN.out
    refine ⟨n, rfl, ⟨h3, by omega, Int.emod_eq_of_lt h3 h4⟩, ⟨⟨?_, ?_⟩⟩, ⟨by repeat (first | (with_reducible first | exact HB.out | apply below_alloc | apply pw_below_drewN | apply below_drew1) | refine below_set ?_ (by omega))⟩⟩
    · exact IsBlk.new _ _ (by simp)
    · rw [fresh_start n m h3 h4]
      exact (WM.made w).alloc _
  case round =>
    clear HB
    obtain ⟨u, rfl, HU, HK, HB⟩ := hrel
    obtain ⟨wq, hwq⟩ : ∃ x, x = wr := ⟨_, rfl⟩
    subst hwq
    by_cases hu : u < 16
    · have t5 : decide (u < 16) = true := decide_eq_true hu
      have hw : wrap64 (u + m) = u + m := wrap64_eq (by have := HU.out; have := HN.out; omega) (by have := HU.out; have := HN.out; omega)
      have D := HK.out.blk
      have D_0 := blk_cell D 0
      have D_1 := blk_cell D 1
      simp only [List.getElem?_toArray, List.getElem?_cons_zero, List.getElem?_cons_succ] at D_0 D_1
      have D_z0 := blk_frozen D 0
      have D_z1 := blk_frozen D 1
      have D_l := blk_lt D
      have HD := Aside0.mk D
      clear D
      go_wp2_with (at_mapUpdate; refine wpList_put (f := fresh n m u) (q := w.heap.size) _ rfl _ _ _ rfl rfl HK.out.map u ⟨HU.out.1, hu⟩ rfl zs rfl ?_; intro w2 hM hg)
      have hM' := Aside0.mk hM
      have hg' := Aside0.mk hg
      clear hM hg
      have D' : IsBlk w2 (w.heap.size + 1) #[.map (some w.heap.size), .int .i64 0] 65 := IsBlk.grownBy HD.out hg'.out (by omega)
      have HB2 := Aside0.mk (HB.out.grown hg'.out HB.out.size (fun k hk => by cases hk; exact Nat.le_refl _))
      go_roundw
      case rel =>
        obtain ⟨h1, h2, h3, h4⟩ := HN.out
        obtain ⟨h5, h6, h7⟩ := HU.out
        refine ⟨u + m, by rw [hw], ⟨by omega, by omega, by rw [Int.add_emod_right]; exact h7⟩, ⟨⟨D', ?_⟩⟩, HB2⟩
        rw [← fresh_step n m u h3 h4 h5 hu h7]
        exact hM'.out
      case measure =>
        obtain ⟨h1, h2, h3, h4⟩ := HN.out
        obtain ⟨h5, h6, h7⟩ := HU.out
        simp only [intOf, hw]
        omega
    · have t5 : decide (u < 16) = false := decide_eq_false hu
      rw [fresh_end n m u (by omega)] at HK
      go_wp2
      exact bodyPost_ret (v := .tuple #[.pointer (some ⟨w.heap.size + 1, 0, none⟩), .int .i64 0]) (by simp [results, Try.results11, go_sem]) rfl ⟨rfl, HK.out, by repeat (first | (with_reducible first | exact HB.out | apply below_alloc | apply pw_below_drewN | apply below_drew1) | refine below_set ?_ (by omega))⟩
end Go.Proofs.Ytkjaeodnpgpfeaa.W1
