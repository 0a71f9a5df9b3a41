/-
  Proved here: what the reference's Report and Count answer. No condition.
-/
import Derived.Test.YtkjaeodnpgpfeaaV3
namespace Go.Proofs.Ytkjaeodnpgpfeaa.V4
open Go.RowKit Go.Maps Go.Sort Go.Shelf Go.Proofs.Ytkjaeodnpgpfeaa.M Go.Proofs.Ytkjaeodnpgpfeaa.S0 Go.Proofs.Ytkjaeodnpgpfeaa.S4 Go.Proofs.Ytkjaeodnpgpfeaa.W0 Go.Proofs.YtkjaeodnpgpfeaaW.PrintWords Go.Proofs.YtkjaeodnpgpfeaaW.PrintLast Go.Proofs.YtkjaeodnpgpfeaaW.PrintMore Go.Proofs.Ytkjaeodnpgpfeaa.W1 Go.Proofs.Ytkjaeodnpgpfeaa.W2 Go.Proofs.Ytkjaeodnpgpfeaa.W3 Go.Proofs.Ytkjaeodnpgpfeaa.W4 Go.Proofs.Ytkjaeodnpgpfeaa.W5 Go.Proofs.Ytkjaeodnpgpfeaa.V0 Go.Proofs.Ytkjaeodnpgpfeaa.V1 Go.Proofs.Ytkjaeodnpgpfeaa.V2 Go.Proofs.Ytkjaeodnpgpfeaa.V3
set_option linter.unusedVariables false
set_option linter.unusedSimpArgs false
attribute [local go_sem] max2_int min2_int max_two min_two min_five run_makeMap

set_option maxHeartbeats 1000000 in
theorem rep16_no (n m seen : Int) (h : Nat → Sl) (k : Int) (w : World) (hm : 1 ≤ m ∧ m ≤ 16) (ho : ownB n m k = false) : Calls Try.prog 37 #[.agg (rv n m seen h), .int .i64 k] w fun e w' => e = .returned (.tuple #[.agg #[.int .i64 0, .int .i64 0, .int .i64 0, .int .i64 0, .int .i64 0, .int .i64 0], .bool false]) ∧ Below w.heap.size w w' := by
  have HB := Aside0.mk (Below.refl w.heap.size w)
  have HOW := Aside0.mk ho
  clear ho
  go_enter Try.func37, Try.ntmps37
  go_wp2_with ((with_reducible refine wpList_loadW w.heap.size (rv n m seen h) ?_ ?_ (rv_size _ _ _ _) ?_); rfl; exact IsBlk.alloc (IsBlk.new _ _ rfl) _)
  refine (own_q n m seen h k _ hm.1 hm.2).mono ?_
  rw [HOW.out]
  rintro e w1 ⟨rfl, hb1⟩
  have R : IsBlk w1 w.heap.size (rv n m seen h) 47 := IsBlk.below (IsBlk.alloc (IsBlk.new _ _ rfl) _) hb1
  have HR := Aside0.mk R
  clear R
  have M : IsBlk w1 (w.heap.size + 1) #[.int .i64 0, .int .i64 0, .int .i64 0, .int .i64 0, .int .i64 0, .int .i64 0] 26 := IsBlk.below (IsBlk.new _ _ (by simp)) hb1
  have M_0 := blk_cell M 0
  have M_1 := blk_cell M 1
  have M_2 := blk_cell M 2
  have M_3 := blk_cell M 3
  have M_4 := blk_cell M 4
  have M_5 := blk_cell M 5
  simp only [List.getElem?_toArray, List.getElem?_cons_zero, List.getElem?_cons_succ] at M_0 M_1 M_2 M_3 M_4 M_5
  have M_z0 := blk_frozen M 0
  have M_z1 := blk_frozen M 1
  have M_z2 := blk_frozen M 2
  have M_z3 := blk_frozen M 3
  have M_z4 := blk_frozen M 4
  have M_z5 := blk_frozen M 5
  have M_l := blk_lt M
  have HM := Aside0.mk M
  clear M
  have n0 := Aside0.mk (below_step (by repeat (first | (with_reducible first | exact HB.out | apply below_alloc | apply pw_below_drewN | apply below_drew1) | refine below_set ?_ (by omega))) hb1)
  clear HB hb1
  have HB := n0
  clear n0
  go_wp2
  exact bodyPost_ret (v := .tuple #[.agg #[.int .i64 0, .int .i64 0, .int .i64 0, .int .i64 0, .int .i64 0, .int .i64 0], .bool false]) (by simp [results, Try.results37, go_sem, *]) rfl ⟨rfl, by repeat (first | (with_reducible first | exact HB.out | apply below_alloc | apply pw_below_drewN | apply below_drew1) | refine below_set ?_ (by omega))⟩
set_option maxHeartbeats 4000000 in
set_option maxRecDepth 100000 in
theorem rep16_l (n m seen : Int) (h : Nat → Sl) (k : Int) (w : World) (hm : 1 ≤ m ∧ m ≤ 16) (ho : ownB n m k = true) (hu : 0 ≤ k ∧ k < 16) (a b c d : Int) (hs : h k.toNat = ⟨a, b, c, d⟩) : Calls Try.prog 37 #[.agg (rv n m seen h), .int .i64 k] w fun e w' => e = .returned (.tuple #[.agg #[.int .i64 2, .int .i64 seen, .int .i64 d, .int .i64 k, .int .i64 b, .int .i64 a], .bool true]) ∧ Below w.heap.size w w' := by
  obtain ⟨hu0, hu1⟩ := hu
  have HS := Aside0.mk hs
  have HU : Aside0 (k.toNat < 16) := ⟨by omega⟩
  clear hs
  have HB := Aside0.mk (Below.refl w.heap.size w)
  have HOW := Aside0.mk ho
  clear ho
  go_enter Try.func37, Try.ntmps37
  go_wp2_with ((with_reducible refine wpList_loadW w.heap.size (rv n m seen h) ?_ ?_ (rv_size _ _ _ _) ?_); rfl; exact IsBlk.alloc (IsBlk.new _ _ rfl) _)
  refine (own_q n m seen h k _ hm.1 hm.2).mono ?_
  rw [HOW.out]
  rintro e w1 ⟨rfl, hb1⟩
  have R : IsBlk w1 w.heap.size (rv n m seen h) 47 := IsBlk.below (IsBlk.alloc (IsBlk.new _ _ rfl) _) hb1
  have HR := Aside0.mk R
  clear R
  have M : IsBlk w1 (w.heap.size + 1) #[.int .i64 0, .int .i64 0, .int .i64 0, .int .i64 0, .int .i64 0, .int .i64 0] 26 := IsBlk.below (IsBlk.new _ _ (by simp)) hb1
  have M_0 := blk_cell M 0
  have M_1 := blk_cell M 1
  have M_2 := blk_cell M 2
  have M_3 := blk_cell M 3
  have M_4 := blk_cell M 4
  have M_5 := blk_cell M 5
  simp only [List.getElem?_toArray, List.getElem?_cons_zero, List.getElem?_cons_succ] at M_0 M_1 M_2 M_3 M_4 M_5
  have M_z0 := blk_frozen M 0
  have M_z1 := blk_frozen M 1
  have M_z2 := blk_frozen M 2
  have M_z3 := blk_frozen M 3
  have M_z4 := blk_frozen M 4
  have M_z5 := blk_frozen M 5
  have M_l := blk_lt M
  have HM := Aside0.mk M
  clear M
  have n0 := Aside0.mk (below_step (by repeat (first | (with_reducible first | exact HB.out | apply below_alloc | apply pw_below_drewN | apply below_drew1) | refine below_set ?_ (by omega))) hb1)
  clear HB hb1
  have HB := n0
  clear n0
  have R_a : w1.cell? ⟨w.heap.size, 3 + k.toNat * 4, none⟩ = some (.int .i64 a) := by have := (blk_cell HR.out (3 + k.toNat * 4 + 0)).trans (rv_u n m seen h k.toNat 0 HU.out (by decide)); rw [HS.out, Nat.add_zero] at this; exact this
  have R_b : w1.cell? ⟨w.heap.size, 3 + k.toNat * 4 + 1, none⟩ = some (.int .i64 b) := by have := (blk_cell HR.out (3 + k.toNat * 4 + 1)).trans (rv_u n m seen h k.toNat 1 HU.out (by decide)); rw [HS.out] at this; exact this
  have R_c : w1.cell? ⟨w.heap.size, 3 + k.toNat * 4 + 2, none⟩ = some (.int .i64 c) := by have := (blk_cell HR.out (3 + k.toNat * 4 + 2)).trans (rv_u n m seen h k.toNat 2 HU.out (by decide)); rw [HS.out] at this; exact this
  have R_d : w1.cell? ⟨w.heap.size, 3 + k.toNat * 4 + 3, none⟩ = some (.int .i64 d) := by have := (blk_cell HR.out (3 + k.toNat * 4 + 3)).trans (rv_u n m seen h k.toNat 3 HU.out (by decide)); rw [HS.out] at this; exact this
  have R_z := fun j => blk_frozen HR.out j
  have R_2 : w1.cell? ⟨w.heap.size, 2, none⟩ = some (.int .i64 seen) := (blk_cell HR.out 2).trans (rv_2 n m seen h)
  have R_l := blk_lt HR.out
  go_wp2
  exact bodyPost_ret (v := .tuple #[.agg #[.int .i64 2, .int .i64 seen, .int .i64 d, .int .i64 k, .int .i64 b, .int .i64 a], .bool true]) (by simp [results, Try.results37, go_sem, *]) rfl ⟨rfl, by repeat (first | (with_reducible first | exact HB.out | apply below_alloc | apply pw_below_drewN | apply below_drew1) | refine below_set ?_ (by omega))⟩

/-- How many of the first i units have a state. -/
def cntH (n m : Int) (h : Nat → Sl) (st : Int) (i : Nat) : Nat := ((List.range i).filter fun (u : Nat) => ownB n m (u : Int) && (h u).st == st).length
theorem cntH_zero (n m : Int) (h : Nat → Sl) (st : Int) : cntH n m h st 0 = 0 := rfl
theorem cntH_succ (n m : Int) (h : Nat → Sl) (st : Int) (i : Nat) : cntH n m h st (i + 1) = cntH n m h st i + if (ownB n m (i : Int) && (h i).st == st) = true then 1 else 0 := by
  unfold cntH
  rw [List.range_succ, List.filter_append, List.length_append]
  congr 1
  simp only [List.filter_cons, List.filter_nil]
  split <;> rfl
theorem cntH_le (n m : Int) (h : Nat → Sl) (st : Int) (i : Nat) : cntH n m h st i ≤ i := by
  have := List.length_filter_le (fun u : Nat => ownB n m (u : Int) && (h u).st == st) (List.range i)
  simpa [cntH] using this
set_option maxHeartbeats 4000000 in
set_option maxRecDepth 100000 in
theorem count16 (n m seen : Int) (h : Nat → Sl) (st : Int) (w : World) (hm : 1 ≤ m ∧ m ≤ 16) : Calls Try.prog 39 #[.agg (rv n m seen h), .int .i64 st] w fun e w' => e = .returned (.int .i64 (cntH n m h st 16)) ∧ Below w.heap.size w w' := by
  have HB := Aside0.mk (Below.refl w.heap.size w)
  go_enter Try.func39, Try.ntmps39
  go_wp2_with fail
  go_loopw [5, 6] (fun v5 v6 wr => ∃ (i c : Int), v6 = .int .i64 i ∧ v5 = .int .i64 c ∧ Aside0 (0 ≤ i ∧ i ≤ 16) ∧ Aside0 (c = (cntH n m h st i.toNat : Int)) ∧ Aside0 (IsBlk wr w.heap.size (rv n m seen h) 47) ∧ Aside0 (Below w.heap.size w wr)) (fun _ v6 _ => 40 - (intOf v6).toNat)
  case atStart => exact ⟨0, 0, rfl, rfl, ⟨by omega⟩, ⟨rfl⟩, ⟨IsBlk.new _ _ rfl⟩, ⟨below_alloc HB.out _⟩⟩
  case round =>
    clear HB
    obtain ⟨i, c0, rfl, rfl, HI, HC, HR, HB⟩ := hrel
    obtain ⟨wq, hwq⟩ : ∃ x, x = wr := ⟨_, rfl⟩
    subst hwq
    by_cases hi : i < 16
    · have t1 : decide (i < 16) = true := decide_eq_true hi
      have hi0 : 0 ≤ i := HI.out.1
      have HIL := Aside0.mk (And.intro hi0 hi)
      have HU : Aside0 (i.toNat < 16) := ⟨by omega⟩
      have hsucc := cntH_succ n m h st i.toNat
      have hle := cntH_le n m h st i.toNat
      rw [show ((i.toNat : Nat) : Int) = i by omega] at hsucc
      have hcb : 0 ≤ c0 ∧ c0 ≤ 16 := by have := HC.out; omega
      have HSUC := Aside0.mk hsucc
      clear hsucc hle
      go_wp2_with ((with_reducible refine wpList_loadW w.heap.size (rv n m seen h) ?_ ?_ (rv_size _ _ _ _) ?_); rfl; exact HR.out)
      refine (own_q n m seen h i _ hm.1 hm.2).mono ?_
      cases ho : ownB n m i
      · rintro e w1 ⟨rfl, hb1⟩
        have HOW := Aside0.mk ho
        clear ho
        have HR' : Aside0 (IsBlk w1 w.heap.size (rv n m seen h) 47) := ⟨IsBlk.below HR.out hb1⟩
        clear HR
        have n0 := Aside0.mk (below_step (by repeat (first | (with_reducible first | exact HB.out | apply below_alloc | apply pw_below_drewN | apply below_drew1) | refine below_set ?_ (by omega))) hb1)
        clear HB hb1
        have HB := n0
        clear n0
        have hw1 : wrap64 (i + 1) = i + 1 := wrap64_eq (by omega) (by omega)
        go_wp2
        go_roundw
        case rel => exact ⟨i + 1, c0, by first | rfl | rw [hw1], rfl, ⟨by have := HIL.out; omega⟩, ⟨by have h1 := HSUC.out; rw [HOW.out] at h1; have h2 := HC.out; have h3 := HIL.out; rw [show (i + 1).toNat = i.toNat + 1 by omega, h1]; simp; omega⟩, HR', HB⟩
        case measure => have := HIL.out; simp [intOf, hw1]; omega
      · rintro e w1 ⟨rfl, hb1⟩
        have HOW := Aside0.mk ho
        clear ho
        have HR' : Aside0 (IsBlk w1 w.heap.size (rv n m seen h) 47) := ⟨IsBlk.below HR.out hb1⟩
        clear HR
        have n0 := Aside0.mk (below_step (by repeat (first | (with_reducible first | exact HB.out | apply below_alloc | apply pw_below_drewN | apply below_drew1) | refine below_set ?_ (by omega))) hb1)
        clear HB hb1
        have HB := n0
        clear n0
        have hw1 : wrap64 (i + 1) = i + 1 := wrap64_eq (by omega) (by omega)
        have hw2 : wrap64 (c0 + 1) = c0 + 1 := wrap64_eq (by omega) (by omega)
        have R_a : w1.cell? ⟨w.heap.size, 3 + i.toNat * 4, none⟩ = some (.int .i64 (h i.toNat).st) := (blk_cell HR'.out (3 + i.toNat * 4 + 0)).trans (rv_u n m seen h i.toNat 0 HU.out (by decide))
        obtain ⟨sst, hss⟩ : ∃ x, (h i.toNat).st = x := ⟨_, rfl⟩
        rw [hss] at R_a
        have HSS := Aside0.mk hss
        clear hss
        by_cases he : sst = st
        · have t2 : (sst == st) = true := by simp [he]
          have HE := Aside0.mk he
          clear he
          go_wp2
          go_roundw
          case rel => exact ⟨i + 1, c0 + 1, by first | rfl | rw [hw1], by first | rfl | rw [hw2], ⟨by have := HIL.out; omega⟩, ⟨by have h1 := HSUC.out; rw [HOW.out, HSS.out, t2] at h1; have h2 := HC.out; have h3 := HIL.out; rw [show (i + 1).toNat = i.toNat + 1 by omega, h1]; simp; omega⟩, HR', HB⟩
          case measure => have := HIL.out; simp [intOf, hw1]; omega
        · have t2 : (sst == st) = false := by simp [he]
          clear he
          go_wp2
          go_roundw
          case rel => exact ⟨i + 1, c0, by first | rfl | rw [hw1], rfl, ⟨by have := HIL.out; omega⟩, ⟨by have h1 := HSUC.out; rw [HOW.out, HSS.out, t2] at h1; have h2 := HC.out; have h3 := HIL.out; rw [show (i + 1).toNat = i.toNat + 1 by omega, h1]; simp; omega⟩, HR', HB⟩
          case measure => have := HIL.out; simp [intOf, hw1]; omega
    · have t1 : decide (i < 16) = false := decide_eq_false hi
      obtain rfl : i = 16 := by have := HI.out; omega
      obtain rfl : c0 = (cntH n m h st 16 : Int) := HC.out
      go_wp2
      go_ret
      exact ⟨rfl, by repeat (first | (with_reducible first | exact HB.out | apply below_alloc | apply pw_below_drewN | apply below_drew1) | refine below_set ?_ (by omega))⟩
end Go.Proofs.Ytkjaeodnpgpfeaa.V4
