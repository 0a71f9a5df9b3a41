/-
  Proved here: what the reference's Units and Fall answer. No condition.
-/
import Derived.Test.YtkjaeodnpgpfeaaV4
namespace Go.Proofs.Ytkjaeodnpgpfeaa.V5
open Go.RowKit Go.Maps Go.Sort Go.Shelf Go.Proofs.Ytkjaeodnpgpfeaa.M Go.Proofs.Ytkjaeodnpgpfeaa.S0 Go.Proofs.Ytkjaeodnpgpfeaa.S4 Go.Proofs.Ytkjaeodnpgpfeaa.W0 Go.Proofs.YtkjaeodnpgpfeaaW.PrintWords Go.Proofs.YtkjaeodnpgpfeaaW.PrintLast Go.Proofs.YtkjaeodnpgpfeaaW.PrintMore Go.Proofs.Ytkjaeodnpgpfeaa.W1 Go.Proofs.Ytkjaeodnpgpfeaa.W2 Go.Proofs.Ytkjaeodnpgpfeaa.W3 Go.Proofs.Ytkjaeodnpgpfeaa.W4 Go.Proofs.Ytkjaeodnpgpfeaa.W5 Go.Proofs.Ytkjaeodnpgpfeaa.V0 Go.Proofs.Ytkjaeodnpgpfeaa.V1 Go.Proofs.Ytkjaeodnpgpfeaa.V2 Go.Proofs.Ytkjaeodnpgpfeaa.V3 Go.Proofs.Ytkjaeodnpgpfeaa.V4
set_option linter.unusedVariables false
set_option linter.unusedSimpArgs false
attribute [local go_sem] max2_int min2_int max_two min_two min_five run_makeMap

/-- The own units below i. -/
def uL (n m : Int) (i : Nat) : List Int := ((List.range i).filter fun (u : Nat) => ownB n m (u : Int)).map Int.ofNat
theorem uL_succ (n m : Int) (i : Nat) : uL n m (i + 1) = uL n m i ++ (if ownB n m (i : Int) = true then [(i : Int)] else []) := by
  unfold uL
  rw [List.range_succ, List.filter_append, List.map_append]
  congr 1
  simp only [List.filter_cons, List.filter_nil]
  split <;> rfl
theorem uL_len (n m : Int) (i : Nat) : (uL n m i).length ≤ i := by
  have := List.length_filter_le (fun u : Nat => ownB n m (u : Int)) (List.range i)
  simpa [uL] using this
theorem info3 : (Try.prog.info? 3).map (fun i => (i.zero, i.size, i.bytes)) = some (some (.int .i64 0), 1, 8) := by kernel_rfl
theorem ki_mkM (w : World) (base : Nat) (ok : Nat → Prop) (x : Int) : (Kd.int .i64).M w base ok x [.int .i64 x] := rfl
set_option maxHeartbeats 4000000 in
set_option maxRecDepth 100000 in
theorem units16 (n m seen : Int) (h : Nat → Sl) (w : World) (hm : 1 ≤ m ∧ m ≤ 16) : Calls Try.prog 40 #[.agg (rv n m seen h)] w fun e w' => ∃ (A : Option Addr) (c : Nat), e = .returned (.slice A (uL n m 16).length c) ∧ (uL n m 16).length ≤ c ∧ Kd.C (Kd.int .i64) w' A (uL n m 16).length (uL n m 16) ∧ Below w.heap.size w w' := by
  have HB := Aside0.mk (Below.refl w.heap.size w)
  go_enter Try.func40, Try.ntmps40
  go_wp2_with fail
  have HRB : Aside0 (IsBlk (w.alloc (.cells (rv n m seen h) 47)) w.heap.size (rv n m seen h) 47) := ⟨IsBlk.new _ _ rfl⟩
  have HBw : Aside0 (Below w.heap.size w (w.alloc (.cells (rv n m seen h) 47))) := ⟨below_alloc HB.out _⟩
  clear HB
  generalize (w.alloc (.cells (rv n m seen h) 47)) = wB at *
  have HB := Aside0.mk (Below.refl wB.heap.size wB)
  go_loopw [3, 4] (fun v3 v4 wr => ∃ (i : Int), v4 = .int .i64 i ∧ Aside0 (0 ≤ i ∧ i ≤ 16) ∧ Aside0 (Kd.R (Kd.int .i64) 3 wr wB.heap.size (fun _ => True) v3 (uL n m i.toNat)) ∧ Aside0 (Below wB.heap.size wB wr)) (fun _ v4 _ => 40 - (intOf v4).toNat)
  case atStart => exact ⟨0, rfl, ⟨by omega⟩, ⟨Kd.R_nil _ _ _ _ _⟩, HB⟩
  case round =>
    clear HB
    obtain ⟨i, rfl, HI, HO, HB⟩ := hrel
    obtain ⟨wq, hwq⟩ : ∃ x, x = wr := ⟨_, rfl⟩
    subst hwq
    by_cases hi : i < 16
    · have t1 : decide (i < 16) = true := decide_eq_true hi
      have hi0 : 0 ≤ i := HI.out.1
      have HIL := Aside0.mk (And.intro hi0 hi)
      have hsucc := uL_succ n m i.toNat
      rw [show ((i.toNat : Nat) : Int) = i by omega] at hsucc
      have HLE : Aside0 ((uL n m i.toNat).length ≤ 16) := ⟨by have := uL_len n m i.toNat; omega⟩
      have HSUC := Aside0.mk hsucc
      clear hsucc
      go_wp2_with ((with_reducible refine wpList_loadW w.heap.size (rv n m seen h) ?_ ?_ (rv_size _ _ _ _) ?_); rfl; exact IsBlk.below HRB.out HB.out)
      refine (own_q n m seen h i _ hm.1 hm.2).mono ?_
      cases ho : ownB n m i
      · rintro e w1 ⟨rfl, hb1⟩
        have HOW := Aside0.mk ho
        have HO' := Aside0.mk (Kd.R_below HO.out hb1)
        clear ho HO
        have n0 := Aside0.mk (below_step (by repeat (first | (with_reducible first | exact HB.out | apply below_alloc | apply pw_below_drewN | apply below_drew1) | refine below_set ?_ (by omega))) hb1)
        clear HB hb1
        have HB := n0
        clear n0
        have hw1 : wrap64 (i + 1) = i + 1 := wrap64_eq (by omega) (by omega)
        go_wp2
        go_roundw
        case rel => exact ⟨i + 1, by first | rfl | rw [hw1], ⟨by have := HIL.out; omega⟩, ⟨by have h3 := HIL.out; rw [show (i + 1).toNat = i.toNat + 1 by omega, HSUC.out, HOW.out]; simpa using HO'.out⟩, HB⟩
        case measure => have := HIL.out; simp [intOf, hw1]; omega
      · rintro e w1 ⟨rfl, hb1⟩
        have HOW := Aside0.mk ho
        have HO' := Aside0.mk (Kd.R_below HO.out hb1)
        clear ho HO
        have n0 := Aside0.mk (below_step (by repeat (first | (with_reducible first | exact HB.out | apply below_alloc | apply pw_below_drewN | apply below_drew1) | refine below_set ?_ (by omega))) hb1)
        clear HB hb1
        have HB := n0
        clear n0
        have hw1 : wrap64 (i + 1) = i + 1 := wrap64_eq (by omega) (by omega)
        obtain ⟨U, hU⟩ : ∃ x, uL n m i.toNat = x := ⟨_, rfl⟩
        rw [hU] at HO' HLE HSUC
        clear hU
        go_wp2_with (
            (with_reducible refine gate_builtin (b := .append) (xs := #[.tmp 14, .tmp 16]) rfl ?_)
            at_builtin
            refine Kd.R_append (Kd.int .i64) (w0 := wB) wB.heap.size rfl (.tmp 14) (.tmp 16) 23 3 _ 8 rfl Try.underlying23 info3 rfl (by decide) (by decide) u3 U i [.int .i64 i] (fun _ => True) (fun _ => False) rfl (by first | (go_simp; done) | (go_simp; rfl)) ?aP (fun _ hk => hk.elim) (fun _ _ => trivial) ?aO ?aB ?aS ?aL ?_
            case aP => exact ki_mkM _ _ _ i
            case aO => exact (by (with_reducible repeat (first | apply Kd.R_alloc | apply Kd.R_drewN | apply Kd.R_drew)); exact HO'.out)
            case aB => exact (by repeat (first | (with_reducible first | exact HB.out | apply below_alloc | apply pw_below_drewN | apply below_drew1) | refine below_set ?_ (by omega)))
            case aS => exact (show _ from Below.size (by repeat (first | (with_reducible first | exact HB.out | apply below_alloc | apply pw_below_drewN | apply below_drew1) | refine below_set ?_ (by omega))))
            case aL => have := HLE.out; omega
            intro v1 w4 ho hb hg hat
            have HO2 := Aside0.mk ho
            have HB2 := Aside0.mk hb
            clear ho hb hg hat)
        go_roundw
        case rel => exact ⟨i + 1, by first | rfl | rw [hw1], ⟨by have := HIL.out; omega⟩, ⟨by have h3 := HIL.out; rw [show (i + 1).toNat = i.toNat + 1 by omega, HSUC.out, HOW.out]; exact HO2.out⟩, HB2⟩
        case measure => have := HIL.out; simp [intOf, hw1]; omega
    · have t1 : decide (i < 16) = false := decide_eq_false hi
      obtain rfl : i = 16 := by have := HI.out; omega
      obtain ⟨A1, c1, rfl, hlc, hC⟩ := Kd.R_reads HO.out
      have HC1 := Aside0.mk hC
      have HLC := Aside0.mk hlc
      clear hC hlc HO
      have HB3 := Aside0.mk (below_step HBw.out HB.out)
      go_wp2
      go_ret
      exact ⟨A1, c1, rfl, HLC.out, HC1.out, HB3.out⟩

/-! ### Fall -/
def fallH (h : Nat → Sl) (i : Nat) : Nat → Sl := fun u => if u < i then (falls (h u)).1 else h u
theorem fallH_zero (h : Nat → Sl) : fallH h 0 = h := by funext u; unfold fallH; rw [if_neg (by omega)]
theorem fallH_at (h : Nat → Sl) (i : Nat) : fallH h i i = h i := by unfold fallH; rw [if_neg (by omega)]
theorem fallH_succ (h : Nat → Sl) (i : Nat) : hupd (fallH h i) i (falls (h i)).1 = fallH h (i + 1) := by
  funext u
  unfold hupd fallH
  by_cases e : u = i
  · subst e; rw [if_pos rfl, if_pos (by omega)]
  · rw [if_neg e]
    by_cases e2 : u < i
    · rw [if_pos e2, if_pos (by omega)]
    · rw [if_neg e2, if_neg (by omega)]
def cntF (h : Nat → Sl) (i : Nat) : Nat := ((List.range i).filter fun (u : Nat) => (falls (h u)).2).length
theorem cntF_succ (h : Nat → Sl) (i : Nat) : cntF h (i + 1) = cntF h i + if (falls (h i)).2 = true then 1 else 0 := by
  unfold cntF
  rw [List.range_succ, List.filter_append, List.length_append]
  congr 1
  simp only [List.filter_cons, List.filter_nil]
  split <;> rfl
theorem cntF_le (h : Nat → Sl) (i : Nat) : cntF h i ≤ i := by
  have := List.length_filter_le (fun u : Nat => (falls (h u)).2) (List.range i)
  simpa [cntF] using this
set_option maxHeartbeats 4000000 in
set_option maxRecDepth 100000 in
theorem fall16 (n m seen : Int) (h : Nat → Sl) (w : World) : Calls Try.prog 33 #[.agg (rv n m seen h)] w fun e w' => e = .returned (.tuple #[.agg (rv n m seen (fallH h 16)), .int .i64 (cntF h 16 : Int)]) ∧ Below w.heap.size w w' := by
  have HB := Aside0.mk (Below.refl w.heap.size w)
  go_enter Try.func33, Try.ntmps33
  go_wp2_with fail
  go_loopw [4, 5] (fun v4 v5 wr => ∃ (i c : Int), v5 = .int .i64 i ∧ v4 = .int .i64 c ∧ Aside0 (0 ≤ i ∧ i ≤ 16) ∧ Aside0 (c = (cntF h i.toNat : Int)) ∧ Aside0 (IsBlk wr w.heap.size (rv n m seen (fallH h i.toNat)) 47) ∧ Aside0 (IsBlk wr (w.heap.size + 1) Try.zeroCells47 47) ∧ Aside0 (Below w.heap.size w wr)) (fun _ v5 _ => 40 - (intOf v5).toNat)
  case atStart => exact ⟨0, 0, rfl, rfl, ⟨by omega⟩, ⟨rfl⟩, ⟨by rw [show (0 : Int).toNat = 0 from rfl, fallH_zero]; exact IsBlk.alloc (IsBlk.new _ _ rfl) _⟩, ⟨IsBlk.new _ _ (by simp)⟩, ⟨below_alloc (below_alloc HB.out _) _⟩⟩
  case round =>
    clear HB
    obtain ⟨i, c0, rfl, rfl, HI, HC, HR, HZ, HB⟩ := hrel
    obtain ⟨wq, hwq⟩ : ∃ x, x = wr := ⟨_, rfl⟩
    subst hwq
    by_cases hi : i < 16
    · have t1 : decide (i < 16) = true := decide_eq_true hi
      have hi0 : 0 ≤ i := HI.out.1
      have HIL := Aside0.mk (And.intro hi0 hi)
      have HU : Aside0 (i.toNat < 16) := ⟨by omega⟩
      have hat := fallH_at h i.toNat
      have hsuc := fallH_succ h i.toNat
      have hcs := cntF_succ h i.toNat
      have hle := cntF_le h i.toNat
      have hcb : 0 ≤ c0 ∧ c0 ≤ 16 := by have := HC.out; omega
      obtain ⟨hcb0, hcb1⟩ := hcb
      obtain ⟨⟨a, b, c, d⟩, hs⟩ : ∃ s, h i.toNat = s := ⟨_, rfl⟩
      rcases hf : falls ⟨a, b, c, d⟩ with ⟨⟨a', b', c', d'⟩, y⟩
      rw [hs] at hat
      rw [hs, hf] at hsuc hcs
      have HS := Aside0.mk hat
      have HSUC := Aside0.mk hsuc
      have HCS := Aside0.mk hcs
      have hc : ∀ w, Calls Try.prog 52 #[S1.sval a b c d] w fun e w' => e = .returned (.tuple #[S1.sval a' b' c' d', .bool y]) ∧ Below w.heap.size w w' := fun w => by
        have hh := S6.rfall_any ⟨a, b, c, d⟩ w
        rw [hf] at hh
        exact hh
      clear hat hsuc hcs hle hs hf
      have R_a : wq.cell? ⟨w.heap.size, 3 + i.toNat * 4, none⟩ = some (.int .i64 a) := by have := (blk_cell HR.out (3 + i.toNat * 4 + 0)).trans (rv_u n m seen (fallH h i.toNat) i.toNat 0 HU.out (by decide)); rw [HS.out, Nat.add_zero] at this; exact this
      have R_b : wq.cell? ⟨w.heap.size, 3 + i.toNat * 4 + 1, none⟩ = some (.int .i64 b) := by have := (blk_cell HR.out (3 + i.toNat * 4 + 1)).trans (rv_u n m seen (fallH h i.toNat) i.toNat 1 HU.out (by decide)); rw [HS.out] at this; exact this
      have R_c : wq.cell? ⟨w.heap.size, 3 + i.toNat * 4 + 2, none⟩ = some (.int .i64 c) := by have := (blk_cell HR.out (3 + i.toNat * 4 + 2)).trans (rv_u n m seen (fallH h i.toNat) i.toNat 2 HU.out (by decide)); rw [HS.out] at this; exact this
      have R_d : wq.cell? ⟨w.heap.size, 3 + i.toNat * 4 + 3, none⟩ = some (.int .i64 d) := by have := (blk_cell HR.out (3 + i.toNat * 4 + 3)).trans (rv_u n m seen (fallH h i.toNat) i.toNat 3 HU.out (by decide)); rw [HS.out] at this; exact this
      have R_z := fun j => blk_frozen HR.out j
      go_wp2_with fail
      refine (hc _).mono ?_
      rintro e w1 ⟨rfl, hb1⟩
      have HR' : Aside0 (IsBlk w1 w.heap.size (rv n m seen (fallH h i.toNat)) 47) := ⟨IsBlk.below HR.out hb1⟩
      have HZ' : Aside0 (IsBlk w1 (w.heap.size + 1) Try.zeroCells47 47) := ⟨IsBlk.below HZ.out hb1⟩
      clear HR HZ R_a R_b R_c R_d R_z
      have HR := HR'
      have HZ := HZ'
      clear HR' HZ'
      have n0 := Aside0.mk (below_step (by repeat (first | (with_reducible first | exact HB.out | apply below_alloc | apply pw_below_drewN | apply below_drew1) | refine below_set ?_ (by omega))) hb1)
      clear HB hb1
      have HB := n0
      clear n0
      have R_a : w1.cell? ⟨w.heap.size, 3 + i.toNat * 4, none⟩ = some (.int .i64 a) := by have := (blk_cell HR.out (3 + i.toNat * 4 + 0)).trans (rv_u n m seen (fallH h i.toNat) i.toNat 0 HU.out (by decide)); rw [HS.out, Nat.add_zero] at this; exact this
      have R_b : w1.cell? ⟨w.heap.size, 3 + i.toNat * 4 + 1, none⟩ = some (.int .i64 b) := by have := (blk_cell HR.out (3 + i.toNat * 4 + 1)).trans (rv_u n m seen (fallH h i.toNat) i.toNat 1 HU.out (by decide)); rw [HS.out] at this; exact this
      have R_c : w1.cell? ⟨w.heap.size, 3 + i.toNat * 4 + 2, none⟩ = some (.int .i64 c) := by have := (blk_cell HR.out (3 + i.toNat * 4 + 2)).trans (rv_u n m seen (fallH h i.toNat) i.toNat 2 HU.out (by decide)); rw [HS.out] at this; exact this
      have R_d : w1.cell? ⟨w.heap.size, 3 + i.toNat * 4 + 3, none⟩ = some (.int .i64 d) := by have := (blk_cell HR.out (3 + i.toNat * 4 + 3)).trans (rv_u n m seen (fallH h i.toNat) i.toNat 3 HU.out (by decide)); rw [HS.out] at this; exact this
      have R_z := fun j => blk_frozen HR.out j
      have R_l := blk_lt HR.out
      have hw1 : wrap64 (i + 1) = i + 1 := wrap64_eq (by omega) (by omega)
      have hw2 : wrap64 (c0 + 1) = c0 + 1 := wrap64_eq (by omega) (by omega)
      go_upto_region 7 with fail
      have HR5 : Aside0 (IsBlk (((((((w1).setCell ⟨w.heap.size, 3 + i.toNat * 4, none⟩ (.int .i64 a')).setCell ⟨w.heap.size, 3 + i.toNat * 4 + 1, none⟩ (.int .i64 b')).setCell ⟨w.heap.size, 3 + i.toNat * 4 + 2, none⟩ (.int .i64 c')).setCell ⟨w.heap.size, 3 + i.toNat * 4 + 3, none⟩ (.int .i64 d'))).alloc (.cells #[.int .i64 a', .int .i64 b', .int .i64 c', .int .i64 d'] 44)) w.heap.size (rv n m seen (fallH h (i.toNat + 1))) 47) := ⟨by have hp := IsBlk.alloc (put4 HR.out i.toNat HU.out a' b' c' d') (.cells #[.int .i64 a', .int .i64 b', .int .i64 c', .int .i64 d'] 44); rw [HSUC.out] at hp; exact hp⟩
      have HZ5 : Aside0 (IsBlk (((((((w1).setCell ⟨w.heap.size, 3 + i.toNat * 4, none⟩ (.int .i64 a')).setCell ⟨w.heap.size, 3 + i.toNat * 4 + 1, none⟩ (.int .i64 b')).setCell ⟨w.heap.size, 3 + i.toNat * 4 + 2, none⟩ (.int .i64 c')).setCell ⟨w.heap.size, 3 + i.toNat * 4 + 3, none⟩ (.int .i64 d'))).alloc (.cells #[.int .i64 a', .int .i64 b', .int .i64 c', .int .i64 d'] 44)) (w.heap.size + 1) Try.zeroCells47 47) := ⟨IsBlk.alloc (far4' HZ.out (by omega) _ _ _ _) _⟩
      have HB5 : Aside0 (Below w.heap.size w (((((((w1).setCell ⟨w.heap.size, 3 + i.toNat * 4, none⟩ (.int .i64 a')).setCell ⟨w.heap.size, 3 + i.toNat * 4 + 1, none⟩ (.int .i64 b')).setCell ⟨w.heap.size, 3 + i.toNat * 4 + 2, none⟩ (.int .i64 c')).setCell ⟨w.heap.size, 3 + i.toNat * 4 + 3, none⟩ (.int .i64 d'))).alloc (.cells #[.int .i64 a', .int .i64 b', .int .i64 c', .int .i64 d'] 44))) := ⟨below_alloc (below4' HB.out (Nat.le_refl _) _ _ _ _) _⟩
      clear HR HZ HB R_a R_b R_c R_d R_z R_l
      generalize (((((((w1).setCell ⟨w.heap.size, 3 + i.toNat * 4, none⟩ (.int .i64 a')).setCell ⟨w.heap.size, 3 + i.toNat * 4 + 1, none⟩ (.int .i64 b')).setCell ⟨w.heap.size, 3 + i.toNat * 4 + 2, none⟩ (.int .i64 c')).setCell ⟨w.heap.size, 3 + i.toNat * 4 + 3, none⟩ (.int .i64 d'))).alloc (.cells #[.int .i64 a', .int .i64 b', .int .i64 c', .int .i64 d'] 44)) = w6 at *
      have HR := HR5
      have HZ := HZ5
      have HB := HB5
      clear HR5 HZ5 HB5
      cases y
      · skip
        go_wp2
        go_roundw
        case rel => exact ⟨i + 1, c0, by first | rfl | rw [hw1], by first | rfl | rw [hw2], ⟨by have := HIL.out; omega⟩, ⟨by have h1 := HCS.out; have h2 := HC.out; have h3 := HIL.out; rw [show (i + 1).toNat = i.toNat + 1 by omega, h1]; simp; omega⟩, ⟨by rw [show (i + 1).toNat = i.toNat + 1 by have h3 := HIL.out; omega]; exact HR.out⟩, HZ, HB⟩
        case measure => have := HIL.out; simp [intOf, hw1]; omega
      · skip
        go_wp2
        go_roundw
        case rel => exact ⟨i + 1, c0 + 1, by first | rfl | rw [hw1], by first | rfl | rw [hw2], ⟨by have := HIL.out; omega⟩, ⟨by have h1 := HCS.out; have h2 := HC.out; have h3 := HIL.out; rw [show (i + 1).toNat = i.toNat + 1 by omega, h1]; simp; omega⟩, ⟨by rw [show (i + 1).toNat = i.toNat + 1 by have h3 := HIL.out; omega]; exact HR.out⟩, HZ, HB⟩
        case measure => have := HIL.out; simp [intOf, hw1]; omega
    · have t1 : decide (i < 16) = false := decide_eq_false hi
      obtain rfl : i = 16 := by have := HI.out; omega
      obtain rfl : c0 = (cntF h 16 : Int) := HC.out
      have HR2 : Aside0 (IsBlk wq w.heap.size (rv n m seen (fallH h 16)) 47) := ⟨HR.out⟩
      clear HR
      have HR := HR2
      clear HR2
      go_wp2_with (first | ((with_reducible refine wpList_loadW w.heap.size (rv n m seen (fallH h 16)) ?_ ?_ (rv_size _ _ _ _) ?_); rfl; exact HR.out) | ((with_reducible refine wpList_storeW (w.heap.size + 1) Try.zeroCells47 (rv n m seen (fallH h 16)) ?_ ?_ ?_ z67_size (rv_size _ _ _ _) (rv_one _ _ _ _) ?_); rfl; rfl; exact HZ.out; intro w9 hb9 hg9))
      refine retW Try.results33 (w.heap.size + 1) (rv n m seen (fallH h 16)) _ rfl rfl hb9 (rv_size _ _ _ _) rfl ⟨rfl, ?_⟩
      exact below_of_new HB.out hg9 (by omega) HB.out.size
end Go.Proofs.Ytkjaeodnpgpfeaa.V5
