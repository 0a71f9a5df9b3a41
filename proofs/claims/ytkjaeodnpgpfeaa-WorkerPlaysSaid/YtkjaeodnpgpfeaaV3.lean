/-
  Proved here: what the reference's Turn and Report answer. No condition.
-/
import Derived.Test.YtkjaeodnpgpfeaaV2
namespace Go.Proofs.Ytkjaeodnpgpfeaa.V3
open Go.RowKit Go.Maps Go.Sort Go.Shelf Go.Proofs.Ytkjaeodnpgpfeaa.M Go.Proofs.Ytkjaeodnpgpfeaa.S0 Go.Proofs.Ytkjaeodnpgpfeaa.S4 Go.Proofs.Ytkjaeodnpgpfeaa.W0 Go.Proofs.YtkjaeodnpgpfeaaW.PrintWords Go.Proofs.YtkjaeodnpgpfeaaW.PrintLast Go.Proofs.YtkjaeodnpgpfeaaW.PrintMore Go.Proofs.Ytkjaeodnpgpfeaa.W1 Go.Proofs.Ytkjaeodnpgpfeaa.W2 Go.Proofs.Ytkjaeodnpgpfeaa.W3 Go.Proofs.Ytkjaeodnpgpfeaa.W4 Go.Proofs.Ytkjaeodnpgpfeaa.W5 Go.Proofs.Ytkjaeodnpgpfeaa.V0 Go.Proofs.Ytkjaeodnpgpfeaa.V1 Go.Proofs.Ytkjaeodnpgpfeaa.V2
set_option linter.unusedVariables false
set_option linter.unusedSimpArgs false
attribute [local go_sem] max2_int min2_int max_two min_two min_five run_makeMap

set_option maxHeartbeats 1000000 in
theorem go16_no (n m seen : Int) (h : Nat → Sl) (k : Int) (w : World) (hm : 1 ≤ m ∧ m ≤ 16) (ho : ownB n m k = false) : Calls Try.prog 32 #[.agg (rv n m seen h), .int .i64 k, .int .i64 1] w fun e w' => e = .returned (.tuple #[.agg (rv n m seen h), .bool false]) ∧ Below w.heap.size w w' := by
  have HB := Aside0.mk (Below.refl w.heap.size w)
  have HOW := Aside0.mk ho
  clear ho
  go_enter Try.func32, Try.ntmps32
  go_wp2_with ((with_reducible refine wpList_loadW w.heap.size (rv n m seen h) ?_ ?_ (rv_size _ _ _ _) ?_); rfl; exact IsBlk.alloc (IsBlk.new _ _ rfl) _)
  refine (own_q n m seen h k _ hm.1 hm.2).mono ?_
  rw [HOW.out]
  rintro e w1 ⟨rfl, hb1⟩
  have R : IsBlk w1 w.heap.size (rv n m seen h) 47 := IsBlk.below (IsBlk.alloc (IsBlk.new _ _ rfl) _) hb1
  have Z : IsBlk w1 (w.heap.size + 1) Try.zeroCells47 47 := IsBlk.below (IsBlk.new _ _ (by simp)) hb1
  have HZ := Aside0.mk Z
  have HZL := Aside0.mk (show w.heap.size + 1 < w1.heap.size from blk_lt Z)
  clear Z
  have HR := Aside0.mk R
  clear R
  have n0 := Aside0.mk (below_step (by repeat (first | (with_reducible first | exact HB.out | apply below_alloc | apply pw_below_drewN | apply below_drew1) | refine below_set ?_ (by omega))) hb1)
  clear HB hb1
  have HB := n0
  clear n0
  go_wp2_with (first | ((with_reducible refine wpList_loadW w.heap.size (rv n m seen h) ?_ ?_ (rv_size _ _ _ _) ?_); rfl; (first | exact HR.out | exact HR.out.alloc _)) | ((with_reducible refine wpList_storeW (w.heap.size + 1) Try.zeroCells47 (rv n m seen h) ?_ ?_ ?_ z67_size (rv_size _ _ _ _) (rv_one _ _ _ _) ?_); rfl; rfl; exact HZ.out; intro w9 hb9 hg9))
  refine retW Try.results32 (w.heap.size + 1) (rv n m seen h) _ rfl rfl hb9 (rv_size _ _ _ _) rfl ⟨rfl, ?_⟩
  exact below_of_new HB.out hg9 (by omega) HB.out.size
set_option maxRecDepth 100000 in
set_option maxHeartbeats 4000000 in
theorem go16_l (n m seen : Int) (h : Nat → Sl) (k : Int) (w : World) (hm : 1 ≤ m ∧ m ≤ 16) (ho : ownB n m k = true) (hu : 0 ≤ k ∧ k < 16) (a b c d a' b' c' d' : Int) (y : Bool) (hs : h k.toNat = ⟨a, b, c, d⟩) (hw : goes ⟨a, b, c, d⟩ = (⟨a', b', c', d'⟩, y)) : Calls Try.prog 32 #[.agg (rv n m seen h), .int .i64 k, .int .i64 1] w fun e w' => e = .returned (.tuple #[.agg (rv n m seen (hupd h k.toNat ⟨a', b', c', d'⟩)), .bool y]) ∧ Below w.heap.size w w' := by
  have hc : ∀ w, Calls Try.prog 50 #[S1.sval a b c d] w fun e w' => e = .returned (.tuple #[S1.sval a' b' c' d', .bool y]) ∧ Below w.heap.size w w' := fun w => by
    have hh := S6.rgo_any ⟨a, b, c, d⟩ w
    rw [hw] at hh
    exact hh
  clear hw
  obtain ⟨hu0, hu1⟩ := hu
  have HS := Aside0.mk hs
  have HU : Aside0 (k.toNat < 16) := ⟨by omega⟩
  clear hs
  have HB := Aside0.mk (Below.refl w.heap.size w)
  have HOW := Aside0.mk ho
  clear ho
  go_enter Try.func32, Try.ntmps32
  go_wp2_with ((with_reducible refine wpList_loadW w.heap.size (rv n m seen h) ?_ ?_ (rv_size _ _ _ _) ?_); rfl; exact IsBlk.alloc (IsBlk.new _ _ rfl) _)
  refine (own_q n m seen h k _ hm.1 hm.2).mono ?_
  rw [HOW.out]
  rintro e w1 ⟨rfl, hb1⟩
  have R : IsBlk w1 w.heap.size (rv n m seen h) 47 := IsBlk.below (IsBlk.alloc (IsBlk.new _ _ rfl) _) hb1
  have Z : IsBlk w1 (w.heap.size + 1) Try.zeroCells47 47 := IsBlk.below (IsBlk.new _ _ (by simp)) hb1
  have HZ := Aside0.mk Z
  have HZL := Aside0.mk (show w.heap.size + 1 < w1.heap.size from blk_lt Z)
  clear Z
  have HR := Aside0.mk R
  clear R
  have n0 := Aside0.mk (below_step (by repeat (first | (with_reducible first | exact HB.out | apply below_alloc | apply pw_below_drewN | apply below_drew1) | refine below_set ?_ (by omega))) hb1)
  clear HB hb1
  have HB := n0
  clear n0
  have R_a : w1.cell? ⟨w.heap.size, 3 + k.toNat * 4, none⟩ = some (.int .i64 a) := by have := (blk_cell HR.out (3 + k.toNat * 4 + 0)).trans (rv_u n m seen h k.toNat 0 HU.out (by decide)); rw [HS.out, Nat.add_zero] at this; exact this
  have R_b : w1.cell? ⟨w.heap.size, 3 + k.toNat * 4 + 1, none⟩ = some (.int .i64 b) := by have := (blk_cell HR.out (3 + k.toNat * 4 + 1)).trans (rv_u n m seen h k.toNat 1 HU.out (by decide)); rw [HS.out] at this; exact this
  have R_c : w1.cell? ⟨w.heap.size, 3 + k.toNat * 4 + 2, none⟩ = some (.int .i64 c) := by have := (blk_cell HR.out (3 + k.toNat * 4 + 2)).trans (rv_u n m seen h k.toNat 2 HU.out (by decide)); rw [HS.out] at this; exact this
  have R_d : w1.cell? ⟨w.heap.size, 3 + k.toNat * 4 + 3, none⟩ = some (.int .i64 d) := by have := (blk_cell HR.out (3 + k.toNat * 4 + 3)).trans (rv_u n m seen h k.toNat 3 HU.out (by decide)); rw [HS.out] at this; exact this
  have R_z := fun j => blk_frozen HR.out j
  go_wp2_with fail
  refine (hc _).mono ?_
  rintro e w2 ⟨rfl, hb1⟩
  clear R_a R_b R_c R_d R_z
  have HR' : Aside0 (IsBlk w2 w.heap.size (rv n m seen h) 47) := ⟨IsBlk.below (IsBlk.alloc HR.out _) hb1⟩
  have HZ' : Aside0 (IsBlk w2 (w.heap.size + 1) Try.zeroCells47 47) := ⟨IsBlk.below (IsBlk.alloc HZ.out _) hb1⟩
  have T : IsBlk w2 w1.heap.size #[.int .i64 a, .int .i64 b, .int .i64 c, .int .i64 d] 44 := IsBlk.below (IsBlk.new _ _ rfl) hb1
  have HRT := Aside0.mk (show w.heap.size < w1.heap.size from blk_lt HR.out)
  clear HR HZ
  have HR := HR'
  have HZ := HZ'
  clear HR' HZ'
  have n0 := Aside0.mk (below_step (by repeat (first | (with_reducible first | exact HB.out | apply below_alloc | apply pw_below_drewN | apply below_drew1) | refine below_set ?_ (by omega))) hb1)
  clear HB hb1
  have HB := n0
  clear n0
  have R_a : w2.cell? ⟨w.heap.size, 3 + k.toNat * 4, none⟩ = some (.int .i64 a) := by have := (blk_cell HR.out (3 + k.toNat * 4 + 0)).trans (rv_u n m seen h k.toNat 0 HU.out (by decide)); rw [HS.out, Nat.add_zero] at this; exact this
  have R_b : w2.cell? ⟨w.heap.size, 3 + k.toNat * 4 + 1, none⟩ = some (.int .i64 b) := by have := (blk_cell HR.out (3 + k.toNat * 4 + 1)).trans (rv_u n m seen h k.toNat 1 HU.out (by decide)); rw [HS.out] at this; exact this
  have R_c : w2.cell? ⟨w.heap.size, 3 + k.toNat * 4 + 2, none⟩ = some (.int .i64 c) := by have := (blk_cell HR.out (3 + k.toNat * 4 + 2)).trans (rv_u n m seen h k.toNat 2 HU.out (by decide)); rw [HS.out] at this; exact this
  have R_d : w2.cell? ⟨w.heap.size, 3 + k.toNat * 4 + 3, none⟩ = some (.int .i64 d) := by have := (blk_cell HR.out (3 + k.toNat * 4 + 3)).trans (rv_u n m seen h k.toNat 3 HU.out (by decide)); rw [HS.out] at this; exact this
  have R_z := fun j => blk_frozen HR.out j
  have T_0 := blk_cell T 0
  have T_1 := blk_cell T 1
  have T_2 := blk_cell T 2
  have T_3 := blk_cell T 3
  simp only [List.getElem?_toArray, List.getElem?_cons_zero, List.getElem?_cons_succ] at T_0 T_1 T_2 T_3
  have T_z0 := blk_frozen T 0
  have T_z1 := blk_frozen T 1
  have T_z2 := blk_frozen T 2
  have T_z3 := blk_frozen T 3
  have T_l := blk_lt T
  have HT := Aside0.mk T
  clear T
  have R_l := blk_lt HR.out
  have hne : w1.heap.size ≠ w.heap.size := by have := HRT.out; omega
  have hne2 : w.heap.size ≠ w1.heap.size := by have := HRT.out; omega
  go_upto_region 20 with fail
  have HT4 := HRT
  have HR5 : Aside0 (IsBlk ((((((((((((w2).setCell ⟨w1.heap.size, 0, none⟩ (.int .i64 a')).setCell ⟨w1.heap.size, 1, none⟩ (.int .i64 b')).setCell ⟨w1.heap.size, 2, none⟩ (.int .i64 c')).setCell ⟨w1.heap.size, 3, none⟩ (.int .i64 d'))).setCell ⟨w.heap.size, 3 + k.toNat * 4, none⟩ (.int .i64 a')).setCell ⟨w.heap.size, 3 + k.toNat * 4 + 1, none⟩ (.int .i64 b')).setCell ⟨w.heap.size, 3 + k.toNat * 4 + 2, none⟩ (.int .i64 c')).setCell ⟨w.heap.size, 3 + k.toNat * 4 + 3, none⟩ (.int .i64 d'))).alloc (.cells #[.int .i64 a', .int .i64 b', .int .i64 c', .int .i64 d'] 44)) w.heap.size (rv n m seen (hupd h k.toNat ⟨a', b', c', d'⟩)) 47) := ⟨IsBlk.alloc (put4 (far4 HR.out hne2 _ _ _ _) k.toNat HU.out a' b' c' d') _⟩
  have HZ5 : Aside0 (IsBlk ((((((((((((w2).setCell ⟨w1.heap.size, 0, none⟩ (.int .i64 a')).setCell ⟨w1.heap.size, 1, none⟩ (.int .i64 b')).setCell ⟨w1.heap.size, 2, none⟩ (.int .i64 c')).setCell ⟨w1.heap.size, 3, none⟩ (.int .i64 d'))).setCell ⟨w.heap.size, 3 + k.toNat * 4, none⟩ (.int .i64 a')).setCell ⟨w.heap.size, 3 + k.toNat * 4 + 1, none⟩ (.int .i64 b')).setCell ⟨w.heap.size, 3 + k.toNat * 4 + 2, none⟩ (.int .i64 c')).setCell ⟨w.heap.size, 3 + k.toNat * 4 + 3, none⟩ (.int .i64 d'))).alloc (.cells #[.int .i64 a', .int .i64 b', .int .i64 c', .int .i64 d'] 44)) (w.heap.size + 1) Try.zeroCells47 47) := ⟨IsBlk.alloc (far4' (far4 HZ.out (by have := HZL.out; omega) _ _ _ _) (by omega) _ _ _ _) _⟩
  have HB5 : Aside0 (Below w.heap.size w ((((((((((((w2).setCell ⟨w1.heap.size, 0, none⟩ (.int .i64 a')).setCell ⟨w1.heap.size, 1, none⟩ (.int .i64 b')).setCell ⟨w1.heap.size, 2, none⟩ (.int .i64 c')).setCell ⟨w1.heap.size, 3, none⟩ (.int .i64 d'))).setCell ⟨w.heap.size, 3 + k.toNat * 4, none⟩ (.int .i64 a')).setCell ⟨w.heap.size, 3 + k.toNat * 4 + 1, none⟩ (.int .i64 b')).setCell ⟨w.heap.size, 3 + k.toNat * 4 + 2, none⟩ (.int .i64 c')).setCell ⟨w.heap.size, 3 + k.toNat * 4 + 3, none⟩ (.int .i64 d'))).alloc (.cells #[.int .i64 a', .int .i64 b', .int .i64 c', .int .i64 d'] 44))) := ⟨below_alloc (below4' (below4 HB.out (by have := HRT.out; omega) _ _ _ _) (Nat.le_refl _) _ _ _ _) _⟩
  clear HR HZ HB R_a R_b R_c R_d R_z R_l T_0 T_1 T_2 T_3 T_z0 T_z1 T_z2 T_z3 T_l HT
  generalize ((((((((((((w2).setCell ⟨w1.heap.size, 0, none⟩ (.int .i64 a')).setCell ⟨w1.heap.size, 1, none⟩ (.int .i64 b')).setCell ⟨w1.heap.size, 2, none⟩ (.int .i64 c')).setCell ⟨w1.heap.size, 3, none⟩ (.int .i64 d'))).setCell ⟨w.heap.size, 3 + k.toNat * 4, none⟩ (.int .i64 a')).setCell ⟨w.heap.size, 3 + k.toNat * 4 + 1, none⟩ (.int .i64 b')).setCell ⟨w.heap.size, 3 + k.toNat * 4 + 2, none⟩ (.int .i64 c')).setCell ⟨w.heap.size, 3 + k.toNat * 4 + 3, none⟩ (.int .i64 d'))).alloc (.cells #[.int .i64 a', .int .i64 b', .int .i64 c', .int .i64 d'] 44)) = w6 at *
  have HR := HR5
  have HZ := HZ5
  have HB := HB5
  clear HR5 HZ5 HB5
  go_wp2_with (first | ((with_reducible refine wpList_loadW w.heap.size (rv n m seen (hupd h k.toNat ⟨a', b', c', d'⟩)) ?_ ?_ (rv_size _ _ _ _) ?_); rfl; (first | exact HR.out | exact HR.out.alloc _)) | ((with_reducible refine wpList_storeW (w.heap.size + 1) Try.zeroCells47 (rv n m seen (hupd h k.toNat ⟨a', b', c', d'⟩)) ?_ ?_ ?_ z67_size (rv_size _ _ _ _) (rv_one _ _ _ _) ?_); rfl; rfl; exact HZ.out; intro w9 hb9 hg9))
  refine retW Try.results32 (w.heap.size + 1) (rv n m seen (hupd h k.toNat ⟨a', b', c', d'⟩)) _ rfl rfl hb9 (rv_size _ _ _ _) rfl ⟨rfl, ?_⟩
  exact below_of_new HB.out hg9 (by omega) HB.out.size
set_option maxHeartbeats 1000000 in
theorem hurt16_no (n m seen : Int) (h : Nat → Sl) (k : Int) (w : World) (hm : 1 ≤ m ∧ m ≤ 16) (ho : ownB n m k = false) : Calls Try.prog 32 #[.agg (rv n m seen h), .int .i64 k, .int .i64 2] w fun e w' => e = .returned (.tuple #[.agg (rv n m seen h), .bool false]) ∧ Below w.heap.size w w' := by
  have HB := Aside0.mk (Below.refl w.heap.size w)
  have HOW := Aside0.mk ho
  clear ho
  go_enter Try.func32, Try.ntmps32
  go_wp2_with ((with_reducible refine wpList_loadW w.heap.size (rv n m seen h) ?_ ?_ (rv_size _ _ _ _) ?_); rfl; exact IsBlk.alloc (IsBlk.new _ _ rfl) _)
  refine (own_q n m seen h k _ hm.1 hm.2).mono ?_
  rw [HOW.out]
  rintro e w1 ⟨rfl, hb1⟩
  have R : IsBlk w1 w.heap.size (rv n m seen h) 47 := IsBlk.below (IsBlk.alloc (IsBlk.new _ _ rfl) _) hb1
  have Z : IsBlk w1 (w.heap.size + 1) Try.zeroCells47 47 := IsBlk.below (IsBlk.new _ _ (by simp)) hb1
  have HZ := Aside0.mk Z
  have HZL := Aside0.mk (show w.heap.size + 1 < w1.heap.size from blk_lt Z)
  clear Z
  have HR := Aside0.mk R
  clear R
  have n0 := Aside0.mk (below_step (by repeat (first | (with_reducible first | exact HB.out | apply below_alloc | apply pw_below_drewN | apply below_drew1) | refine below_set ?_ (by omega))) hb1)
  clear HB hb1
  have HB := n0
  clear n0
  go_wp2_with (first | ((with_reducible refine wpList_loadW w.heap.size (rv n m seen h) ?_ ?_ (rv_size _ _ _ _) ?_); rfl; (first | exact HR.out | exact HR.out.alloc _)) | ((with_reducible refine wpList_storeW (w.heap.size + 1) Try.zeroCells47 (rv n m seen h) ?_ ?_ ?_ z67_size (rv_size _ _ _ _) (rv_one _ _ _ _) ?_); rfl; rfl; exact HZ.out; intro w9 hb9 hg9))
  refine retW Try.results32 (w.heap.size + 1) (rv n m seen h) _ rfl rfl hb9 (rv_size _ _ _ _) rfl ⟨rfl, ?_⟩
  exact below_of_new HB.out hg9 (by omega) HB.out.size
set_option maxRecDepth 100000 in
set_option maxHeartbeats 4000000 in
theorem hurt16_l (n m seen : Int) (h : Nat → Sl) (k : Int) (w : World) (hm : 1 ≤ m ∧ m ≤ 16) (ho : ownB n m k = true) (hu : 0 ≤ k ∧ k < 16) (a b c d a' b' c' d' : Int) (y : Bool) (hs : h k.toNat = ⟨a, b, c, d⟩) (hw : turns ⟨a, b, c, d⟩ 2 3 = (⟨a', b', c', d'⟩, y)) : Calls Try.prog 32 #[.agg (rv n m seen h), .int .i64 k, .int .i64 2] w fun e w' => e = .returned (.tuple #[.agg (rv n m seen (hupd h k.toNat ⟨a', b', c', d'⟩)), .bool y]) ∧ Below w.heap.size w w' := by
  have hc : ∀ w, Calls Try.prog 51 #[S1.sval a b c d, .int .i64 2, .int .i64 3] w fun e w' => e = .returned (.tuple #[S1.sval a' b' c' d', .bool y]) ∧ Below w.heap.size w w' := fun w => by
    have hh := S6.rturn_any ⟨a, b, c, d⟩ 2 3 w
    rw [hw] at hh
    exact hh
  clear hw
  obtain ⟨hu0, hu1⟩ := hu
  have HS := Aside0.mk hs
  have HU : Aside0 (k.toNat < 16) := ⟨by omega⟩
  clear hs
  have HB := Aside0.mk (Below.refl w.heap.size w)
  have HOW := Aside0.mk ho
  clear ho
  go_enter Try.func32, Try.ntmps32
  go_wp2_with ((with_reducible refine wpList_loadW w.heap.size (rv n m seen h) ?_ ?_ (rv_size _ _ _ _) ?_); rfl; exact IsBlk.alloc (IsBlk.new _ _ rfl) _)
  refine (own_q n m seen h k _ hm.1 hm.2).mono ?_
  rw [HOW.out]
  rintro e w1 ⟨rfl, hb1⟩
  have R : IsBlk w1 w.heap.size (rv n m seen h) 47 := IsBlk.below (IsBlk.alloc (IsBlk.new _ _ rfl) _) hb1
  have Z : IsBlk w1 (w.heap.size + 1) Try.zeroCells47 47 := IsBlk.below (IsBlk.new _ _ (by simp)) hb1
  have HZ := Aside0.mk Z
  have HZL := Aside0.mk (show w.heap.size + 1 < w1.heap.size from blk_lt Z)
  clear Z
  have HR := Aside0.mk R
  clear R
  have n0 := Aside0.mk (below_step (by repeat (first | (with_reducible first | exact HB.out | apply below_alloc | apply pw_below_drewN | apply below_drew1) | refine below_set ?_ (by omega))) hb1)
  clear HB hb1
  have HB := n0
  clear n0
  have R_a : w1.cell? ⟨w.heap.size, 3 + k.toNat * 4, none⟩ = some (.int .i64 a) := by have := (blk_cell HR.out (3 + k.toNat * 4 + 0)).trans (rv_u n m seen h k.toNat 0 HU.out (by decide)); rw [HS.out, Nat.add_zero] at this; exact this
  have R_b : w1.cell? ⟨w.heap.size, 3 + k.toNat * 4 + 1, none⟩ = some (.int .i64 b) := by have := (blk_cell HR.out (3 + k.toNat * 4 + 1)).trans (rv_u n m seen h k.toNat 1 HU.out (by decide)); rw [HS.out] at this; exact this
  have R_c : w1.cell? ⟨w.heap.size, 3 + k.toNat * 4 + 2, none⟩ = some (.int .i64 c) := by have := (blk_cell HR.out (3 + k.toNat * 4 + 2)).trans (rv_u n m seen h k.toNat 2 HU.out (by decide)); rw [HS.out] at this; exact this
  have R_d : w1.cell? ⟨w.heap.size, 3 + k.toNat * 4 + 3, none⟩ = some (.int .i64 d) := by have := (blk_cell HR.out (3 + k.toNat * 4 + 3)).trans (rv_u n m seen h k.toNat 3 HU.out (by decide)); rw [HS.out] at this; exact this
  have R_z := fun j => blk_frozen HR.out j
  go_wp2_with fail
  refine (hc _).mono ?_
  rintro e w2 ⟨rfl, hb1⟩
  clear R_a R_b R_c R_d R_z
  have HR' : Aside0 (IsBlk w2 w.heap.size (rv n m seen h) 47) := ⟨IsBlk.below (IsBlk.alloc HR.out _) hb1⟩
  have HZ' : Aside0 (IsBlk w2 (w.heap.size + 1) Try.zeroCells47 47) := ⟨IsBlk.below (IsBlk.alloc HZ.out _) hb1⟩
  have T : IsBlk w2 w1.heap.size #[.int .i64 a, .int .i64 b, .int .i64 c, .int .i64 d] 44 := IsBlk.below (IsBlk.new _ _ rfl) hb1
  have HRT := Aside0.mk (show w.heap.size < w1.heap.size from blk_lt HR.out)
  clear HR HZ
  have HR := HR'
  have HZ := HZ'
  clear HR' HZ'
  have n0 := Aside0.mk (below_step (by repeat (first | (with_reducible first | exact HB.out | apply below_alloc | apply pw_below_drewN | apply below_drew1) | refine below_set ?_ (by omega))) hb1)
  clear HB hb1
  have HB := n0
  clear n0
  have R_a : w2.cell? ⟨w.heap.size, 3 + k.toNat * 4, none⟩ = some (.int .i64 a) := by have := (blk_cell HR.out (3 + k.toNat * 4 + 0)).trans (rv_u n m seen h k.toNat 0 HU.out (by decide)); rw [HS.out, Nat.add_zero] at this; exact this
  have R_b : w2.cell? ⟨w.heap.size, 3 + k.toNat * 4 + 1, none⟩ = some (.int .i64 b) := by have := (blk_cell HR.out (3 + k.toNat * 4 + 1)).trans (rv_u n m seen h k.toNat 1 HU.out (by decide)); rw [HS.out] at this; exact this
  have R_c : w2.cell? ⟨w.heap.size, 3 + k.toNat * 4 + 2, none⟩ = some (.int .i64 c) := by have := (blk_cell HR.out (3 + k.toNat * 4 + 2)).trans (rv_u n m seen h k.toNat 2 HU.out (by decide)); rw [HS.out] at this; exact this
  have R_d : w2.cell? ⟨w.heap.size, 3 + k.toNat * 4 + 3, none⟩ = some (.int .i64 d) := by have := (blk_cell HR.out (3 + k.toNat * 4 + 3)).trans (rv_u n m seen h k.toNat 3 HU.out (by decide)); rw [HS.out] at this; exact this
  have R_z := fun j => blk_frozen HR.out j
  have T_0 := blk_cell T 0
  have T_1 := blk_cell T 1
  have T_2 := blk_cell T 2
  have T_3 := blk_cell T 3
  simp only [List.getElem?_toArray, List.getElem?_cons_zero, List.getElem?_cons_succ] at T_0 T_1 T_2 T_3
  have T_z0 := blk_frozen T 0
  have T_z1 := blk_frozen T 1
  have T_z2 := blk_frozen T 2
  have T_z3 := blk_frozen T 3
  have T_l := blk_lt T
  have HT := Aside0.mk T
  clear T
  have R_l := blk_lt HR.out
  have hne : w1.heap.size ≠ w.heap.size := by have := HRT.out; omega
  have hne2 : w.heap.size ≠ w1.heap.size := by have := HRT.out; omega
  go_upto_region 20 with fail
  have HT4 := HRT
  have HR5 : Aside0 (IsBlk ((((((((((((w2).setCell ⟨w1.heap.size, 0, none⟩ (.int .i64 a')).setCell ⟨w1.heap.size, 1, none⟩ (.int .i64 b')).setCell ⟨w1.heap.size, 2, none⟩ (.int .i64 c')).setCell ⟨w1.heap.size, 3, none⟩ (.int .i64 d'))).setCell ⟨w.heap.size, 3 + k.toNat * 4, none⟩ (.int .i64 a')).setCell ⟨w.heap.size, 3 + k.toNat * 4 + 1, none⟩ (.int .i64 b')).setCell ⟨w.heap.size, 3 + k.toNat * 4 + 2, none⟩ (.int .i64 c')).setCell ⟨w.heap.size, 3 + k.toNat * 4 + 3, none⟩ (.int .i64 d'))).alloc (.cells #[.int .i64 a', .int .i64 b', .int .i64 c', .int .i64 d'] 44)) w.heap.size (rv n m seen (hupd h k.toNat ⟨a', b', c', d'⟩)) 47) := ⟨IsBlk.alloc (put4 (far4 HR.out hne2 _ _ _ _) k.toNat HU.out a' b' c' d') _⟩
  have HZ5 : Aside0 (IsBlk ((((((((((((w2).setCell ⟨w1.heap.size, 0, none⟩ (.int .i64 a')).setCell ⟨w1.heap.size, 1, none⟩ (.int .i64 b')).setCell ⟨w1.heap.size, 2, none⟩ (.int .i64 c')).setCell ⟨w1.heap.size, 3, none⟩ (.int .i64 d'))).setCell ⟨w.heap.size, 3 + k.toNat * 4, none⟩ (.int .i64 a')).setCell ⟨w.heap.size, 3 + k.toNat * 4 + 1, none⟩ (.int .i64 b')).setCell ⟨w.heap.size, 3 + k.toNat * 4 + 2, none⟩ (.int .i64 c')).setCell ⟨w.heap.size, 3 + k.toNat * 4 + 3, none⟩ (.int .i64 d'))).alloc (.cells #[.int .i64 a', .int .i64 b', .int .i64 c', .int .i64 d'] 44)) (w.heap.size + 1) Try.zeroCells47 47) := ⟨IsBlk.alloc (far4' (far4 HZ.out (by have := HZL.out; omega) _ _ _ _) (by omega) _ _ _ _) _⟩
  have HB5 : Aside0 (Below w.heap.size w ((((((((((((w2).setCell ⟨w1.heap.size, 0, none⟩ (.int .i64 a')).setCell ⟨w1.heap.size, 1, none⟩ (.int .i64 b')).setCell ⟨w1.heap.size, 2, none⟩ (.int .i64 c')).setCell ⟨w1.heap.size, 3, none⟩ (.int .i64 d'))).setCell ⟨w.heap.size, 3 + k.toNat * 4, none⟩ (.int .i64 a')).setCell ⟨w.heap.size, 3 + k.toNat * 4 + 1, none⟩ (.int .i64 b')).setCell ⟨w.heap.size, 3 + k.toNat * 4 + 2, none⟩ (.int .i64 c')).setCell ⟨w.heap.size, 3 + k.toNat * 4 + 3, none⟩ (.int .i64 d'))).alloc (.cells #[.int .i64 a', .int .i64 b', .int .i64 c', .int .i64 d'] 44))) := ⟨below_alloc (below4' (below4 HB.out (by have := HRT.out; omega) _ _ _ _) (Nat.le_refl _) _ _ _ _) _⟩
  clear HR HZ HB R_a R_b R_c R_d R_z R_l T_0 T_1 T_2 T_3 T_z0 T_z1 T_z2 T_z3 T_l HT
  generalize ((((((((((((w2).setCell ⟨w1.heap.size, 0, none⟩ (.int .i64 a')).setCell ⟨w1.heap.size, 1, none⟩ (.int .i64 b')).setCell ⟨w1.heap.size, 2, none⟩ (.int .i64 c')).setCell ⟨w1.heap.size, 3, none⟩ (.int .i64 d'))).setCell ⟨w.heap.size, 3 + k.toNat * 4, none⟩ (.int .i64 a')).setCell ⟨w.heap.size, 3 + k.toNat * 4 + 1, none⟩ (.int .i64 b')).setCell ⟨w.heap.size, 3 + k.toNat * 4 + 2, none⟩ (.int .i64 c')).setCell ⟨w.heap.size, 3 + k.toNat * 4 + 3, none⟩ (.int .i64 d'))).alloc (.cells #[.int .i64 a', .int .i64 b', .int .i64 c', .int .i64 d'] 44)) = w6 at *
  have HR := HR5
  have HZ := HZ5
  have HB := HB5
  clear HR5 HZ5 HB5
  go_wp2_with (first | ((with_reducible refine wpList_loadW w.heap.size (rv n m seen (hupd h k.toNat ⟨a', b', c', d'⟩)) ?_ ?_ (rv_size _ _ _ _) ?_); rfl; (first | exact HR.out | exact HR.out.alloc _)) | ((with_reducible refine wpList_storeW (w.heap.size + 1) Try.zeroCells47 (rv n m seen (hupd h k.toNat ⟨a', b', c', d'⟩)) ?_ ?_ ?_ z67_size (rv_size _ _ _ _) (rv_one _ _ _ _) ?_); rfl; rfl; exact HZ.out; intro w9 hb9 hg9))
  refine retW Try.results32 (w.heap.size + 1) (rv n m seen (hupd h k.toNat ⟨a', b', c', d'⟩)) _ rfl rfl hb9 (rv_size _ _ _ _) rfl ⟨rfl, ?_⟩
  exact below_of_new HB.out hg9 (by omega) HB.out.size
set_option maxHeartbeats 1000000 in
theorem heal16_no (n m seen : Int) (h : Nat → Sl) (k : Int) (w : World) (hm : 1 ≤ m ∧ m ≤ 16) (ho : ownB n m k = false) : Calls Try.prog 32 #[.agg (rv n m seen h), .int .i64 k, .int .i64 3] w fun e w' => e = .returned (.tuple #[.agg (rv n m seen h), .bool false]) ∧ Below w.heap.size w w' := by
  have HB := Aside0.mk (Below.refl w.heap.size w)
  have HOW := Aside0.mk ho
  clear ho
  go_enter Try.func32, Try.ntmps32
  go_wp2_with ((with_reducible refine wpList_loadW w.heap.size (rv n m seen h) ?_ ?_ (rv_size _ _ _ _) ?_); rfl; exact IsBlk.alloc (IsBlk.new _ _ rfl) _)
  refine (own_q n m seen h k _ hm.1 hm.2).mono ?_
  rw [HOW.out]
  rintro e w1 ⟨rfl, hb1⟩
  have R : IsBlk w1 w.heap.size (rv n m seen h) 47 := IsBlk.below (IsBlk.alloc (IsBlk.new _ _ rfl) _) hb1
  have Z : IsBlk w1 (w.heap.size + 1) Try.zeroCells47 47 := IsBlk.below (IsBlk.new _ _ (by simp)) hb1
  have HZ := Aside0.mk Z
  have HZL := Aside0.mk (show w.heap.size + 1 < w1.heap.size from blk_lt Z)
  clear Z
  have HR := Aside0.mk R
  clear R
  have n0 := Aside0.mk (below_step (by repeat (first | (with_reducible first | exact HB.out | apply below_alloc | apply pw_below_drewN | apply below_drew1) | refine below_set ?_ (by omega))) hb1)
  clear HB hb1
  have HB := n0
  clear n0
  go_wp2_with (first | ((with_reducible refine wpList_loadW w.heap.size (rv n m seen h) ?_ ?_ (rv_size _ _ _ _) ?_); rfl; (first | exact HR.out | exact HR.out.alloc _)) | ((with_reducible refine wpList_storeW (w.heap.size + 1) Try.zeroCells47 (rv n m seen h) ?_ ?_ ?_ z67_size (rv_size _ _ _ _) (rv_one _ _ _ _) ?_); rfl; rfl; exact HZ.out; intro w9 hb9 hg9))
  refine retW Try.results32 (w.heap.size + 1) (rv n m seen h) _ rfl rfl hb9 (rv_size _ _ _ _) rfl ⟨rfl, ?_⟩
  exact below_of_new HB.out hg9 (by omega) HB.out.size
set_option maxRecDepth 100000 in
set_option maxHeartbeats 4000000 in
theorem heal16_l (n m seen : Int) (h : Nat → Sl) (k : Int) (w : World) (hm : 1 ≤ m ∧ m ≤ 16) (ho : ownB n m k = true) (hu : 0 ≤ k ∧ k < 16) (a b c d a' b' c' d' : Int) (y : Bool) (hs : h k.toNat = ⟨a, b, c, d⟩) (hw : turns ⟨a, b, c, d⟩ 3 2 = (⟨a', b', c', d'⟩, y)) : Calls Try.prog 32 #[.agg (rv n m seen h), .int .i64 k, .int .i64 3] w fun e w' => e = .returned (.tuple #[.agg (rv n m seen (hupd h k.toNat ⟨a', b', c', d'⟩)), .bool y]) ∧ Below w.heap.size w w' := by
  have hc : ∀ w, Calls Try.prog 51 #[S1.sval a b c d, .int .i64 3, .int .i64 2] w fun e w' => e = .returned (.tuple #[S1.sval a' b' c' d', .bool y]) ∧ Below w.heap.size w w' := fun w => by
    have hh := S6.rturn_any ⟨a, b, c, d⟩ 3 2 w
    rw [hw] at hh
    exact hh
  clear hw
  obtain ⟨hu0, hu1⟩ := hu
  have HS := Aside0.mk hs
  have HU : Aside0 (k.toNat < 16) := ⟨by omega⟩
  clear hs
  have HB := Aside0.mk (Below.refl w.heap.size w)
  have HOW := Aside0.mk ho
  clear ho
  go_enter Try.func32, Try.ntmps32
  go_wp2_with ((with_reducible refine wpList_loadW w.heap.size (rv n m seen h) ?_ ?_ (rv_size _ _ _ _) ?_); rfl; exact IsBlk.alloc (IsBlk.new _ _ rfl) _)
  refine (own_q n m seen h k _ hm.1 hm.2).mono ?_
  rw [HOW.out]
  rintro e w1 ⟨rfl, hb1⟩
  have R : IsBlk w1 w.heap.size (rv n m seen h) 47 := IsBlk.below (IsBlk.alloc (IsBlk.new _ _ rfl) _) hb1
  have Z : IsBlk w1 (w.heap.size + 1) Try.zeroCells47 47 := IsBlk.below (IsBlk.new _ _ (by simp)) hb1
  have HZ := Aside0.mk Z
  have HZL := Aside0.mk (show w.heap.size + 1 < w1.heap.size from blk_lt Z)
  clear Z
  have HR := Aside0.mk R
  clear R
  have n0 := Aside0.mk (below_step (by repeat (first | (with_reducible first | exact HB.out | apply below_alloc | apply pw_below_drewN | apply below_drew1) | refine below_set ?_ (by omega))) hb1)
  clear HB hb1
  have HB := n0
  clear n0
  have R_a : w1.cell? ⟨w.heap.size, 3 + k.toNat * 4, none⟩ = some (.int .i64 a) := by have := (blk_cell HR.out (3 + k.toNat * 4 + 0)).trans (rv_u n m seen h k.toNat 0 HU.out (by decide)); rw [HS.out, Nat.add_zero] at this; exact this
  have R_b : w1.cell? ⟨w.heap.size, 3 + k.toNat * 4 + 1, none⟩ = some (.int .i64 b) := by have := (blk_cell HR.out (3 + k.toNat * 4 + 1)).trans (rv_u n m seen h k.toNat 1 HU.out (by decide)); rw [HS.out] at this; exact this
  have R_c : w1.cell? ⟨w.heap.size, 3 + k.toNat * 4 + 2, none⟩ = some (.int .i64 c) := by have := (blk_cell HR.out (3 + k.toNat * 4 + 2)).trans (rv_u n m seen h k.toNat 2 HU.out (by decide)); rw [HS.out] at this; exact this
  have R_d : w1.cell? ⟨w.heap.size, 3 + k.toNat * 4 + 3, none⟩ = some (.int .i64 d) := by have := (blk_cell HR.out (3 + k.toNat * 4 + 3)).trans (rv_u n m seen h k.toNat 3 HU.out (by decide)); rw [HS.out] at this; exact this
  have R_z := fun j => blk_frozen HR.out j
  go_wp2_with fail
  refine (hc _).mono ?_
  rintro e w2 ⟨rfl, hb1⟩
  clear R_a R_b R_c R_d R_z
  have HR' : Aside0 (IsBlk w2 w.heap.size (rv n m seen h) 47) := ⟨IsBlk.below (IsBlk.alloc HR.out _) hb1⟩
  have HZ' : Aside0 (IsBlk w2 (w.heap.size + 1) Try.zeroCells47 47) := ⟨IsBlk.below (IsBlk.alloc HZ.out _) hb1⟩
  have T : IsBlk w2 w1.heap.size #[.int .i64 a, .int .i64 b, .int .i64 c, .int .i64 d] 44 := IsBlk.below (IsBlk.new _ _ rfl) hb1
  have HRT := Aside0.mk (show w.heap.size < w1.heap.size from blk_lt HR.out)
  clear HR HZ
  have HR := HR'
  have HZ := HZ'
  clear HR' HZ'
  have n0 := Aside0.mk (below_step (by repeat (first | (with_reducible first | exact HB.out | apply below_alloc | apply pw_below_drewN | apply below_drew1) | refine below_set ?_ (by omega))) hb1)
  clear HB hb1
  have HB := n0
  clear n0
  have R_a : w2.cell? ⟨w.heap.size, 3 + k.toNat * 4, none⟩ = some (.int .i64 a) := by have := (blk_cell HR.out (3 + k.toNat * 4 + 0)).trans (rv_u n m seen h k.toNat 0 HU.out (by decide)); rw [HS.out, Nat.add_zero] at this; exact this
  have R_b : w2.cell? ⟨w.heap.size, 3 + k.toNat * 4 + 1, none⟩ = some (.int .i64 b) := by have := (blk_cell HR.out (3 + k.toNat * 4 + 1)).trans (rv_u n m seen h k.toNat 1 HU.out (by decide)); rw [HS.out] at this; exact this
  have R_c : w2.cell? ⟨w.heap.size, 3 + k.toNat * 4 + 2, none⟩ = some (.int .i64 c) := by have := (blk_cell HR.out (3 + k.toNat * 4 + 2)).trans (rv_u n m seen h k.toNat 2 HU.out (by decide)); rw [HS.out] at this; exact this
  have R_d : w2.cell? ⟨w.heap.size, 3 + k.toNat * 4 + 3, none⟩ = some (.int .i64 d) := by have := (blk_cell HR.out (3 + k.toNat * 4 + 3)).trans (rv_u n m seen h k.toNat 3 HU.out (by decide)); rw [HS.out] at this; exact this
  have R_z := fun j => blk_frozen HR.out j
  have T_0 := blk_cell T 0
  have T_1 := blk_cell T 1
  have T_2 := blk_cell T 2
  have T_3 := blk_cell T 3
  simp only [List.getElem?_toArray, List.getElem?_cons_zero, List.getElem?_cons_succ] at T_0 T_1 T_2 T_3
  have T_z0 := blk_frozen T 0
  have T_z1 := blk_frozen T 1
  have T_z2 := blk_frozen T 2
  have T_z3 := blk_frozen T 3
  have T_l := blk_lt T
  have HT := Aside0.mk T
  clear T
  have R_l := blk_lt HR.out
  have hne : w1.heap.size ≠ w.heap.size := by have := HRT.out; omega
  have hne2 : w.heap.size ≠ w1.heap.size := by have := HRT.out; omega
  go_upto_region 20 with fail
  have HT4 := HRT
  have HR5 : Aside0 (IsBlk ((((((((((((w2).setCell ⟨w1.heap.size, 0, none⟩ (.int .i64 a')).setCell ⟨w1.heap.size, 1, none⟩ (.int .i64 b')).setCell ⟨w1.heap.size, 2, none⟩ (.int .i64 c')).setCell ⟨w1.heap.size, 3, none⟩ (.int .i64 d'))).setCell ⟨w.heap.size, 3 + k.toNat * 4, none⟩ (.int .i64 a')).setCell ⟨w.heap.size, 3 + k.toNat * 4 + 1, none⟩ (.int .i64 b')).setCell ⟨w.heap.size, 3 + k.toNat * 4 + 2, none⟩ (.int .i64 c')).setCell ⟨w.heap.size, 3 + k.toNat * 4 + 3, none⟩ (.int .i64 d'))).alloc (.cells #[.int .i64 a', .int .i64 b', .int .i64 c', .int .i64 d'] 44)) w.heap.size (rv n m seen (hupd h k.toNat ⟨a', b', c', d'⟩)) 47) := ⟨IsBlk.alloc (put4 (far4 HR.out hne2 _ _ _ _) k.toNat HU.out a' b' c' d') _⟩
  have HZ5 : Aside0 (IsBlk ((((((((((((w2).setCell ⟨w1.heap.size, 0, none⟩ (.int .i64 a')).setCell ⟨w1.heap.size, 1, none⟩ (.int .i64 b')).setCell ⟨w1.heap.size, 2, none⟩ (.int .i64 c')).setCell ⟨w1.heap.size, 3, none⟩ (.int .i64 d'))).setCell ⟨w.heap.size, 3 + k.toNat * 4, none⟩ (.int .i64 a')).setCell ⟨w.heap.size, 3 + k.toNat * 4 + 1, none⟩ (.int .i64 b')).setCell ⟨w.heap.size, 3 + k.toNat * 4 + 2, none⟩ (.int .i64 c')).setCell ⟨w.heap.size, 3 + k.toNat * 4 + 3, none⟩ (.int .i64 d'))).alloc (.cells #[.int .i64 a', .int .i64 b', .int .i64 c', .int .i64 d'] 44)) (w.heap.size + 1) Try.zeroCells47 47) := ⟨IsBlk.alloc (far4' (far4 HZ.out (by have := HZL.out; omega) _ _ _ _) (by omega) _ _ _ _) _⟩
  have HB5 : Aside0 (Below w.heap.size w ((((((((((((w2).setCell ⟨w1.heap.size, 0, none⟩ (.int .i64 a')).setCell ⟨w1.heap.size, 1, none⟩ (.int .i64 b')).setCell ⟨w1.heap.size, 2, none⟩ (.int .i64 c')).setCell ⟨w1.heap.size, 3, none⟩ (.int .i64 d'))).setCell ⟨w.heap.size, 3 + k.toNat * 4, none⟩ (.int .i64 a')).setCell ⟨w.heap.size, 3 + k.toNat * 4 + 1, none⟩ (.int .i64 b')).setCell ⟨w.heap.size, 3 + k.toNat * 4 + 2, none⟩ (.int .i64 c')).setCell ⟨w.heap.size, 3 + k.toNat * 4 + 3, none⟩ (.int .i64 d'))).alloc (.cells #[.int .i64 a', .int .i64 b', .int .i64 c', .int .i64 d'] 44))) := ⟨below_alloc (below4' (below4 HB.out (by have := HRT.out; omega) _ _ _ _) (Nat.le_refl _) _ _ _ _) _⟩
  clear HR HZ HB R_a R_b R_c R_d R_z R_l T_0 T_1 T_2 T_3 T_z0 T_z1 T_z2 T_z3 T_l HT
  generalize ((((((((((((w2).setCell ⟨w1.heap.size, 0, none⟩ (.int .i64 a')).setCell ⟨w1.heap.size, 1, none⟩ (.int .i64 b')).setCell ⟨w1.heap.size, 2, none⟩ (.int .i64 c')).setCell ⟨w1.heap.size, 3, none⟩ (.int .i64 d'))).setCell ⟨w.heap.size, 3 + k.toNat * 4, none⟩ (.int .i64 a')).setCell ⟨w.heap.size, 3 + k.toNat * 4 + 1, none⟩ (.int .i64 b')).setCell ⟨w.heap.size, 3 + k.toNat * 4 + 2, none⟩ (.int .i64 c')).setCell ⟨w.heap.size, 3 + k.toNat * 4 + 3, none⟩ (.int .i64 d'))).alloc (.cells #[.int .i64 a', .int .i64 b', .int .i64 c', .int .i64 d'] 44)) = w6 at *
  have HR := HR5
  have HZ := HZ5
  have HB := HB5
  clear HR5 HZ5 HB5
  go_wp2_with (first | ((with_reducible refine wpList_loadW w.heap.size (rv n m seen (hupd h k.toNat ⟨a', b', c', d'⟩)) ?_ ?_ (rv_size _ _ _ _) ?_); rfl; (first | exact HR.out | exact HR.out.alloc _)) | ((with_reducible refine wpList_storeW (w.heap.size + 1) Try.zeroCells47 (rv n m seen (hupd h k.toNat ⟨a', b', c', d'⟩)) ?_ ?_ ?_ z67_size (rv_size _ _ _ _) (rv_one _ _ _ _) ?_); rfl; rfl; exact HZ.out; intro w9 hb9 hg9))
  refine retW Try.results32 (w.heap.size + 1) (rv n m seen (hupd h k.toNat ⟨a', b', c', d'⟩)) _ rfl rfl hb9 (rv_size _ _ _ _) rfl ⟨rfl, ?_⟩
  exact below_of_new HB.out hg9 (by omega) HB.out.size
end Go.Proofs.Ytkjaeodnpgpfeaa.V3
