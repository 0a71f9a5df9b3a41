/-
  Proved here: SlotWalks answers true, of any slot, kinds and pairs: the walk. No condition but how the slices read.
-/
import Derived.Test.YtiegioncmpkpcaaS7
import Derived.Test.YtiegioncmpkpcaaO
import Derived.Deep.RegionWith
import Derived.Deep.RegionHeld3
import Derived.Deep.DeepCutAuto
namespace Go.Proofs.Ytiegioncmpkpcaa.WalkSlotWalks
open Go.RowKit Go.Proofs.Ytiegioncmpkpcaa.S0 Go.Proofs.Ytiegioncmpkpcaa.S1 Go.Proofs.Ytiegioncmpkpcaa.S2 Go.Proofs.Ytiegioncmpkpcaa.S3 Go.Proofs.Ytiegioncmpkpcaa.S4 Go.Proofs.Ytiegioncmpkpcaa.S5 Go.Proofs.Ytiegioncmpkpcaa.S7 Go.Proofs.Ytiegioncmpkpcaa.O Go.Proofs.YtiegioncmpkpcaaW.PrintWords Go.Proofs.YtiegioncmpkpcaaW.PrintLast Go.Proofs.YtiegioncmpkpcaaW.PrintMore
set_option linter.unusedVariables false
set_option linter.unusedSimpArgs false

theorem bcell {W w1 : World} (hb : Below W.heap.size W w1) : (∀ b o, b < W.heap.size → w1.cell? ⟨b, o, none⟩ = W.cell? ⟨b, o, none⟩) ∧ (∀ b o, b < W.heap.size → w1.frozen? ⟨b, o, none⟩ = W.frozen? ⟨b, o, none⟩) :=
  ⟨fun b o h => hb.cell (p := ⟨b, o, none⟩) h, fun b o h => hb.frozen (p := ⟨b, o, none⟩) h⟩
theorem step_ag {s0 s1 s2 s3 n p q t0 t1 t2 t3 : Int} (h : next ⟨s0, s1, s2, s3⟩ n p q = ⟨t0, t1, t2, t3⟩) (w : World) : Calls Try.prog 12 #[.agg #[.int .i64 s0, .int .i64 s1, .int .i64 s2, .int .i64 s3], .agg #[.int .i64 s0, .int .i64 s1, .int .i64 s2, .int .i64 s3], .int .i64 n, .agg #[.int .i64 p, .int .i64 q]] w
    fun e w' => e = .returned (.tuple #[.agg #[.int .i64 t0, .int .i64 t1, .int .i64 t2, .int .i64 t3], .agg #[.int .i64 t0, .int .i64 t1, .int .i64 t2, .int .i64 t3], .bool true]) ∧ Below w.heap.size w w' := by
  have := step_any ⟨s0, s1, s2, s3⟩ n p q w
  rw [h] at this
  exact this
/-- What lies in a world lies in the next one: as the walk asks it. -/
def Kept0 (W w1 : World) : Prop := (∀ b o, b < W.heap.size → w1.cell? ⟨b, o, none⟩ = W.cell? ⟨b, o, none⟩) ∧ (∀ b o, b < W.heap.size → w1.frozen? ⟨b, o, none⟩ = W.frozen? ⟨b, o, none⟩) ∧
  (∀ n, n < W.heap.size → n < w1.heap.size) ∧ (∀ n, n < W.heap.size → n < w1.heap.size + 1) ∧ (∀ n, n < W.heap.size → n < w1.heap.size + 1 + 1) ∧ (∀ n, n < W.heap.size → n < w1.heap.size + 1 + 1 + 1)
theorem kept0 {W w1 : World} (hb : Below W.heap.size W w1) : Kept0 W w1 := by
  have := hb.size
  exact ⟨(bcell hb).1, (bcell hb).2, fun n h => by omega, fun n h => by omega, fun n h => by omega, fun n h => by omega⟩
theorem step_k {s0 s1 s2 s3 n p q t0 t1 t2 t3 : Int} (h : next ⟨s0, s1, s2, s3⟩ n p q = ⟨t0, t1, t2, t3⟩) (w : World) : Calls Try.prog 12 #[.agg #[.int .i64 s0, .int .i64 s1, .int .i64 s2, .int .i64 s3], .agg #[.int .i64 s0, .int .i64 s1, .int .i64 s2, .int .i64 s3], .int .i64 n, .agg #[.int .i64 p, .int .i64 q]] w
    fun e w' => e = .returned (.tuple #[.agg #[.int .i64 t0, .int .i64 t1, .int .i64 t2, .int .i64 t3], .agg #[.int .i64 t0, .int .i64 t1, .int .i64 t2, .int .i64 t3], .bool true]) ∧ Aside0 (Below w.heap.size w w') ∧ Kept0 w w' :=
  (step_ag h w).mono fun _ _ hh => ⟨hh.1, ⟨hh.2⟩, kept0 hh.2⟩
theorem _root_.Go.Addr.add_add_zero (a : Addr) (i : Nat) : (a.add i).add 0 = a.add i := by rw [add_add]; rfl

set_option maxRecDepth 100000 in
set_option maxHeartbeats 4000000 in
theorem walk_with (a b c d x0 x1 x2 x3 : Int) (A1 A2 : Option Addr) (k1 k2 : Nat) (ks : List Int) (ps : List (Int × Int)) (w : World) (e_X : good ⟨a, b, c, d⟩ = ⟨x0, x1, x2, x3⟩) (hr : right ⟨x0, x1, x2, x3⟩ = true)
    (h1 : Rowz Is3 1 w A1 ks) (hk1 : ks.length ≤ k1) (h2 : Rowz Is35 2 w A2 ps) (hk2 : ps.length ≤ k2) :
    Calls Try.prog 5 #[sv ⟨a, b, c, d⟩, .slice A1 ks.length k1, .slice A2 ps.length k2] w fun e w' => e = .returned (.bool true) ∧ Below w.heap.size w w' := by
  have HX := Aside0.mk e_X
  have HR := Aside0.mk hr
  have H1 := Aside0.mk h1
  have H2 := Aside0.mk h2
  clear e_X hr h1 h2
  unfold sv
  have HB := Aside0.mk (Below.refl w.heap.size w)
  go_enter Try.func5, Try.ntmps5
  go_wp2_with fail
  refine (lives_any _).mono ?_
  rintro e w1 ⟨rfl, hb1⟩
  have s1_0 : IsBlk w1 (w.heap.size) #[.int .i64 a, .int .i64 b, .int .i64 c, .int .i64 d] 23 := IsBlk.below (by repeat (first | ((refine IsBlk.new _ _ ?_); (simp; done)) | apply IsBlk.alloc | apply IsBlk.drewN)) hb1
  have cs1_0_0 := blk_cell s1_0 0
  have cs1_0_1 := blk_cell s1_0 1
  have cs1_0_2 := blk_cell s1_0 2
  have cs1_0_3 := blk_cell s1_0 3
  simp only [List.getElem?_toArray, List.getElem?_cons_zero, List.getElem?_cons_succ] at cs1_0_0 cs1_0_1 cs1_0_2 cs1_0_3
  have ls1_0 := blk_lt s1_0
  have Hs1_0 := Aside0.mk s1_0; clear s1_0
  have n0 := Aside0.mk (below_step (by repeat (first | (with_reducible first | exact HB.out | apply below_alloc | apply pw_below_drewN | apply below_drew1) | refine below_set ?_ (by omega))) hb1)
  clear HB hb1
  have HB := n0; clear n0
  go_wp2_with fail
  refine (good_any ⟨a, b, c, d⟩ _).mono ?_
  rintro e w2 ⟨rfl, hb2⟩
  have s2_0 : IsBlk w2 (w.heap.size) #[.int .i64 a, .int .i64 b, .int .i64 c, .int .i64 d] 23 := IsBlk.below (by repeat (with_reducible first | exact Hs1_0.out | apply IsBlk.alloc | apply IsBlk.drewN | apply IsBlk.drew)) hb2
  have cs2_0_0 := blk_cell s2_0 0
  have cs2_0_1 := blk_cell s2_0 1
  have cs2_0_2 := blk_cell s2_0 2
  have cs2_0_3 := blk_cell s2_0 3
  simp only [List.getElem?_toArray, List.getElem?_cons_zero, List.getElem?_cons_succ] at cs2_0_0 cs2_0_1 cs2_0_2 cs2_0_3
  have ls2_0 := blk_lt s2_0
  have Hs2_0 := Aside0.mk s2_0; clear s2_0
  clear ls1_0 cs1_0_0 cs1_0_1 cs1_0_2 cs1_0_3
  have n0 := Aside0.mk (below_step (by repeat (first | (with_reducible first | exact HB.out | apply below_alloc | apply pw_below_drewN | apply below_drew1) | refine below_set ?_ (by omega))) hb2)
  clear HB hb2
  have HB := n0; clear n0
  rw [HX.out]
  dsimp only [sv]
  go_wp2
  have HW1 := Aside0.mk (show IsBlk ((w2.alloc (.cells #[.int .i64 x0, .int .i64 x1, .int .i64 x2, .int .i64 x3] 23)).alloc (.cells #[.int .i64 x0, .int .i64 x1, .int .i64 x2, .int .i64 x3] 25)) w2.heap.size #[.int .i64 x0, .int .i64 x1, .int .i64 x2, .int .i64 x3] 23 from IsBlk.alloc (IsBlk.new _ _ rfl) _)
  have HW2 := Aside0.mk (show IsBlk ((w2.alloc (.cells #[.int .i64 x0, .int .i64 x1, .int .i64 x2, .int .i64 x3] 23)).alloc (.cells #[.int .i64 x0, .int .i64 x1, .int .i64 x2, .int .i64 x3] 25)) (w2.heap.size + 1) #[.int .i64 x0, .int .i64 x1, .int .i64 x2, .int .i64 x3] 25 from IsBlk.new _ _ (by simp))
  have hw2 := below_size HB.out
  go_loopw [9] (fun i wr => ∃ (k : Nat) (s : Sl), i = .int .i64 k ∧ k ≤ ks.length ∧ IsBlk wr w2.heap.size #[.int .i64 s.st, .int .i64 s.ver, .int .i64 s.want, .int .i64 s.seq] 23 ∧ IsBlk wr (w2.heap.size + 1) #[.int .i64 s.st, .int .i64 s.ver, .int .i64 s.want, .int .i64 s.seq] 25 ∧ Aside0 (right s = true) ∧ Aside0 (Below w.heap.size w wr)) (fun i _ => ks.length - (intOf i).toNat)
  case atStart => exact ⟨0, ⟨x0, x1, x2, x3⟩, rfl, by omega, HW1.out, HW2.out, HR, ⟨by repeat (with_reducible first | exact HB.out | apply below_alloc)⟩⟩
  case round =>
    obtain ⟨k, ⟨s0, s1, s2, s3⟩, rfl, hk, r0, r1, HO, HB⟩ := hrel
    dsimp only at r0 r1
    have hmax : ks.length ≤ 9223372036854775807 := H1.out.1
    have cr0_0 := blk_cell r0 0
    have cr0_1 := blk_cell r0 1
    have cr0_2 := blk_cell r0 2
    have cr0_3 := blk_cell r0 3
    simp only [List.getElem?_toArray, List.getElem?_cons_zero, List.getElem?_cons_succ] at cr0_0 cr0_1 cr0_2 cr0_3
    have zr0_0 := blk_frozen r0 0
    have zr0_1 := blk_frozen r0 1
    have zr0_2 := blk_frozen r0 2
    have zr0_3 := blk_frozen r0 3
    have lr0 := blk_lt r0
    have Hr0 := Aside0.mk r0; clear r0
    have cr1_0 := blk_cell r1 0
    have cr1_1 := blk_cell r1 1
    have cr1_2 := blk_cell r1 2
    have cr1_3 := blk_cell r1 3
    simp only [List.getElem?_toArray, List.getElem?_cons_zero, List.getElem?_cons_succ] at cr1_0 cr1_1 cr1_2 cr1_3
    have zr1_0 := blk_frozen r1 0
    have zr1_1 := blk_frozen r1 1
    have zr1_2 := blk_frozen r1 2
    have zr1_3 := blk_frozen r1 3
    have lr1 := blk_lt r1
    have Hr1 := Aside0.mk r1; clear r1
    by_cases hlt : k < ks.length
    · by_cases h80 : k < 80
      · obtain ⟨kb, ko, cs, rfl, _, ⟨rfl, _⟩, hkb, hcell⟩ := Rowz.at' (Rowz.below H1.out HB.out) (by omega) 0 k hlt
        have ck := hcell 0 _ rfl
        rw [Nat.mul_one, Nat.add_zero] at ck
        clear hcell
        obtain ⟨kk, hkk⟩ : ∃ x, ks.getD k 0 = x := ⟨_, rfl⟩
        rw [hkk] at ck
        clear hkk
        have hi1 : decide ((k : Int) < (ks.length : Int)) = true := by simp; omega
        have hi2 : decide ((k : Int) < 80) = true := by simp; omega
        by_cases hp : k < ps.length
        · obtain ⟨pb, po, cs2, rfl, _, ⟨rfl, _, _⟩, hpb, hcell2⟩ := Rowz.at' (Rowz.below H2.out HB.out) (by omega) (0, 0) k hp
          have cp0 := hcell2 0 _ rfl
          have cp1 := hcell2 1 _ rfl
          rw [Nat.add_zero] at cp0
          rw [← Nat.add_assoc] at cp1
          clear hcell2
          obtain ⟨⟨pp, pq⟩, hpp⟩ : ∃ x, ps.getD k (0, 0) = x := ⟨_, rfl⟩
          rw [hpp] at cp0 cp1
          dsimp only at cp0 cp1
          clear hpp
          have hp1 : decide ((k : Int) < (ps.length : Int)) = true := by simp; omega
          have hpi : (k : Int) < (ps.length : Int) := by omega
          obtain ⟨⟨t0, t1, t2, t3⟩, ht⟩ : ∃ y, next ⟨s0, s1, s2, s3⟩ kk pp pq = y := ⟨_, rfl⟩
          have HT := Aside0.mk ht
          clear ht
          have d0 : w2.heap.size ≠ wr.heap.size := by omega
          have e0 : wr.heap.size ≠ w2.heap.size := by omega
          have d1 : w2.heap.size ≠ wr.heap.size + 1 := by omega
          have e1 : wr.heap.size + 1 ≠ w2.heap.size := by omega
          have d2 : w2.heap.size ≠ wr.heap.size + 1 + 1 := by omega
          have e2 : wr.heap.size + 1 + 1 ≠ w2.heap.size := by omega
          have d3 : w2.heap.size + 1 ≠ wr.heap.size := by omega
          have e3 : wr.heap.size ≠ w2.heap.size + 1 := by omega
          have d4 : w2.heap.size + 1 ≠ wr.heap.size + 1 := by omega
          have e4 : wr.heap.size + 1 ≠ w2.heap.size + 1 := by omega
          have d5 : w2.heap.size + 1 ≠ wr.heap.size + 1 + 1 := by omega
          have e5 : wr.heap.size + 1 + 1 ≠ w2.heap.size + 1 := by omega
          have d6 : kb ≠ wr.heap.size := by omega
          have e6 : wr.heap.size ≠ kb := by omega
          have d7 : kb ≠ wr.heap.size + 1 := by omega
          have e7 : wr.heap.size + 1 ≠ kb := by omega
          have d8 : kb ≠ wr.heap.size + 1 + 1 := by omega
          have e8 : wr.heap.size + 1 + 1 ≠ kb := by omega
          have q1 : kb < wr.heap.size + 1 := by omega
          have q2 : w2.heap.size < wr.heap.size + 1 := by omega
          have q3 : w2.heap.size + 1 < wr.heap.size + 1 := by omega
          have q4 : kb < wr.heap.size + 1 + 1 := by omega
          have q5 : w2.heap.size < wr.heap.size + 1 + 1 := by omega
          have q6 : w2.heap.size + 1 < wr.heap.size + 1 + 1 := by omega
          go_upto_region 11 with fail
          go_cut [11, 12, 13] (fun p1 p2 sm wc => ∃ g1 g2 : Nat, p1 = .pointer (some ⟨g1, 0, none⟩) ∧ p2 = .pointer (some ⟨g2, 0, none⟩) ∧ sm = .bool true ∧ IsBlk wc g1 #[.int .i64 t0, .int .i64 t1, .int .i64 t2, .int .i64 t3] 25 ∧ IsBlk wc g2 #[.int .i64 t0, .int .i64 t1, .int .i64 t2, .int .i64 t3] 23 ∧
            IsBlk wc w2.heap.size #[.int .i64 s0, .int .i64 s1, .int .i64 s2, .int .i64 s3] 23 ∧ IsBlk wc (w2.heap.size + 1) #[.int .i64 s0, .int .i64 s1, .int .i64 s2, .int .i64 s3] 25 ∧ Aside0 (Below w.heap.size w wc) ∧ w2.heap.size + 1 < g1 ∧ w2.heap.size + 1 < g2)
          case first =>
            go_region_held3 (fun w' => w'.cell? ⟨w2.heap.size, 0, none⟩ = some (.int .i64 s0) ∧ w'.cell? ⟨w2.heap.size, 1, none⟩ = some (.int .i64 s1) ∧ w'.cell? ⟨w2.heap.size, 2, none⟩ = some (.int .i64 s2) ∧ w'.cell? ⟨w2.heap.size, 3, none⟩ = some (.int .i64 s3) ∧ w'.cell? ⟨w2.heap.size + 1, 0, none⟩ = some (.int .i64 s0) ∧ w'.cell? ⟨w2.heap.size + 1, 1, none⟩ = some (.int .i64 s1) ∧ w'.cell? ⟨w2.heap.size + 1, 2, none⟩ = some (.int .i64 s2) ∧ w'.cell? ⟨w2.heap.size + 1, 3, none⟩ = some (.int .i64 s3) ∧ w'.cell? ⟨kb, ko + k, none⟩ = some (.int .i64 kk) ∧ w'.cell? ⟨wr.heap.size, 0, none⟩ = some (.int .i64 pp) ∧ w'.cell? ⟨wr.heap.size, 1, none⟩ = some (.int .i64 pq)) (simp [*, go_sem, World.cell?_alloc_some, World.cell?_setCell_far]) (first | (go_at_call 12; (with_reducible refine (step_k HT.out _).mono ?_); rintro e u1 ⟨rfl, hb1, gc, gf, z0, z1, z2, z3⟩; have k0 : u1.cell? ⟨w2.heap.size, 0, none⟩ = some (.int .i64 s0) := (by simp [*, go_sem]); have k1 : u1.cell? ⟨w2.heap.size, 1, none⟩ = some (.int .i64 s1) := (by simp [*, go_sem]); have k2 : u1.cell? ⟨w2.heap.size, 2, none⟩ = some (.int .i64 s2) := (by simp [*, go_sem]); have k3 : u1.cell? ⟨w2.heap.size, 3, none⟩ = some (.int .i64 s3) := (by simp [*, go_sem]); have k4 : u1.cell? ⟨w2.heap.size + 1, 0, none⟩ = some (.int .i64 s0) := (by simp [*, go_sem]); have k5 : u1.cell? ⟨w2.heap.size + 1, 1, none⟩ = some (.int .i64 s1) := (by simp [*, go_sem]); have k6 : u1.cell? ⟨w2.heap.size + 1, 2, none⟩ = some (.int .i64 s2) := (by simp [*, go_sem]); have k7 : u1.cell? ⟨w2.heap.size + 1, 3, none⟩ = some (.int .i64 s3) := (by simp [*, go_sem]); have k8 : u1.cell? ⟨kb, ko + k, none⟩ = some (.int .i64 kk) := (by simp [*, go_sem]); have k9 : u1.cell? ⟨wr.heap.size, 0, none⟩ = some (.int .i64 pp) := (by simp [*, go_sem]); have k10 : u1.cell? ⟨wr.heap.size, 1, none⟩ = some (.int .i64 pq) := (by simp [*, go_sem]); (try (have m10 : u1.cell? ⟨wr.heap.size + 1, 0, none⟩ = some (.int .i64 0) := (by simp [*, go_sem]))); (try (have m11 : u1.cell? ⟨wr.heap.size + 1, 1, none⟩ = some (.int .i64 0) := (by simp [*, go_sem]))); (try (have m12 : u1.cell? ⟨wr.heap.size + 1, 2, none⟩ = some (.int .i64 0) := (by simp [*, go_sem]))); (try (have m13 : u1.cell? ⟨wr.heap.size + 1, 3, none⟩ = some (.int .i64 0) := (by simp [*, go_sem]))); (try (have m20 : u1.cell? ⟨wr.heap.size + 1 + 1, 0, none⟩ = some (.int .i64 0) := (by simp [*, go_sem]))); (try (have m21 : u1.cell? ⟨wr.heap.size + 1 + 1, 1, none⟩ = some (.int .i64 0) := (by simp [*, go_sem]))); (try (have m22 : u1.cell? ⟨wr.heap.size + 1 + 1, 2, none⟩ = some (.int .i64 0) := (by simp [*, go_sem]))); (try (have m23 : u1.cell? ⟨wr.heap.size + 1 + 1, 3, none⟩ = some (.int .i64 0) := (by simp [*, go_sem]))); (try (have n10 : u1.frozen? ⟨wr.heap.size + 1, 0, none⟩ = false := (by simp [*, go_sem]))); (try (have n11 : u1.frozen? ⟨wr.heap.size + 1, 1, none⟩ = false := (by simp [*, go_sem]))); (try (have n12 : u1.frozen? ⟨wr.heap.size + 1, 2, none⟩ = false := (by simp [*, go_sem]))); (try (have n13 : u1.frozen? ⟨wr.heap.size + 1, 3, none⟩ = false := (by simp [*, go_sem]))); (try (have n20 : u1.frozen? ⟨wr.heap.size + 1 + 1, 0, none⟩ = false := (by simp [*, go_sem]))); (try (have n21 : u1.frozen? ⟨wr.heap.size + 1 + 1, 1, none⟩ = false := (by simp [*, go_sem]))); (try (have n22 : u1.frozen? ⟨wr.heap.size + 1 + 1, 2, none⟩ = false := (by simp [*, go_sem]))); (try (have n23 : u1.frozen? ⟨wr.heap.size + 1 + 1, 3, none⟩ = false := (by simp [*, go_sem]))); clear gc gf))
            all_goals
              go_wp2_with fail
              go_meet
              have hzz := hb1.out.size
              (simp at hzz)
              refine ⟨_, _, rfl, rfl, rfl, ?_, ?_, ?_, ?_, ⟨?_⟩, ?_, ?_⟩
              · repeat (first | (with_reducible exact Hr0.out) | (with_reducible exact Hr1.out) | ((with_reducible refine IsBlk.new _ _ ?_); (simp; done)) | (with_reducible apply IsBlk.alloc) | (with_reducible apply IsBlk.drew) | (with_reducible refine IsBlk.set4 (a := .int .i64 0) (b := .int .i64 0) (c := .int .i64 0) (d := .int .i64 0) ?_) | ((with_reducible refine IsBlk.far4 ?_ ?_); rotate_left; omega) | (with_reducible refine IsBlk.below ?_ hb1.out))
              · repeat (first | (with_reducible exact Hr0.out) | (with_reducible exact Hr1.out) | ((with_reducible refine IsBlk.new _ _ ?_); (simp; done)) | (with_reducible apply IsBlk.alloc) | (with_reducible apply IsBlk.drew) | (with_reducible refine IsBlk.set4 (a := .int .i64 0) (b := .int .i64 0) (c := .int .i64 0) (d := .int .i64 0) ?_) | ((with_reducible refine IsBlk.far4 ?_ ?_); rotate_left; omega) | (with_reducible refine IsBlk.below ?_ hb1.out))
              · repeat (first | (with_reducible exact Hr0.out) | (with_reducible exact Hr1.out) | ((with_reducible refine IsBlk.new _ _ ?_); (simp; done)) | (with_reducible apply IsBlk.alloc) | (with_reducible apply IsBlk.drew) | (with_reducible refine IsBlk.set4 (a := .int .i64 0) (b := .int .i64 0) (c := .int .i64 0) (d := .int .i64 0) ?_) | ((with_reducible refine IsBlk.far4 ?_ ?_); rotate_left; omega) | (with_reducible refine IsBlk.below ?_ hb1.out))
              · repeat (first | (with_reducible exact Hr0.out) | (with_reducible exact Hr1.out) | ((with_reducible refine IsBlk.new _ _ ?_); (simp; done)) | (with_reducible apply IsBlk.alloc) | (with_reducible apply IsBlk.drew) | (with_reducible refine IsBlk.set4 (a := .int .i64 0) (b := .int .i64 0) (c := .int .i64 0) (d := .int .i64 0) ?_) | ((with_reducible refine IsBlk.far4 ?_ ?_); rotate_left; omega) | (with_reducible refine IsBlk.below ?_ hb1.out))
              · repeat (first | (with_reducible exact HB.out) | (with_reducible apply below_alloc) | (with_reducible apply below_drew1) | ((with_reducible refine below_set ?_ ?_); rotate_left; omega) | (with_reducible refine below_step ?_ hb1.out))
              · omega
              · omega
          case rest =>
            clear ck cp0 cp1 HW1 HW2
            obtain ⟨g1, g2, rfl, rfl, rfl, B1, B2, B3, B4, HB', hg1, hg2⟩ := hcut
            have cB1_0 := blk_cell B1 0
            have cB1_1 := blk_cell B1 1
            have cB1_2 := blk_cell B1 2
            have cB1_3 := blk_cell B1 3
            simp only [List.getElem?_toArray, List.getElem?_cons_zero, List.getElem?_cons_succ] at cB1_0 cB1_1 cB1_2 cB1_3
            have zB1_0 := blk_frozen B1 0
            have zB1_1 := blk_frozen B1 1
            have zB1_2 := blk_frozen B1 2
            have zB1_3 := blk_frozen B1 3
            have lB1 := blk_lt B1
            have HB1 := Aside0.mk B1; clear B1
            have cB2_0 := blk_cell B2 0
            have cB2_1 := blk_cell B2 1
            have cB2_2 := blk_cell B2 2
            have cB2_3 := blk_cell B2 3
            simp only [List.getElem?_toArray, List.getElem?_cons_zero, List.getElem?_cons_succ] at cB2_0 cB2_1 cB2_2 cB2_3
            have zB2_0 := blk_frozen B2 0
            have zB2_1 := blk_frozen B2 1
            have zB2_2 := blk_frozen B2 2
            have zB2_3 := blk_frozen B2 3
            have lB2 := blk_lt B2
            have HB2 := Aside0.mk B2; clear B2
            have cB3_0 := blk_cell B3 0
            have cB3_1 := blk_cell B3 1
            have cB3_2 := blk_cell B3 2
            have cB3_3 := blk_cell B3 3
            simp only [List.getElem?_toArray, List.getElem?_cons_zero, List.getElem?_cons_succ] at cB3_0 cB3_1 cB3_2 cB3_3
            have zB3_0 := blk_frozen B3 0
            have zB3_1 := blk_frozen B3 1
            have zB3_2 := blk_frozen B3 2
            have zB3_3 := blk_frozen B3 3
            have lB3 := blk_lt B3
            have HB3 := Aside0.mk B3; clear B3
            have cB4_0 := blk_cell B4 0
            have cB4_1 := blk_cell B4 1
            have cB4_2 := blk_cell B4 2
            have cB4_3 := blk_cell B4 3
            simp only [List.getElem?_toArray, List.getElem?_cons_zero, List.getElem?_cons_succ] at cB4_0 cB4_1 cB4_2 cB4_3
            have zB4_0 := blk_frozen B4 0
            have zB4_1 := blk_frozen B4 1
            have zB4_2 := blk_frozen B4 2
            have zB4_3 := blk_frozen B4 3
            have lB4 := blk_lt B4
            have HB4 := Aside0.mk B4; clear B4
            have hrt : right ⟨t0, t1, t2, t3⟩ = true := by have := next_right _ kk pp pq HO.out; rw [HT.out] at this; exact this
            go_wp2_with (go_at_call 13; (with_reducible refine (S1.right_any _ _ _ _ _).mono ?_); rintro e v1 ⟨rfl, rfl⟩)
            go_roundw
            case rel => exact ⟨k + 1, ⟨t0, t1, t2, t3⟩, by go_num, by omega, IsBlk.alloc (IsBlk.set4 (IsBlk.far4 HB3.out (by omega))) _, IsBlk.alloc (IsBlk.far4 (IsBlk.set4 HB4.out) (by omega)) _, ⟨hrt⟩, ⟨by repeat (first | (with_reducible exact HB'.out) | (with_reducible apply below_alloc) | ((with_reducible refine below_set ?_ ?_); rotate_left; omega))⟩⟩
            case measure => simp [intOf]; omega
        · have hp1 : decide ((k : Int) < (ps.length : Int)) = false := by simp; omega
          obtain ⟨⟨t0, t1, t2, t3⟩, ht⟩ : ∃ y, next ⟨s0, s1, s2, s3⟩ kk 0 0 = y := ⟨_, rfl⟩
          have HT := Aside0.mk ht
          clear ht
          have d0 : w2.heap.size ≠ wr.heap.size := by omega
          have e0 : wr.heap.size ≠ w2.heap.size := by omega
          have d1 : w2.heap.size ≠ wr.heap.size + 1 := by omega
          have e1 : wr.heap.size + 1 ≠ w2.heap.size := by omega
          have d2 : w2.heap.size ≠ wr.heap.size + 1 + 1 := by omega
          have e2 : wr.heap.size + 1 + 1 ≠ w2.heap.size := by omega
          have d3 : w2.heap.size + 1 ≠ wr.heap.size := by omega
          have e3 : wr.heap.size ≠ w2.heap.size + 1 := by omega
          have d4 : w2.heap.size + 1 ≠ wr.heap.size + 1 := by omega
          have e4 : wr.heap.size + 1 ≠ w2.heap.size + 1 := by omega
          have d5 : w2.heap.size + 1 ≠ wr.heap.size + 1 + 1 := by omega
          have e5 : wr.heap.size + 1 + 1 ≠ w2.heap.size + 1 := by omega
          have d6 : kb ≠ wr.heap.size := by omega
          have e6 : wr.heap.size ≠ kb := by omega
          have d7 : kb ≠ wr.heap.size + 1 := by omega
          have e7 : wr.heap.size + 1 ≠ kb := by omega
          have d8 : kb ≠ wr.heap.size + 1 + 1 := by omega
          have e8 : wr.heap.size + 1 + 1 ≠ kb := by omega
          have q1 : kb < wr.heap.size + 1 := by omega
          have q2 : w2.heap.size < wr.heap.size + 1 := by omega
          have q3 : w2.heap.size + 1 < wr.heap.size + 1 := by omega
          have q4 : kb < wr.heap.size + 1 + 1 := by omega
          have q5 : w2.heap.size < wr.heap.size + 1 + 1 := by omega
          have q6 : w2.heap.size + 1 < wr.heap.size + 1 + 1 := by omega
          go_upto_region 11 with fail
          go_cut [11, 12, 13] (fun p1 p2 sm wc => ∃ g1 g2 : Nat, p1 = .pointer (some ⟨g1, 0, none⟩) ∧ p2 = .pointer (some ⟨g2, 0, none⟩) ∧ sm = .bool true ∧ IsBlk wc g1 #[.int .i64 t0, .int .i64 t1, .int .i64 t2, .int .i64 t3] 25 ∧ IsBlk wc g2 #[.int .i64 t0, .int .i64 t1, .int .i64 t2, .int .i64 t3] 23 ∧
            IsBlk wc w2.heap.size #[.int .i64 s0, .int .i64 s1, .int .i64 s2, .int .i64 s3] 23 ∧ IsBlk wc (w2.heap.size + 1) #[.int .i64 s0, .int .i64 s1, .int .i64 s2, .int .i64 s3] 25 ∧ Aside0 (Below w.heap.size w wc) ∧ w2.heap.size + 1 < g1 ∧ w2.heap.size + 1 < g2)
          case first =>
            go_region_held3 (fun w' => w'.cell? ⟨w2.heap.size, 0, none⟩ = some (.int .i64 s0) ∧ w'.cell? ⟨w2.heap.size, 1, none⟩ = some (.int .i64 s1) ∧ w'.cell? ⟨w2.heap.size, 2, none⟩ = some (.int .i64 s2) ∧ w'.cell? ⟨w2.heap.size, 3, none⟩ = some (.int .i64 s3) ∧ w'.cell? ⟨w2.heap.size + 1, 0, none⟩ = some (.int .i64 s0) ∧ w'.cell? ⟨w2.heap.size + 1, 1, none⟩ = some (.int .i64 s1) ∧ w'.cell? ⟨w2.heap.size + 1, 2, none⟩ = some (.int .i64 s2) ∧ w'.cell? ⟨w2.heap.size + 1, 3, none⟩ = some (.int .i64 s3) ∧ w'.cell? ⟨kb, ko + k, none⟩ = some (.int .i64 kk) ∧ w'.cell? ⟨wr.heap.size, 0, none⟩ = some (.int .i64 0) ∧ w'.cell? ⟨wr.heap.size, 1, none⟩ = some (.int .i64 0)) (simp [*, go_sem, World.cell?_alloc_some, World.cell?_setCell_far]) (first | (go_at_call 12; (with_reducible refine (step_k HT.out _).mono ?_); rintro e u1 ⟨rfl, hb1, gc, gf, z0, z1, z2, z3⟩; have k0 : u1.cell? ⟨w2.heap.size, 0, none⟩ = some (.int .i64 s0) := (by simp [*, go_sem]); have k1 : u1.cell? ⟨w2.heap.size, 1, none⟩ = some (.int .i64 s1) := (by simp [*, go_sem]); have k2 : u1.cell? ⟨w2.heap.size, 2, none⟩ = some (.int .i64 s2) := (by simp [*, go_sem]); have k3 : u1.cell? ⟨w2.heap.size, 3, none⟩ = some (.int .i64 s3) := (by simp [*, go_sem]); have k4 : u1.cell? ⟨w2.heap.size + 1, 0, none⟩ = some (.int .i64 s0) := (by simp [*, go_sem]); have k5 : u1.cell? ⟨w2.heap.size + 1, 1, none⟩ = some (.int .i64 s1) := (by simp [*, go_sem]); have k6 : u1.cell? ⟨w2.heap.size + 1, 2, none⟩ = some (.int .i64 s2) := (by simp [*, go_sem]); have k7 : u1.cell? ⟨w2.heap.size + 1, 3, none⟩ = some (.int .i64 s3) := (by simp [*, go_sem]); have k8 : u1.cell? ⟨kb, ko + k, none⟩ = some (.int .i64 kk) := (by simp [*, go_sem]); have k9 : u1.cell? ⟨wr.heap.size, 0, none⟩ = some (.int .i64 0) := (by simp [*, go_sem]); have k10 : u1.cell? ⟨wr.heap.size, 1, none⟩ = some (.int .i64 0) := (by simp [*, go_sem]); (try (have m10 : u1.cell? ⟨wr.heap.size + 1, 0, none⟩ = some (.int .i64 0) := (by simp [*, go_sem]))); (try (have m11 : u1.cell? ⟨wr.heap.size + 1, 1, none⟩ = some (.int .i64 0) := (by simp [*, go_sem]))); (try (have m12 : u1.cell? ⟨wr.heap.size + 1, 2, none⟩ = some (.int .i64 0) := (by simp [*, go_sem]))); (try (have m13 : u1.cell? ⟨wr.heap.size + 1, 3, none⟩ = some (.int .i64 0) := (by simp [*, go_sem]))); (try (have m20 : u1.cell? ⟨wr.heap.size + 1 + 1, 0, none⟩ = some (.int .i64 0) := (by simp [*, go_sem]))); (try (have m21 : u1.cell? ⟨wr.heap.size + 1 + 1, 1, none⟩ = some (.int .i64 0) := (by simp [*, go_sem]))); (try (have m22 : u1.cell? ⟨wr.heap.size + 1 + 1, 2, none⟩ = some (.int .i64 0) := (by simp [*, go_sem]))); (try (have m23 : u1.cell? ⟨wr.heap.size + 1 + 1, 3, none⟩ = some (.int .i64 0) := (by simp [*, go_sem]))); (try (have n10 : u1.frozen? ⟨wr.heap.size + 1, 0, none⟩ = false := (by simp [*, go_sem]))); (try (have n11 : u1.frozen? ⟨wr.heap.size + 1, 1, none⟩ = false := (by simp [*, go_sem]))); (try (have n12 : u1.frozen? ⟨wr.heap.size + 1, 2, none⟩ = false := (by simp [*, go_sem]))); (try (have n13 : u1.frozen? ⟨wr.heap.size + 1, 3, none⟩ = false := (by simp [*, go_sem]))); (try (have n20 : u1.frozen? ⟨wr.heap.size + 1 + 1, 0, none⟩ = false := (by simp [*, go_sem]))); (try (have n21 : u1.frozen? ⟨wr.heap.size + 1 + 1, 1, none⟩ = false := (by simp [*, go_sem]))); (try (have n22 : u1.frozen? ⟨wr.heap.size + 1 + 1, 2, none⟩ = false := (by simp [*, go_sem]))); (try (have n23 : u1.frozen? ⟨wr.heap.size + 1 + 1, 3, none⟩ = false := (by simp [*, go_sem]))); clear gc gf))
            all_goals
              go_wp2_with fail
              go_meet
              have hzz := hb1.out.size
              (simp at hzz)
              refine ⟨_, _, rfl, rfl, rfl, ?_, ?_, ?_, ?_, ⟨?_⟩, ?_, ?_⟩
              · repeat (first | (with_reducible exact Hr0.out) | (with_reducible exact Hr1.out) | ((with_reducible refine IsBlk.new _ _ ?_); (simp; done)) | (with_reducible apply IsBlk.alloc) | (with_reducible apply IsBlk.drew) | (with_reducible refine IsBlk.set4 (a := .int .i64 0) (b := .int .i64 0) (c := .int .i64 0) (d := .int .i64 0) ?_) | ((with_reducible refine IsBlk.far4 ?_ ?_); rotate_left; omega) | (with_reducible refine IsBlk.below ?_ hb1.out))
              · repeat (first | (with_reducible exact Hr0.out) | (with_reducible exact Hr1.out) | ((with_reducible refine IsBlk.new _ _ ?_); (simp; done)) | (with_reducible apply IsBlk.alloc) | (with_reducible apply IsBlk.drew) | (with_reducible refine IsBlk.set4 (a := .int .i64 0) (b := .int .i64 0) (c := .int .i64 0) (d := .int .i64 0) ?_) | ((with_reducible refine IsBlk.far4 ?_ ?_); rotate_left; omega) | (with_reducible refine IsBlk.below ?_ hb1.out))
              · repeat (first | (with_reducible exact Hr0.out) | (with_reducible exact Hr1.out) | ((with_reducible refine IsBlk.new _ _ ?_); (simp; done)) | (with_reducible apply IsBlk.alloc) | (with_reducible apply IsBlk.drew) | (with_reducible refine IsBlk.set4 (a := .int .i64 0) (b := .int .i64 0) (c := .int .i64 0) (d := .int .i64 0) ?_) | ((with_reducible refine IsBlk.far4 ?_ ?_); rotate_left; omega) | (with_reducible refine IsBlk.below ?_ hb1.out))
              · repeat (first | (with_reducible exact Hr0.out) | (with_reducible exact Hr1.out) | ((with_reducible refine IsBlk.new _ _ ?_); (simp; done)) | (with_reducible apply IsBlk.alloc) | (with_reducible apply IsBlk.drew) | (with_reducible refine IsBlk.set4 (a := .int .i64 0) (b := .int .i64 0) (c := .int .i64 0) (d := .int .i64 0) ?_) | ((with_reducible refine IsBlk.far4 ?_ ?_); rotate_left; omega) | (with_reducible refine IsBlk.below ?_ hb1.out))
              · repeat (first | (with_reducible exact HB.out) | (with_reducible apply below_alloc) | (with_reducible apply below_drew1) | ((with_reducible refine below_set ?_ ?_); rotate_left; omega) | (with_reducible refine below_step ?_ hb1.out))
              · omega
              · omega
          case rest =>
            clear ck HW1 HW2
            obtain ⟨g1, g2, rfl, rfl, rfl, B1, B2, B3, B4, HB', hg1, hg2⟩ := hcut
            have cB1_0 := blk_cell B1 0
            have cB1_1 := blk_cell B1 1
            have cB1_2 := blk_cell B1 2
            have cB1_3 := blk_cell B1 3
            simp only [List.getElem?_toArray, List.getElem?_cons_zero, List.getElem?_cons_succ] at cB1_0 cB1_1 cB1_2 cB1_3
            have zB1_0 := blk_frozen B1 0
            have zB1_1 := blk_frozen B1 1
            have zB1_2 := blk_frozen B1 2
            have zB1_3 := blk_frozen B1 3
            have lB1 := blk_lt B1
            have HB1 := Aside0.mk B1; clear B1
            have cB2_0 := blk_cell B2 0
            have cB2_1 := blk_cell B2 1
            have cB2_2 := blk_cell B2 2
            have cB2_3 := blk_cell B2 3
            simp only [List.getElem?_toArray, List.getElem?_cons_zero, List.getElem?_cons_succ] at cB2_0 cB2_1 cB2_2 cB2_3
            have zB2_0 := blk_frozen B2 0
            have zB2_1 := blk_frozen B2 1
            have zB2_2 := blk_frozen B2 2
            have zB2_3 := blk_frozen B2 3
            have lB2 := blk_lt B2
            have HB2 := Aside0.mk B2; clear B2
            have cB3_0 := blk_cell B3 0
            have cB3_1 := blk_cell B3 1
            have cB3_2 := blk_cell B3 2
            have cB3_3 := blk_cell B3 3
            simp only [List.getElem?_toArray, List.getElem?_cons_zero, List.getElem?_cons_succ] at cB3_0 cB3_1 cB3_2 cB3_3
            have zB3_0 := blk_frozen B3 0
            have zB3_1 := blk_frozen B3 1
            have zB3_2 := blk_frozen B3 2
            have zB3_3 := blk_frozen B3 3
            have lB3 := blk_lt B3
            have HB3 := Aside0.mk B3; clear B3
            have cB4_0 := blk_cell B4 0
            have cB4_1 := blk_cell B4 1
            have cB4_2 := blk_cell B4 2
            have cB4_3 := blk_cell B4 3
            simp only [List.getElem?_toArray, List.getElem?_cons_zero, List.getElem?_cons_succ] at cB4_0 cB4_1 cB4_2 cB4_3
            have zB4_0 := blk_frozen B4 0
            have zB4_1 := blk_frozen B4 1
            have zB4_2 := blk_frozen B4 2
            have zB4_3 := blk_frozen B4 3
            have lB4 := blk_lt B4
            have HB4 := Aside0.mk B4; clear B4
            have hrt : right ⟨t0, t1, t2, t3⟩ = true := by have := next_right _ kk 0 0 HO.out; rw [HT.out] at this; exact this
            go_wp2_with (go_at_call 13; (with_reducible refine (S1.right_any _ _ _ _ _).mono ?_); rintro e v1 ⟨rfl, rfl⟩)
            go_roundw
            case rel => exact ⟨k + 1, ⟨t0, t1, t2, t3⟩, by go_num, by omega, IsBlk.alloc (IsBlk.set4 (IsBlk.far4 HB3.out (by omega))) _, IsBlk.alloc (IsBlk.far4 (IsBlk.set4 HB4.out) (by omega)) _, ⟨hrt⟩, ⟨by repeat (first | (with_reducible exact HB'.out) | (with_reducible apply below_alloc) | ((with_reducible refine below_set ?_ ?_); rotate_left; omega))⟩⟩
            case measure => simp [intOf]; omega
      · have hi1 : decide ((k : Int) < (ks.length : Int)) = true := by simp; omega
        have hi2 : decide ((k : Int) < 80) = false := by simp; omega
        go_wp2
        go_ret
        exact ⟨rfl, HB.out⟩
    · have hi1 : decide ((k : Int) < (ks.length : Int)) = false := by simp; omega
      go_wp2
      go_ret
      exact ⟨rfl, HB.out⟩

theorem walk (a b c d : Int) (A1 : Option Addr) (k1 : Nat) (ks : List Int) (A2 : Option Addr) (k2 : Nat) (ps : List (Int × Int)) (w : World) (h1 : Rowz Is3 1 w A1 ks) (hk1 : ks.length ≤ k1) (h2 : Rowz Is35 2 w A2 ps) (hk2 : ps.length ≤ k2) :
    Calls Try.prog 5 #[sv ⟨a, b, c, d⟩, .slice A1 ks.length k1, .slice A2 ps.length k2] w fun e w' => e = .returned (.bool true) ∧ Below w.heap.size w w' := by
  obtain ⟨⟨x0, x1, x2, x3⟩, hx⟩ : ∃ x, good ⟨a, b, c, d⟩ = x := ⟨_, rfl⟩
  exact walk_with a b c d x0 x1 x2 x3 A1 A2 k1 k2 ks ps w hx (by rw [← hx]; exact good_right _) h1 hk1 h2 hk2
end Go.Proofs.Ytiegioncmpkpcaa.WalkSlotWalks
