/-
  Proved here: what pacesetterlaw09.LeaseOne returns, whatever the input: true. No condition but how the slice reads.
-/
import Derived.Test.YtnjmhiglpapopaaL5
import Derived.Deep.DeepCutAuto
import Derived.Deep.CutBlock
import Derived.Deep.RegionHeld3
namespace Go.Proofs.Ytnjmhiglpapopaa.WalkLeaseOne
open Go.RowKit Go.Proofs.Ytnjmhiglpapopaa.M Go.Proofs.Ytnjmhiglpapopaa.L0 Go.Proofs.Ytnjmhiglpapopaa.L1 Go.Proofs.Ytnjmhiglpapopaa.L2 Go.Proofs.Ytnjmhiglpapopaa.L3 Go.Proofs.Ytnjmhiglpapopaa.L4 Go.Proofs.Ytnjmhiglpapopaa.L5a Go.Proofs.Ytnjmhiglpapopaa.L5 Go.Proofs.YtnjmhiglpapopaaW.PrintWords Go.Proofs.YtnjmhiglpapopaaW.PrintLast Go.Proofs.YtnjmhiglpapopaaW.PrintMore
open PLeaseKeeps (S35 k35 z35)
set_option linter.unusedVariables false
set_option linter.unusedSimpArgs false
attribute [local go_sem] max2_int min2_int max_two min_two run_makeMap lv field40

/-- How many hold, of those ahead of a place. -/
def Cnt (g : Ta) (s : ByteArray) (now : Int) (a c : Int) (z : Int) : Prop := z = 0 ∨ (z = 1 ∧ ∃ a' c' : Int, (a' < a ∨ (a' = a ∧ c' < c)) ∧ holds g s a' c' now = true)
theorem cnt_no {g : Ta} {s : ByteArray} {now a c z : Int} (h : Cnt g s now a c z) : Cnt g s now a (c + 1) z := by
  rcases h with h | ⟨h, a', c', h1, h2⟩
  · exact .inl h
  · exact .inr ⟨h, a', c', by omega, h2⟩
theorem cnt_row {g : Ta} {s : ByteArray} {now a c z : Int} (h : Cnt g s now a c z) : Cnt g s now (a + 1) 0 z := by
  rcases h with h | ⟨h, a', c', h1, h2⟩
  · exact .inl h
  · exact .inr ⟨h, a', c', by omega, h2⟩
theorem cnt_yes {g : Ta} {s : ByteArray} {now a c z : Int} (h : Cnt g s now a c z) (hh : holds g s a c now = true) : z = 0 ∧ Cnt g s now a (c + 1) 1 := by
  refine ⟨?_, .inr ⟨rfl, a, c, by omega, hh⟩⟩
  rcases h with h | ⟨h, a', c', h1, h2⟩
  · exact h
  · obtain ⟨l, hl, e1, e2, _⟩ := holds_some' hh
    obtain ⟨l', hl', e1', e2', _⟩ := holds_some' h2
    rw [hl] at hl'
    cases hl'
    omega

set_option maxRecDepth 100000 in
set_option maxHeartbeats 4000000 in
theorem law (m0 : Int) (A : Option Addr) (c0 : Nat) (l : List S35) (w : World) (hr : Kd.C k35 w A l.length l) (hc : l.length ≤ c0) : Calls Try.prog 4 #[.int .i64 m0, .slice A l.length c0] w fun e w' => e = .returned (.bool true) ∧ Below w.heap.size w w' := by
  have HC := Aside0.mk hr
  have Hc := Aside0.mk hc
  clear hr hc
  have HB := Aside0.mk (Below.refl w.heap.size w)
  go_enter Try.func4, Try.ntmps4
  go_wp2_with fail
  refine (lives_q _).mono ?_
  rintro e w1 ⟨rfl, hb1⟩
  have n0 := Aside0.mk (below_step (by repeat (first | (with_reducible first | exact HB.out | apply below_alloc | apply pw_below_drewN | apply below_drew1) | refine below_set ?_ (by omega))) hb1)
  clear HB hb1
  have HB := n0
  clear n0
  go_wp2_with fail
  refine (new_e m0 _).mono ?_
  rintro e w2 ⟨b, q, rfl, hT, hb1, hq, hbq⟩
  have hq : w.heap.size ≤ q := Nat.le_trans (Below.size (by repeat (first | (with_reducible first | exact HB.out | apply below_alloc | apply pw_below_drewN | apply below_drew1) | refine below_set ?_ (by omega)))) hq
  have hbq : w.heap.size ≤ b := Nat.le_trans (Below.size (by repeat (first | (with_reducible first | exact HB.out | apply below_alloc | apply pw_below_drewN | apply below_drew1) | refine below_set ?_ (by omega)))) hbq
  obtain ⟨m, hm⟩ : ∃ m, cut m0 = m := ⟨_, rfl⟩
  have hm1 : 0 ≤ m ∧ m ≤ 1048576 := hm ▸ cut_in m0
  rw [hm] at hT
  clear hm
  have T := Aside0.mk hT
  clear hT
  have n0 := Aside0.mk (below_step (by repeat (first | (with_reducible first | exact HB.out | apply below_alloc | apply pw_below_drewN | apply below_drew1) | refine below_set ?_ (by omega))) hb1)
  clear HB hb1
  have HB := n0
  clear n0
  go_wp2_with fail
  refine (early_q A c0 l _ ?hC Hc.out q ?hq).mono ?_
  case hC => exact Kd.C_below HC.out (by repeat (first | (with_reducible first | exact HB.out | apply below_alloc | apply pw_below_drewN | apply below_drew1) | refine below_set ?_ (by omega)))
  case hq => first | exact T.out.map.lt | (have := T.out.map.lt; simp; omega)
  rintro e w3 ⟨A', c', xs, rfl, hx80, hR, hb1⟩
  have HR := Aside0.mk hR
  clear hR
  have n0 := Aside0.mk (below_step (by repeat (first | (with_reducible first | exact HB.out | apply below_alloc | apply pw_below_drewN | apply below_drew1) | refine below_set ?_ (by omega))) hb1)
  have nT := Aside0.mk (Tab.below (by repeat (with_reducible first | exact T.out | apply Tab.alloc | apply Tab.drewN)) hb1)
  clear HB hb1 T
  have HB := n0
  have T := nT
  clear n0 nT
  go_wp2_with fail
  go_loopw [6] (fun i wr => ∃ (k : Nat) (g : Ta), i = .int .i64 k ∧ k ≤ xs.length ∧ Aside0 (Inv g) ∧ Aside0 (Tab wr b q m g) ∧ Aside0 (Row wr w2.heap.size q (.slice A' xs.length c') xs) ∧ Aside0 (Below w.heap.size w wr)) (fun i _ => xs.length - (intOf i).toNat)
  case atStart => exact ⟨0, fun _ => none, rfl, by omega, ⟨inv_none⟩, ⟨(by repeat (with_reducible first | exact T.out | apply Tab.alloc | apply Tab.drewN))⟩, ⟨(by (with_reducible repeat (first | apply Kd.R_alloc | apply Kd.R_drewN | apply Kd.R_drew)); exact HR.out)⟩, ⟨by repeat (first | (with_reducible first | exact HB.out | apply below_alloc | apply pw_below_drewN | apply below_drew1) | refine below_set ?_ (by omega))⟩⟩
  case round =>
    obtain ⟨wq, hwq⟩ : ∃ x, x = wr := ⟨_, rfl⟩
    subst hwq
    obtain ⟨k, g, rfl, hk, HI, T, HR, HB⟩ := hrel
    by_cases hlt : k < xs.length
    · have hi1 : decide ((k : Int) < (xs.length : Int)) = true := by simp; omega
      have hki : (k : Int) < (xs.length : Int) := by omega
      obtain ⟨rb, ro, x0, x1, x2, x3, x4, s, rfl, hrb, c0_, c1_, c2_, c3_, c4_, c5_⟩ := Row.at_ HR.out k hlt
      go_wp2_with fail
      refine (kind_q x0 x1 x2 x3 x4 s _).mono ?_
      rintro e w4 ⟨rfl, hb1⟩
      have hqD : wq.heap.size ≠ q := by have := T.out.map.lt; omega
      have n0 := Aside0.mk (below_step (by repeat (first | (with_reducible first | exact HB.out | apply below_alloc | apply pw_below_drewN | apply below_drew1) | refine below_set ?_ (by omega))) hb1)
      have nT := Aside0.mk (Tab.below (by repeat (with_reducible first | exact T.out | apply Tab.alloc | apply Tab.drewN)) hb1)
      have nR := Aside0.mk (Kd.R_below (by (with_reducible repeat (first | apply Kd.R_alloc | apply Kd.R_drewN | apply Kd.R_drew)); exact HR.out) hb1)
      have D : IsBlk w4 (wq.heap.size) #[.int .i64 x0, .int .i64 x1, .int .i64 x2, .int .i64 x3, .int .i64 x4, .string s] 35 := IsBlk.below (by repeat (first | ((refine IsBlk.new _ _ ?_); (simp; done)) | apply IsBlk.alloc | apply IsBlk.drewN)) hb1
      have D_0 := blk_cell D 0
      have D_1 := blk_cell D 1
      have D_2 := blk_cell D 2
      have D_3 := blk_cell D 3
      have D_4 := blk_cell D 4
      have D_5 := blk_cell D 5
      simp only [List.getElem?_toArray, List.getElem?_cons_zero, List.getElem?_cons_succ] at D_0 D_1 D_2 D_3 D_4 D_5
      have D_z0 := blk_frozen D 0
      have D_z1 := blk_frozen D 1
      have D_z2 := blk_frozen D 2
      have D_z3 := blk_frozen D 3
      have D_z4 := blk_frozen D 4
      have D_z5 := blk_frozen D 5
      have D_l := blk_lt D
      have HD := Aside0.mk D
      clear D
      clear HB hb1 T HR
      have HB := n0
      have T := nT
      have HR := nR
      clear n0 nT nR
      clear c0_ c1_ c2_ c3_ c4_ c5_ hrb
      obtain ⟨kk, hkk⟩ : ∃ y, kd x0 = y := ⟨_, rfl⟩
      have hkc : kk = 0 ∨ kk = 1 ∨ kk = 2 ∨ kk = 3 := hkk ▸ kd_cases x0
      rw [hkk]
      clear hkk
      go_upto_block 2 with fail
      go_cut [] (fun wc => ∃ g' : Ta, Aside0 (Tab wc b q m g') ∧ Aside0 (Inv g') ∧ Aside0 (Row wc w2.heap.size q (.slice (some ⟨rb, ro, none⟩) xs.length c') xs) ∧ Aside0 (Below w.heap.size w wc) ∧ IsBlk wc wq.heap.size #[.int .i64 x0, .int .i64 x1, .int .i64 x2, .int .i64 x3, .int .i64 x4, .string s] 35)
      case first =>
        rcases hkc with rfl | rfl | rfl | rfl
        · go_wp2_with fail
          obtain ⟨⟨r, x, g'⟩, hg'⟩ : ∃ p, take g m s x1 x3 x4 = p := ⟨_, rfl⟩
          have HG := Aside0.mk hg'
          clear hg'
          refine (take_any b q m g s x1 x3 x4 _ ?hT r x g' HG.out).mono ?_
          case hT => repeat (with_reducible first | exact T.out | apply Tab.alloc | apply Tab.drewN)
          rintro e w5 ⟨rfl, hT, hgr⟩
          have D5 := IsBlk.grownBy (by repeat (with_reducible first | exact HD.out | apply IsBlk.alloc | apply IsBlk.drewN | apply IsBlk.drew)) hgr hqD
          have R5 := tab_turn (by (with_reducible repeat (first | apply Kd.R_alloc | apply Kd.R_drewN | apply Kd.R_drew)); exact HR.out) hgr
          have B5 := below_turn (by repeat (first | (with_reducible first | exact HB.out | apply below_alloc | apply pw_below_drewN | apply below_drew1) | refine below_set ?_ (by omega))) hgr hq
          go_wp2_with fail
          go_meet
          exact ⟨_, ⟨hT⟩, ⟨(by have := inv_take HI.out m s x1 x3 x4; rw [HG.out] at this; exact this)⟩, ⟨R5⟩, ⟨B5⟩, D5⟩
        · go_wp2_with fail
          obtain ⟨⟨r, x, g'⟩, hg'⟩ : ∃ p, renew g s x1 x2 x3 x4 = p := ⟨_, rfl⟩
          have HG := Aside0.mk hg'
          clear hg'
          refine (renew_any b q m g s x1 x2 x3 x4 _ ?hT r x g' HG.out).mono ?_
          case hT => repeat (with_reducible first | exact T.out | apply Tab.alloc | apply Tab.drewN)
          rintro e w5 ⟨rfl, hT, hgr⟩
          have D5 := IsBlk.grownBy (by repeat (with_reducible first | exact HD.out | apply IsBlk.alloc | apply IsBlk.drewN | apply IsBlk.drew)) hgr hqD
          have R5 := tab_turn (by (with_reducible repeat (first | apply Kd.R_alloc | apply Kd.R_drewN | apply Kd.R_drew)); exact HR.out) hgr
          have B5 := below_turn (by repeat (first | (with_reducible first | exact HB.out | apply below_alloc | apply pw_below_drewN | apply below_drew1) | refine below_set ?_ (by omega))) hgr hq
          go_wp2_with fail
          go_meet
          exact ⟨_, ⟨hT⟩, ⟨(by have := inv_renew HI.out s x1 x2 x3 x4; rw [HG.out] at this; exact this)⟩, ⟨R5⟩, ⟨B5⟩, D5⟩
        · go_wp2_with fail
          obtain ⟨⟨x, g'⟩, hg'⟩ : ∃ p, drop g s x1 x2 = p := ⟨_, rfl⟩
          have HG := Aside0.mk hg'
          clear hg'
          refine (drop_any b q m g s x1 x2 _ ?hT x g' HG.out).mono ?_
          case hT => repeat (with_reducible first | exact T.out | apply Tab.alloc | apply Tab.drewN)
          rintro e w5 ⟨rfl, hT, hgr⟩
          have D5 := IsBlk.grownBy (by repeat (with_reducible first | exact HD.out | apply IsBlk.alloc | apply IsBlk.drewN | apply IsBlk.drew)) hgr hqD
          have R5 := tab_turn (by (with_reducible repeat (first | apply Kd.R_alloc | apply Kd.R_drewN | apply Kd.R_drew)); exact HR.out) hgr
          have B5 := below_turn (by repeat (first | (with_reducible first | exact HB.out | apply below_alloc | apply pw_below_drewN | apply below_drew1) | refine below_set ?_ (by omega))) hgr hq
          go_wp2_with fail
          go_meet
          exact ⟨_, ⟨hT⟩, ⟨(by have := inv_drop HI.out s x1 x2; rw [HG.out] at this; exact this)⟩, ⟨R5⟩, ⟨B5⟩, D5⟩
        · go_wp2_with fail
          go_meet
          exact ⟨g, ⟨(by repeat (with_reducible first | exact T.out | apply Tab.alloc | apply Tab.drewN))⟩, HI, ⟨(by (with_reducible repeat (first | apply Kd.R_alloc | apply Kd.R_drewN | apply Kd.R_drew)); exact HR.out)⟩, ⟨by repeat (first | (with_reducible first | exact HB.out | apply below_alloc | apply pw_below_drewN | apply below_drew1) | refine below_set ?_ (by omega))⟩, (by repeat (with_reducible first | exact HD.out | apply IsBlk.alloc | apply IsBlk.drewN | apply IsBlk.drew))⟩
      case rest =>
        clear D_0 D_1 D_2 D_3 D_4 D_5 D_z0 D_z1 D_z2 D_z3 D_z4 D_z5 D_l HD
        clear T HI HR HB
        obtain ⟨g', T, HI, HR, HB, D⟩ := hcut
        have D_0 := blk_cell D 0
        have D_1 := blk_cell D 1
        have D_2 := blk_cell D 2
        have D_3 := blk_cell D 3
        have D_4 := blk_cell D 4
        have D_5 := blk_cell D 5
        simp only [List.getElem?_toArray, List.getElem?_cons_zero, List.getElem?_cons_succ] at D_0 D_1 D_2 D_3 D_4 D_5
        have D_z0 := blk_frozen D 0
        have D_z1 := blk_frozen D 1
        have D_z2 := blk_frozen D 2
        have D_z3 := blk_frozen D 3
        have D_z4 := blk_frozen D 4
        have D_z5 := blk_frozen D 5
        have D_l := blk_lt D
        have HD := Aside0.mk D
        clear D
        go_wp2_with fail
        refine (get_q b q m g' s _ ?hT).mono ?_
        case hT => repeat (with_reducible first | exact T.out | apply Tab.alloc | apply Tab.drewN)
        obtain ⟨⟨lh, le, lu⟩, hle⟩ : ∃ p, (g' s).getD noLe = p := ⟨_, rfl⟩
        obtain ⟨li, hli⟩ : ∃ p, (g' s).isSome = p := ⟨_, rfl⟩
        rw [hle, hli]
        have HE := Aside0.mk hle
        have HEI := Aside0.mk hli
        clear hle hli
        rintro e w6 ⟨rfl, hb1⟩
        have n0 := Aside0.mk (below_step (by repeat (first | (with_reducible first | exact HB.out | apply below_alloc | apply pw_below_drewN | apply below_drew1) | refine below_set ?_ (by omega))) hb1)
        have nT := Aside0.mk (Tab.below (by repeat (with_reducible first | exact T.out | apply Tab.alloc | apply Tab.drewN)) hb1)
        have nR := Aside0.mk (Kd.R_below (by (with_reducible repeat (first | apply Kd.R_alloc | apply Kd.R_drewN | apply Kd.R_drew)); exact HR.out) hb1)
        have D' := IsBlk.below (by repeat (with_reducible first | exact HD.out | apply IsBlk.alloc | apply IsBlk.drewN | apply IsBlk.drew)) hb1
        clear D_0 D_1 D_2 D_3 D_4 D_5 D_z0 D_z1 D_z2 D_z3 D_z4 D_z5 D_l HD
        have D := D'
        clear D'
        have D_0 := blk_cell D 0
        have D_1 := blk_cell D 1
        have D_2 := blk_cell D 2
        have D_3 := blk_cell D 3
        have D_4 := blk_cell D 4
        have D_5 := blk_cell D 5
        simp only [List.getElem?_toArray, List.getElem?_cons_zero, List.getElem?_cons_succ] at D_0 D_1 D_2 D_3 D_4 D_5
        have D_z0 := blk_frozen D 0
        have D_z1 := blk_frozen D 1
        have D_z2 := blk_frozen D 2
        have D_z3 := blk_frozen D 3
        have D_z4 := blk_frozen D 4
        have D_z5 := blk_frozen D 5
        have D_l := blk_lt D
        have HD := Aside0.mk D
        clear D
        clear HB hb1 T HR
        have HB := n0
        have T := nT
        have HR := nR
        clear n0 nT nR
        go_wp2_with fail
        have L : IsBlk (w6.alloc (.cells #[.int .i64 lh, .int .i64 le, .int .i64 lu] 40)) w6.heap.size #[.int .i64 lh, .int .i64 le, .int .i64 lu] 40 := IsBlk.new _ _ rfl
        have HL0 := Aside0.mk L
        clear L
        go_loopw [10, 11] (fun n who wx => ∃ (a : Nat) (z : Int), who = .int .i64 a ∧ a ≤ 4 ∧ n = .int .i64 z ∧ Aside0 (Cnt g' s x3 a 0 z) ∧ Aside0 (Tab wx b q m g') ∧ Aside0 (Row wx w2.heap.size q (.slice (some ⟨rb, ro, none⟩) xs.length c') xs) ∧ Aside0 (Below w.heap.size w wx) ∧ Aside0 (IsBlk wx wq.heap.size #[.int .i64 x0, .int .i64 x1, .int .i64 x2, .int .i64 x3, .int .i64 x4, .string s] 35) ∧ Aside0 (IsBlk wx w6.heap.size #[.int .i64 lh, .int .i64 le, .int .i64 lu] 40)) (fun _ i _ => 4 - (intOf i).toNat)
        case atStart => exact ⟨0, 0, rfl, by omega, rfl, ⟨.inl rfl⟩, ⟨(by repeat (with_reducible first | exact T.out | apply Tab.alloc | apply Tab.drewN))⟩, ⟨(by (with_reducible repeat (first | apply Kd.R_alloc | apply Kd.R_drewN | apply Kd.R_drew)); exact HR.out)⟩, ⟨by repeat (first | (with_reducible first | exact HB.out | apply below_alloc | apply pw_below_drewN | apply below_drew1) | refine below_set ?_ (by omega))⟩, ⟨(by repeat (with_reducible first | exact HD.out | apply IsBlk.alloc | apply IsBlk.drewN | apply IsBlk.drew))⟩, HL0⟩
        case round =>
          clear D_0 D_1 D_2 D_3 D_4 D_5 D_z0 D_z1 D_z2 D_z3 D_z4 D_z5 D_l HD
          clear T HR HB HL0
          obtain ⟨a, z, rfl, ha, rfl, HZ, T, HR, HB, HD0, HL0⟩ := hrel
          have D := HD0.out
          clear HD0
          have D_0 := blk_cell D 0
          have D_1 := blk_cell D 1
          have D_2 := blk_cell D 2
          have D_3 := blk_cell D 3
          have D_4 := blk_cell D 4
          have D_5 := blk_cell D 5
          simp only [List.getElem?_toArray, List.getElem?_cons_zero, List.getElem?_cons_succ] at D_0 D_1 D_2 D_3 D_4 D_5
          have D_z0 := blk_frozen D 0
          have D_z1 := blk_frozen D 1
          have D_z2 := blk_frozen D 2
          have D_z3 := blk_frozen D 3
          have D_z4 := blk_frozen D 4
          have D_z5 := blk_frozen D 5
          have D_l := blk_lt D
          have HD := Aside0.mk D
          clear D
          have L := HL0.out
          clear HL0
          have L_0 := blk_cell L 0
          have L_1 := blk_cell L 1
          have L_2 := blk_cell L 2
          simp only [List.getElem?_toArray, List.getElem?_cons_zero, List.getElem?_cons_succ] at L_0 L_1 L_2
          have L_z0 := blk_frozen L 0
          have L_z1 := blk_frozen L 1
          have L_z2 := blk_frozen L 2
          have L_l := blk_lt L
          have HL := Aside0.mk L
          clear L
          by_cases ha4 : a < 4
          · have ha1 : decide ((a : Int) < 4) = true := by simp; omega
            go_wp2
            go_loopw [10, 12] (fun n ep wy => ∃ (c : Nat) (z : Int), ep = .int .i64 c ∧ c ≤ 6 ∧ n = .int .i64 z ∧ Aside0 (Cnt g' s x3 a c z) ∧ Aside0 (Tab wy b q m g') ∧ Aside0 (Row wy w2.heap.size q (.slice (some ⟨rb, ro, none⟩) xs.length c') xs) ∧ Aside0 (Below w.heap.size w wy) ∧ Aside0 (IsBlk wy wq.heap.size #[.int .i64 x0, .int .i64 x1, .int .i64 x2, .int .i64 x3, .int .i64 x4, .string s] 35) ∧ Aside0 (IsBlk wy w6.heap.size #[.int .i64 lh, .int .i64 le, .int .i64 lu] 40)) (fun _ i _ => 6 - (intOf i).toNat)
            case atStart => exact ⟨0, z, rfl, by omega, rfl, HZ, ⟨(by repeat (with_reducible first | exact T.out | apply Tab.alloc | apply Tab.drewN))⟩, ⟨(by (with_reducible repeat (first | apply Kd.R_alloc | apply Kd.R_drewN | apply Kd.R_drew)); exact HR.out)⟩, ⟨by repeat (first | (with_reducible first | exact HB.out | apply below_alloc | apply pw_below_drewN | apply below_drew1) | refine below_set ?_ (by omega))⟩, ⟨(by repeat (with_reducible first | exact HD.out | apply IsBlk.alloc | apply IsBlk.drewN | apply IsBlk.drew))⟩, ⟨(by repeat (with_reducible first | exact HL.out | apply IsBlk.alloc | apply IsBlk.drewN | apply IsBlk.drew))⟩⟩
            case round =>
              clear D_0 D_1 D_2 D_3 D_4 D_5 D_z0 D_z1 D_z2 D_z3 D_z4 D_z5 D_l HD
              clear L_0 L_1 L_2 L_z0 L_z1 L_z2 L_l HL
              clear T HR HB HZ
              obtain ⟨c, z, rfl, hc6, rfl, HZ, T, HR, HB, HD0, HL0⟩ := hrel
              have D := HD0.out
              clear HD0
              have D_0 := blk_cell D 0
              have D_1 := blk_cell D 1
              have D_2 := blk_cell D 2
              have D_3 := blk_cell D 3
              have D_4 := blk_cell D 4
              have D_5 := blk_cell D 5
              simp only [List.getElem?_toArray, List.getElem?_cons_zero, List.getElem?_cons_succ] at D_0 D_1 D_2 D_3 D_4 D_5
              have D_z0 := blk_frozen D 0
              have D_z1 := blk_frozen D 1
              have D_z2 := blk_frozen D 2
              have D_z3 := blk_frozen D 3
              have D_z4 := blk_frozen D 4
              have D_z5 := blk_frozen D 5
              have D_l := blk_lt D
              have HD := Aside0.mk D
              clear D
              have L := HL0.out
              clear HL0
              have L_0 := blk_cell L 0
              have L_1 := blk_cell L 1
              have L_2 := blk_cell L 2
              simp only [List.getElem?_toArray, List.getElem?_cons_zero, List.getElem?_cons_succ] at L_0 L_1 L_2
              have L_z0 := blk_frozen L 0
              have L_z1 := blk_frozen L 1
              have L_z2 := blk_frozen L 2
              have L_l := blk_lt L
              have HL := Aside0.mk L
              clear L
              by_cases hc7 : c < 6
              · have hc1 : decide ((c : Int) < 6) = true := by simp; omega
                go_wp2_with fail
                obtain ⟨hh, hhe⟩ : ∃ y, holds g' s a c x3 = y := ⟨_, rfl⟩
                refine (holds_q b q m g' s a c x3 _ ?hT).mono ?_
                case hT => repeat (with_reducible first | exact T.out | apply Tab.alloc | apply Tab.drewN)
                rw [hhe]
                have HH := Aside0.mk hhe
                clear hhe
                rintro e w7 ⟨rfl, hb1⟩
                have n0 := Aside0.mk (below_step (by repeat (first | (with_reducible first | exact HB.out | apply below_alloc | apply pw_below_drewN | apply below_drew1) | refine below_set ?_ (by omega))) hb1)
                have nT := Aside0.mk (Tab.below (by repeat (with_reducible first | exact T.out | apply Tab.alloc | apply Tab.drewN)) hb1)
                have nR := Aside0.mk (Kd.R_below (by (with_reducible repeat (first | apply Kd.R_alloc | apply Kd.R_drewN | apply Kd.R_drew)); exact HR.out) hb1)
                have D' := IsBlk.below (by repeat (with_reducible first | exact HD.out | apply IsBlk.alloc | apply IsBlk.drewN | apply IsBlk.drew)) hb1
                clear D_0 D_1 D_2 D_3 D_4 D_5 D_z0 D_z1 D_z2 D_z3 D_z4 D_z5 D_l HD
                have D := D'
                clear D'
                have D_0 := blk_cell D 0
                have D_1 := blk_cell D 1
                have D_2 := blk_cell D 2
                have D_3 := blk_cell D 3
                have D_4 := blk_cell D 4
                have D_5 := blk_cell D 5
                simp only [List.getElem?_toArray, List.getElem?_cons_zero, List.getElem?_cons_succ] at D_0 D_1 D_2 D_3 D_4 D_5
                have D_z0 := blk_frozen D 0
                have D_z1 := blk_frozen D 1
                have D_z2 := blk_frozen D 2
                have D_z3 := blk_frozen D 3
                have D_z4 := blk_frozen D 4
                have D_z5 := blk_frozen D 5
                have D_l := blk_lt D
                have HD := Aside0.mk D
                clear D
                have L' := IsBlk.below (by repeat (with_reducible first | exact HL.out | apply IsBlk.alloc | apply IsBlk.drewN | apply IsBlk.drew)) hb1
                clear L_0 L_1 L_2 L_z0 L_z1 L_z2 L_l HL
                have L := L'
                clear L'
                have L_0 := blk_cell L 0
                have L_1 := blk_cell L 1
                have L_2 := blk_cell L 2
                simp only [List.getElem?_toArray, List.getElem?_cons_zero, List.getElem?_cons_succ] at L_0 L_1 L_2
                have L_z0 := blk_frozen L 0
                have L_z1 := blk_frozen L 1
                have L_z2 := blk_frozen L 2
                have L_l := blk_lt L
                have HL := Aside0.mk L
                clear L
                clear HB hb1 T HR
                have HB := n0
                have T := nT
                have HR := nR
                clear n0 nT nR
                cases hh with
                | false =>
                  go_wp2
                  go_roundw
                  case rel => exact ⟨c + 1, z, by go_num, by omega, rfl, ⟨cnt_no HZ.out⟩, ⟨(by repeat (with_reducible first | exact T.out | apply Tab.alloc | apply Tab.drewN))⟩, ⟨(by (with_reducible repeat (first | apply Kd.R_alloc | apply Kd.R_drewN | apply Kd.R_drew)); exact HR.out)⟩, ⟨by repeat (first | (with_reducible first | exact HB.out | apply below_alloc | apply pw_below_drewN | apply below_drew1) | refine below_set ?_ (by omega))⟩, ⟨(by repeat (with_reducible first | exact HD.out | apply IsBlk.alloc | apply IsBlk.drewN | apply IsBlk.drew))⟩, ⟨(by repeat (with_reducible first | exact HL.out | apply IsBlk.alloc | apply IsBlk.drewN | apply IsBlk.drew))⟩⟩
                  case measure => simp [intOf]; omega
                | true =>
                  obtain ⟨hz0, hz1⟩ := cnt_yes HZ.out HH.out
                  have HZ1 := Aside0.mk hz1
                  clear hz1
                  obtain ⟨l1, hl1, e1, e2, _⟩ := holds_some' HH.out
                  have hE := HE.out
                  have hI := HEI.out
                  rw [hl1] at hE hI
                  have hE' : l1 = ⟨lh, le, lu⟩ := hE
                  subst hE'
                  dsimp only at e1 e2
                  obtain rfl : li = true := hI.symm
                  clear hE hI hl1
                  subst hz0
                  have t1 : (lh != (a : Int)) = false := by simp; omega
                  have t2 : (le != (c : Int)) = false := by simp; omega
                  clear e1 e2
                  go_wp2
                  go_roundw
                  case rel => exact ⟨c + 1, 1, by go_num, by omega, rfl, HZ1, ⟨(by repeat (with_reducible first | exact T.out | apply Tab.alloc | apply Tab.drewN))⟩, ⟨(by (with_reducible repeat (first | apply Kd.R_alloc | apply Kd.R_drewN | apply Kd.R_drew)); exact HR.out)⟩, ⟨by repeat (first | (with_reducible first | exact HB.out | apply below_alloc | apply pw_below_drewN | apply below_drew1) | refine below_set ?_ (by omega))⟩, ⟨(by repeat (with_reducible first | exact HD.out | apply IsBlk.alloc | apply IsBlk.drewN | apply IsBlk.drew))⟩, ⟨(by repeat (with_reducible first | exact HL.out | apply IsBlk.alloc | apply IsBlk.drewN | apply IsBlk.drew))⟩⟩
                  case measure => simp [intOf]; omega
              · have hc1 : decide ((c : Int) < 6) = false := by simp; omega
                go_wp2
                go_roundw
                case rel => exact ⟨a + 1, z, by go_num, by omega, rfl, ⟨cnt_row HZ.out⟩, ⟨(by repeat (with_reducible first | exact T.out | apply Tab.alloc | apply Tab.drewN))⟩, ⟨(by (with_reducible repeat (first | apply Kd.R_alloc | apply Kd.R_drewN | apply Kd.R_drew)); exact HR.out)⟩, ⟨by repeat (first | (with_reducible first | exact HB.out | apply below_alloc | apply pw_below_drewN | apply below_drew1) | refine below_set ?_ (by omega))⟩, ⟨(by repeat (with_reducible first | exact HD.out | apply IsBlk.alloc | apply IsBlk.drewN | apply IsBlk.drew))⟩, ⟨(by repeat (with_reducible first | exact HL.out | apply IsBlk.alloc | apply IsBlk.drewN | apply IsBlk.drew))⟩⟩
                case measure => simp [intOf]; omega
          · have ha1 : decide ((a : Int) < 4) = false := by simp; omega
            rcases HZ.out with rfl | ⟨rfl, a', c'', _, hh⟩
            · go_wp2_with fail
              go_roundw
              case rel => exact ⟨k + 1, g', by go_num, by omega, HI, ⟨(by repeat (with_reducible first | exact T.out | apply Tab.alloc | apply Tab.drewN))⟩, ⟨(by (with_reducible repeat (first | apply Kd.R_alloc | apply Kd.R_drewN | apply Kd.R_drew)); exact HR.out)⟩, ⟨by repeat (first | (with_reducible first | exact HB.out | apply below_alloc | apply pw_below_drewN | apply below_drew1) | refine below_set ?_ (by omega))⟩⟩
              case measure => simp [intOf]; omega
            · have hf := held_not_free HI.out hm1 hh
              clear hh
              have HF := Aside0.mk hf
              clear hf
              go_wp2_with fail
              refine (free_q b q m g' s x3 _ ?hT).mono ?_
              case hT => repeat (with_reducible first | exact T.out | apply Tab.alloc | apply Tab.drewN)
              rw [HF.out]
              rintro e w8 ⟨rfl, hb1⟩
              have n0 := Aside0.mk (below_step (by repeat (first | (with_reducible first | exact HB.out | apply below_alloc | apply pw_below_drewN | apply below_drew1) | refine below_set ?_ (by omega))) hb1)
              have nT := Aside0.mk (Tab.below (by repeat (with_reducible first | exact T.out | apply Tab.alloc | apply Tab.drewN)) hb1)
              have nR := Aside0.mk (Kd.R_below (by (with_reducible repeat (first | apply Kd.R_alloc | apply Kd.R_drewN | apply Kd.R_drew)); exact HR.out) hb1)
              clear HB hb1 T HR
              have HB := n0
              have T := nT
              have HR := nR
              clear n0 nT nR
              go_wp2_with fail
              go_roundw
              case rel => exact ⟨k + 1, g', by go_num, by omega, HI, ⟨(by repeat (with_reducible first | exact T.out | apply Tab.alloc | apply Tab.drewN))⟩, ⟨(by (with_reducible repeat (first | apply Kd.R_alloc | apply Kd.R_drewN | apply Kd.R_drew)); exact HR.out)⟩, ⟨by repeat (first | (with_reducible first | exact HB.out | apply below_alloc | apply pw_below_drewN | apply below_drew1) | refine below_set ?_ (by omega))⟩⟩
              case measure => simp [intOf]; omega
    · have hi1 : decide ((k : Int) < (xs.length : Int)) = false := by simp; omega
      go_wp2
      go_ret
      exact ⟨rfl, HB.out⟩
theorem walk (a0 : Int) (A1 : Option Addr) (c1 : Nat) (l1 : List (Int × Int × Int × Int × Int × ByteArray)) (w : World) (_ : (Lit.int .i64 a0).wf = true) (h1 : O.Rowz O.Is35 6 w A1 l1) (h2 : l1.length ≤ c1) :
    Calls Try.prog 4 #[.int .i64 a0, .slice A1 l1.length c1] w fun e w' => e = .returned (.bool true) ∧ Below w.heap.size w w' := by
  have h := law a0 A1 c1 (l1.map toS) w (C_of_Rowz h1) (by simpa using h2)
  rw [List.length_map] at h
  exact h
end Go.Proofs.Ytnjmhiglpapopaa.WalkLeaseOne
