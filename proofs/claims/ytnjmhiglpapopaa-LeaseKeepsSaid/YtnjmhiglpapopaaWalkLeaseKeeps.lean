/-
  Proved here: what pacesetterlaw09.LeaseKeeps returns, whatever the input: true. No condition but how the slice reads.
-/
import Derived.Test.YtnjmhiglpapopaaL5
import Derived.Deep.DeepCutAuto
import Derived.Deep.CutBlock
import Derived.Deep.RegionHeld3
import Derived.Lib.SlicesS
namespace Go.Proofs.Ytnjmhiglpapopaa.WalkLeaseKeeps
open Go.RowKit Go.Proofs.Ytnjmhiglpapopaa.M Go.Proofs.Ytnjmhiglpapopaa.L0 Go.Proofs.Ytnjmhiglpapopaa.L1 Go.Proofs.Ytnjmhiglpapopaa.L2 Go.Proofs.Ytnjmhiglpapopaa.L3 Go.Proofs.Ytnjmhiglpapopaa.L4 Go.Proofs.Ytnjmhiglpapopaa.L5a Go.Proofs.Ytnjmhiglpapopaa.L5 Go.Proofs.YtnjmhiglpapopaaW.PrintWords Go.Proofs.YtnjmhiglpapopaaW.PrintLast Go.Proofs.YtnjmhiglpapopaaW.PrintMore
open PLeaseKeeps (S35 k35 z35)
set_option linter.unusedVariables false
set_option linter.unusedSimpArgs false
attribute [local go_sem] max2_int min2_int max_two min_two run_makeMap lv field40

abbrev on : ByteArray := { data := #[111, 119, 110] }
theorem not_on {s : ByteArray} (hs : s ≠ on) : (s.toList == [111, 119, 110]) = false := by
  have h : (s.toList == on.toList) = false := by rw [Bool.eq_false_iff]; exact fun h => hs ((Lib.bytes_beq_iff s on).1 h)
  have e : on.toList = [111, 119, 110] := by rw [ByteArray.toList_eq]
  rwa [e] at h
/-- "own" is held as it was taken. -/
def Keeps (g : Ta) : Prop := g on = some ⟨7, 1, 15⟩
theorem keeps_upd {g : Ta} (h : Keeps g) {n : ByteArray} (hn : n ≠ on) (l : Le) : Keeps (upd g n l) := by
  unfold Keeps upd
  rw [if_neg (Ne.symm hn)]
  exact h
theorem keeps_take {g : Ta} (h : Keeps g) (m : Int) {n : ByteArray} (hn : n ≠ on) (a now ttl : Int) : Keeps (take g m n a now ttl).2.2 := by
  unfold take
  (repeat' split) <;> first | exact h | exact keeps_upd h hn _
theorem keeps_renew {g : Ta} (h : Keeps g) {n : ByteArray} (hn : n ≠ on) (a c now ttl : Int) : Keeps (renew g n a c now ttl).2.2 := by
  unfold renew
  (repeat' split) <;> first | exact h | exact keeps_upd h hn _
theorem keeps_drop {g : Ta} (h : Keeps g) {n : ByteArray} (hn : n ≠ on) (a c : Int) : Keeps (drop g n a c).2 := by
  unfold L5.drop
  (repeat' split) <;> first | exact h | exact keeps_upd h hn _
theorem keeps_held {g : Ta} (h : Keeps g) : holds g on 7 1 14 = true := by
  unfold holds
  rw [h]
  rfl
theorem keeps_free {g : Ta} (h : Keeps g) {m : Int} (hm : 0 ≤ m ∧ m ≤ 1048576) : free g m on 14 = false := by
  unfold free
  rw [h]
  have h1 := (late_in (a := 15) (b := m) (by omega) (by omega)).2.2.1 (by omega)
  show ((15 : Int) == 0 || decide (14 ≥ late 15 m)) = false
  rw [h1]
  simp
  omega

set_option maxRecDepth 100000 in
set_option maxHeartbeats 4000000 in
theorem law (m0 : Int) (A : Option Addr) (c0 : Nat) (l : List S35) (w : World) (hr : Kd.C k35 w A l.length l) (hc : l.length ≤ c0) : Calls Try.prog 6 #[.int .i64 m0, .slice A l.length c0] w fun e w' => e = .returned (.bool true) ∧ Below w.heap.size w w' := by
  have HC := Aside0.mk hr
  have Hc := Aside0.mk hc
  clear hr hc
  have HB := Aside0.mk (Below.refl w.heap.size w)
  go_enter Try.func6, Try.ntmps6
  go_wp2_with fail
  refine (lives_q _).mono ?_
  rintro e w1 ⟨rfl, hb1⟩
  have n0 := Aside0.mk (below_step (by repeat (first | (with_reducible first | exact HB.out | apply below_alloc | apply pw_below_drewN | apply below_drew1) | refine below_set ?_ (by omega))) hb1)
  clear HB hb1
  have HB := n0
  clear n0
  go_wp2_with fail
  refine (new_e m0 _).mono ?_
  rintro e w2 ⟨b, q, rfl, hT, hb1, hq, hbq⟩
  have hq : w.heap.size ≤ q := Nat.le_trans (Below.size (by repeat (first | (with_reducible first | exact HB.out | apply below_alloc | apply pw_below_drewN | apply below_drew1) | refine below_set ?_ (by omega)))) hq
  have hbq : w.heap.size ≤ b := Nat.le_trans (Below.size (by repeat (first | (with_reducible first | exact HB.out | apply below_alloc | apply pw_below_drewN | apply below_drew1) | refine below_set ?_ (by omega)))) hbq
  obtain ⟨m, hm⟩ : ∃ m, cut m0 = m := ⟨_, rfl⟩
  have hm1 : 0 ≤ m ∧ m ≤ 1048576 := hm ▸ cut_in m0
  rw [hm] at hT
  clear hm
  have T := Aside0.mk hT
  clear hT
  have n0 := Aside0.mk (below_step (by repeat (first | (with_reducible first | exact HB.out | apply below_alloc | apply pw_below_drewN | apply below_drew1) | refine below_set ?_ (by omega))) hb1)
  clear HB hb1
  have HB := n0
  clear n0
  go_wp2_with fail
  refine (take_ok b q m (fun _ => none) on 7 5 10 _ ?hT (by kernel_rfl) (by rfl) 1 (by kernel_rfl)).mono ?_
  case hT => repeat (with_reducible first | exact T.out | apply Tab.alloc | apply Tab.drewN)
  rintro e w3 ⟨rfl, hT, hb1⟩
  have n0 := Aside0.mk (below_turn (by repeat (first | (with_reducible first | exact HB.out | apply below_alloc | apply pw_below_drewN | apply below_drew1) | refine below_set ?_ (by omega))) hb1 hq)
  have nT := Aside0.mk hT
  clear HB hb1 T hT
  have HB := n0
  have T := nT
  clear n0 nT
  go_wp2_with fail
  refine (get_q b q m (upd (fun _ => none) on ⟨7, 1, late 5 10⟩) on _ ?hT).mono ?_
  case hT => repeat (with_reducible first | exact T.out | apply Tab.alloc | apply Tab.drewN)
  rw [upd_at]
  rintro e w4 ⟨rfl, hb1⟩
  have n0 := Aside0.mk (below_step (by repeat (first | (with_reducible first | exact HB.out | apply below_alloc | apply pw_below_drewN | apply below_drew1) | refine below_set ?_ (by omega))) hb1)
  have nT := Aside0.mk (Tab.below (by repeat (with_reducible first | exact T.out | apply Tab.alloc | apply Tab.drewN)) hb1)
  clear HB hb1 T
  have HB := n0
  have T := nT
  clear n0 nT
  have HK : Aside0 (Keeps (upd (fun _ => none) on ⟨7, 1, late 5 10⟩)) := ⟨by unfold Keeps; rw [upd_at]; kernel_rfl⟩
  generalize (upd (fun _ => none) on ⟨7, 1, late 5 10⟩) = g0 at *
  rw [show lv ((some ⟨7, 1, late 5 10⟩ : Option Le).getD noLe) = .agg #[.int .i64 7, .int .i64 1, .int .i64 15] by kernel_rfl]
  go_wp2_with fail
  have L : IsBlk (w4.alloc (.cells #[.int .i64 7, .int .i64 1, .int .i64 15] 40)) w4.heap.size #[.int .i64 7, .int .i64 1, .int .i64 15] 40 := IsBlk.new _ _ rfl
  have hqL : w4.heap.size ≠ q := by have := T.out.map.lt; omega
  refine (early_q A c0 l _ ?hC Hc.out q ?hq).mono ?_
  case hC => exact Kd.C_below HC.out (by repeat (first | (with_reducible first | exact HB.out | apply below_alloc | apply pw_below_drewN | apply below_drew1) | refine below_set ?_ (by omega)))
  case hq => first | exact T.out.map.lt | (have := T.out.map.lt; simp; omega)
  rintro e w5 ⟨A', c', xs, rfl, hx80, hR, hb1⟩
  have HR := Aside0.mk hR
  clear hR
  have HL := Aside0.mk (IsBlk.below L hb1)
  clear L
  obtain ⟨base, hbase⟩ : ∃ x, (w4.alloc (.cells #[.int .i64 7, .int .i64 1, .int .i64 15] 40)).heap.size = x := ⟨_, rfl⟩
  rw [hbase] at HR
  have n0 := Aside0.mk (below_step (by repeat (first | (with_reducible first | exact HB.out | apply below_alloc | apply pw_below_drewN | apply below_drew1) | refine below_set ?_ (by omega))) hb1)
  have nT := Aside0.mk (Tab.below (by repeat (with_reducible first | exact T.out | apply Tab.alloc | apply Tab.drewN)) hb1)
  clear HB hb1 T
  have HB := n0
  have T := nT
  clear n0 nT
  clear hbase
  go_wp2_with fail
  go_loopw [8] (fun i wr => ∃ (k : Nat) (g : Ta), i = .int .i64 k ∧ k ≤ xs.length ∧ Aside0 (Keeps g) ∧ Aside0 (IsBlk wr w4.heap.size #[.int .i64 7, .int .i64 1, .int .i64 15] 40) ∧ Aside0 (Tab wr b q m g) ∧ Aside0 (Row wr base q (.slice A' xs.length c') xs) ∧ Aside0 (Below w.heap.size w wr)) (fun i _ => xs.length - (intOf i).toNat)
  case atStart => exact ⟨0, _, rfl, by omega, HK, ⟨(by repeat (with_reducible first | exact HL.out | apply IsBlk.alloc | apply IsBlk.drewN | apply IsBlk.drew))⟩, ⟨(by repeat (with_reducible first | exact T.out | apply Tab.alloc | apply Tab.drewN))⟩, ⟨(by (with_reducible repeat (first | apply Kd.R_alloc | apply Kd.R_drewN | apply Kd.R_drew)); exact HR.out)⟩, ⟨by repeat (first | (with_reducible first | exact HB.out | apply below_alloc | apply pw_below_drewN | apply below_drew1) | refine below_set ?_ (by omega))⟩⟩
  case round =>
    obtain ⟨wq, hwq⟩ : ∃ x, x = wr := ⟨_, rfl⟩
    subst hwq
    clear HL HK T HR HB
    obtain ⟨k, g, rfl, hk, HK, HL0, T, HR, HB⟩ := hrel
    have L := HL0.out
    clear HL0
    have L_0 := blk_cell L 0
    have L_1 := blk_cell L 1
    have L_2 := blk_cell L 2
    simp only [List.getElem?_toArray, List.getElem?_cons_zero, List.getElem?_cons_succ] at L_0 L_1 L_2
    have L_z0 := blk_frozen L 0
    have L_z1 := blk_frozen L 1
    have L_z2 := blk_frozen L 2
    have L_l := blk_lt L
    have HL := Aside0.mk L
    clear L
    by_cases hlt : k < xs.length
    · have hi1 : decide ((k : Int) < (xs.length : Int)) = true := by simp; omega
      have hki : (k : Int) < (xs.length : Int) := by omega
      obtain ⟨rb, ro, x0, x1, x2, x3, x4, s, rfl, hrb, c0_, c1_, c2_, c3_, c4_, c5_⟩ := Row.at_ HR.out k hlt
      by_cases hs : s = on
      · subst hs
        go_wp2
        go_roundw
        case rel => exact ⟨k + 1, g, by go_num, by omega, HK, ⟨(by repeat (with_reducible first | exact HL.out | apply IsBlk.alloc | apply IsBlk.drewN | apply IsBlk.drew))⟩, ⟨(by repeat (with_reducible first | exact T.out | apply Tab.alloc | apply Tab.drewN))⟩, ⟨(by (with_reducible repeat (first | apply Kd.R_alloc | apply Kd.R_drewN | apply Kd.R_drew)); exact HR.out)⟩, ⟨by repeat (first | (with_reducible first | exact HB.out | apply below_alloc | apply pw_below_drewN | apply below_drew1) | refine below_set ?_ (by omega))⟩⟩
        case measure => simp [intOf]; omega
      · have HN := Aside0.mk hs
        have hs1 : (s.toList == [111, 119, 110]) = false := not_on hs
        clear hs
        go_wp2_with fail
        refine (kind_q x0 x1 x2 x3 x4 s _).mono ?_
        rintro e w4' ⟨rfl, hb1⟩
        have n0 := Aside0.mk (below_step (by repeat (first | (with_reducible first | exact HB.out | apply below_alloc | apply pw_below_drewN | apply below_drew1) | refine below_set ?_ (by omega))) hb1)
        have nT := Aside0.mk (Tab.below (by repeat (with_reducible first | exact T.out | apply Tab.alloc | apply Tab.drewN)) hb1)
        have nR := Aside0.mk (Kd.R_below (by (with_reducible repeat (first | apply Kd.R_alloc | apply Kd.R_drewN | apply Kd.R_drew)); exact HR.out) hb1)
        have L' := IsBlk.below (by repeat (with_reducible first | exact HL.out | apply IsBlk.alloc | apply IsBlk.drewN | apply IsBlk.drew)) hb1
        clear L_0 L_1 L_2 L_z0 L_z1 L_z2 L_l HL
        have L := L'
        clear L'
        have L_0 := blk_cell L 0
        have L_1 := blk_cell L 1
        have L_2 := blk_cell L 2
        simp only [List.getElem?_toArray, List.getElem?_cons_zero, List.getElem?_cons_succ] at L_0 L_1 L_2
        have L_z0 := blk_frozen L 0
        have L_z1 := blk_frozen L 1
        have L_z2 := blk_frozen L 2
        have L_l := blk_lt L
        have HL := Aside0.mk L
        clear L
        have D : IsBlk w4' (wq.heap.size) #[.int .i64 x0, .int .i64 x1, .int .i64 x2, .int .i64 x3, .int .i64 x4, .string s] 35 := IsBlk.below (by repeat (first | ((refine IsBlk.new _ _ ?_); (simp; done)) | apply IsBlk.alloc | apply IsBlk.drewN)) hb1
        have D_0 := blk_cell D 0
        have D_1 := blk_cell D 1
        have D_2 := blk_cell D 2
        have D_3 := blk_cell D 3
        have D_4 := blk_cell D 4
        have D_5 := blk_cell D 5
        simp only [List.getElem?_toArray, List.getElem?_cons_zero, List.getElem?_cons_succ] at D_0 D_1 D_2 D_3 D_4 D_5
        have D_z0 := blk_frozen D 0
        have D_z1 := blk_frozen D 1
        have D_z2 := blk_frozen D 2
        have D_z3 := blk_frozen D 3
        have D_z4 := blk_frozen D 4
        have D_z5 := blk_frozen D 5
        have D_l := blk_lt D
        have HD := Aside0.mk D
        clear D
        clear HB hb1 T HR
        have HB := n0
        have T := nT
        have HR := nR
        clear n0 nT nR
        clear c0_ c1_ c2_ c3_ c4_ c5_ hrb
        obtain ⟨kk, hkk⟩ : ∃ y, kd x0 = y := ⟨_, rfl⟩
        have hkc : kk = 0 ∨ kk = 1 ∨ kk = 2 ∨ kk = 3 := hkk ▸ kd_cases x0
        rw [hkk]
        clear hkk
        go_upto_block 2 with fail
        go_cut [] (fun wc => ∃ g' : Ta, Aside0 (Tab wc b q m g') ∧ Aside0 (Keeps g') ∧ Aside0 (Row wc base q (.slice (some ⟨rb, ro, none⟩) xs.length c') xs) ∧ Aside0 (Below w.heap.size w wc) ∧ IsBlk wc w4.heap.size #[.int .i64 7, .int .i64 1, .int .i64 15] 40)
        case first =>
          rcases hkc with rfl | rfl | rfl | rfl
          · go_wp2_with fail
            obtain ⟨⟨r, x, g'⟩, hg'⟩ : ∃ p, take g m s x1 x3 x4 = p := ⟨_, rfl⟩
            have HG := Aside0.mk hg'
            clear hg'
            refine (take_any b q m g s x1 x3 x4 _ ?hT r x g' HG.out).mono ?_
            case hT => repeat (with_reducible first | exact T.out | apply Tab.alloc | apply Tab.drewN)
            rintro e w5 ⟨rfl, hT, hgr⟩
            have L5 := IsBlk.grownBy (by repeat (with_reducible first | exact HL.out | apply IsBlk.alloc | apply IsBlk.drewN | apply IsBlk.drew)) hgr hqL
            have R5 := tab_turn (by (with_reducible repeat (first | apply Kd.R_alloc | apply Kd.R_drewN | apply Kd.R_drew)); exact HR.out) hgr
            have B5 := below_turn (by repeat (first | (with_reducible first | exact HB.out | apply below_alloc | apply pw_below_drewN | apply below_drew1) | refine below_set ?_ (by omega))) hgr hq
            go_wp2_with fail
            go_meet
            exact ⟨_, ⟨hT⟩, ⟨(by have := keeps_take HK.out m HN.out x1 x3 x4; rw [HG.out] at this; exact this)⟩, ⟨R5⟩, ⟨B5⟩, L5⟩
          · go_wp2_with fail
            obtain ⟨⟨r, x, g'⟩, hg'⟩ : ∃ p, renew g s x1 x2 x3 x4 = p := ⟨_, rfl⟩
            have HG := Aside0.mk hg'
            clear hg'
            refine (renew_any b q m g s x1 x2 x3 x4 _ ?hT r x g' HG.out).mono ?_
            case hT => repeat (with_reducible first | exact T.out | apply Tab.alloc | apply Tab.drewN)
            rintro e w5 ⟨rfl, hT, hgr⟩
            have L5 := IsBlk.grownBy (by repeat (with_reducible first | exact HL.out | apply IsBlk.alloc | apply IsBlk.drewN | apply IsBlk.drew)) hgr hqL
            have R5 := tab_turn (by (with_reducible repeat (first | apply Kd.R_alloc | apply Kd.R_drewN | apply Kd.R_drew)); exact HR.out) hgr
            have B5 := below_turn (by repeat (first | (with_reducible first | exact HB.out | apply below_alloc | apply pw_below_drewN | apply below_drew1) | refine below_set ?_ (by omega))) hgr hq
            go_wp2_with fail
            go_meet
            exact ⟨_, ⟨hT⟩, ⟨(by have := keeps_renew HK.out HN.out x1 x2 x3 x4; rw [HG.out] at this; exact this)⟩, ⟨R5⟩, ⟨B5⟩, L5⟩
          · go_wp2_with fail
            obtain ⟨⟨x, g'⟩, hg'⟩ : ∃ p, drop g s x1 x2 = p := ⟨_, rfl⟩
            have HG := Aside0.mk hg'
            clear hg'
            refine (drop_any b q m g s x1 x2 _ ?hT x g' HG.out).mono ?_
            case hT => repeat (with_reducible first | exact T.out | apply Tab.alloc | apply Tab.drewN)
            rintro e w5 ⟨rfl, hT, hgr⟩
            have L5 := IsBlk.grownBy (by repeat (with_reducible first | exact HL.out | apply IsBlk.alloc | apply IsBlk.drewN | apply IsBlk.drew)) hgr hqL
            have R5 := tab_turn (by (with_reducible repeat (first | apply Kd.R_alloc | apply Kd.R_drewN | apply Kd.R_drew)); exact HR.out) hgr
            have B5 := below_turn (by repeat (first | (with_reducible first | exact HB.out | apply below_alloc | apply pw_below_drewN | apply below_drew1) | refine below_set ?_ (by omega))) hgr hq
            go_wp2_with fail
            go_meet
            exact ⟨_, ⟨hT⟩, ⟨(by have := keeps_drop HK.out HN.out x1 x2; rw [HG.out] at this; exact this)⟩, ⟨R5⟩, ⟨B5⟩, L5⟩
          · go_wp2_with fail
            go_meet
            exact ⟨g, ⟨(by repeat (with_reducible first | exact T.out | apply Tab.alloc | apply Tab.drewN))⟩, HK, ⟨(by (with_reducible repeat (first | apply Kd.R_alloc | apply Kd.R_drewN | apply Kd.R_drew)); exact HR.out)⟩, ⟨by repeat (first | (with_reducible first | exact HB.out | apply below_alloc | apply pw_below_drewN | apply below_drew1) | refine below_set ?_ (by omega))⟩, (by repeat (with_reducible first | exact HL.out | apply IsBlk.alloc | apply IsBlk.drewN | apply IsBlk.drew))⟩
        case rest =>
          clear D_0 D_1 D_2 D_3 D_4 D_5 D_z0 D_z1 D_z2 D_z3 D_z4 D_z5 D_l HD
          clear L_0 L_1 L_2 L_z0 L_z1 L_z2 L_l HL
          clear T HK HR HB
          obtain ⟨g', T, HK, HR, HB, L⟩ := hcut
          have L_0 := blk_cell L 0
          have L_1 := blk_cell L 1
          have L_2 := blk_cell L 2
          simp only [List.getElem?_toArray, List.getElem?_cons_zero, List.getElem?_cons_succ] at L_0 L_1 L_2
          have L_z0 := blk_frozen L 0
          have L_z1 := blk_frozen L 1
          have L_z2 := blk_frozen L 2
          have L_l := blk_lt L
          have HL := Aside0.mk L
          clear L
          go_wp2_with fail
          refine (get_q b q m g' on _ ?hT).mono ?_
          case hT => repeat (with_reducible first | exact T.out | apply Tab.alloc | apply Tab.drewN)
          rw [show g' on = some ⟨7, 1, 15⟩ from HK.out]
          rintro e w6 ⟨rfl, hb1⟩
          have n0 := Aside0.mk (below_step (by repeat (first | (with_reducible first | exact HB.out | apply below_alloc | apply pw_below_drewN | apply below_drew1) | refine below_set ?_ (by omega))) hb1)
          have nT := Aside0.mk (Tab.below (by repeat (with_reducible first | exact T.out | apply Tab.alloc | apply Tab.drewN)) hb1)
          have nR := Aside0.mk (Kd.R_below (by (with_reducible repeat (first | apply Kd.R_alloc | apply Kd.R_drewN | apply Kd.R_drew)); exact HR.out) hb1)
          have L' := IsBlk.below (by repeat (with_reducible first | exact HL.out | apply IsBlk.alloc | apply IsBlk.drewN | apply IsBlk.drew)) hb1
          clear L_0 L_1 L_2 L_z0 L_z1 L_z2 L_l HL
          have L := L'
          clear L'
          have L_0 := blk_cell L 0
          have L_1 := blk_cell L 1
          have L_2 := blk_cell L 2
          simp only [List.getElem?_toArray, List.getElem?_cons_zero, List.getElem?_cons_succ] at L_0 L_1 L_2
          have L_z0 := blk_frozen L 0
          have L_z1 := blk_frozen L 1
          have L_z2 := blk_frozen L 2
          have L_l := blk_lt L
          have HL := Aside0.mk L
          clear L
          clear HB hb1 T HR
          have HB := n0
          have T := nT
          have HR := nR
          clear n0 nT nR
          rw [show lv ((some ⟨7, 1, 15⟩ : Option Le).getD noLe) = .agg #[.int .i64 7, .int .i64 1, .int .i64 15] from rfl]
          go_wp2_with fail
          refine (holds_q b q m g' on 7 1 14 _ ?hT).mono ?_
          case hT => repeat (with_reducible first | exact T.out | apply Tab.alloc | apply Tab.drewN)
          rw [keeps_held HK.out]
          rintro e w7 ⟨rfl, hb1⟩
          have n0 := Aside0.mk (below_step (by repeat (first | (with_reducible first | exact HB.out | apply below_alloc | apply pw_below_drewN | apply below_drew1) | refine below_set ?_ (by omega))) hb1)
          have nT := Aside0.mk (Tab.below (by repeat (with_reducible first | exact T.out | apply Tab.alloc | apply Tab.drewN)) hb1)
          have nR := Aside0.mk (Kd.R_below (by (with_reducible repeat (first | apply Kd.R_alloc | apply Kd.R_drewN | apply Kd.R_drew)); exact HR.out) hb1)
          have L' := IsBlk.below (by repeat (with_reducible first | exact HL.out | apply IsBlk.alloc | apply IsBlk.drewN | apply IsBlk.drew)) hb1
          clear L_0 L_1 L_2 L_z0 L_z1 L_z2 L_l HL
          have L := L'
          clear L'
          have L_0 := blk_cell L 0
          have L_1 := blk_cell L 1
          have L_2 := blk_cell L 2
          simp only [List.getElem?_toArray, List.getElem?_cons_zero, List.getElem?_cons_succ] at L_0 L_1 L_2
          have L_z0 := blk_frozen L 0
          have L_z1 := blk_frozen L 1
          have L_z2 := blk_frozen L 2
          have L_l := blk_lt L
          have HL := Aside0.mk L
          clear L
          clear HB hb1 T HR
          have HB := n0
          have T := nT
          have HR := nR
          clear n0 nT nR
          go_wp2_with fail
          refine (free_q b q m g' on 14 _ ?hT).mono ?_
          case hT => repeat (with_reducible first | exact T.out | apply Tab.alloc | apply Tab.drewN)
          rw [keeps_free HK.out hm1]
          rintro e w8 ⟨rfl, hb1⟩
          have n0 := Aside0.mk (below_step (by repeat (first | (with_reducible first | exact HB.out | apply below_alloc | apply pw_below_drewN | apply below_drew1) | refine below_set ?_ (by omega))) hb1)
          have nT := Aside0.mk (Tab.below (by repeat (with_reducible first | exact T.out | apply Tab.alloc | apply Tab.drewN)) hb1)
          have nR := Aside0.mk (Kd.R_below (by (with_reducible repeat (first | apply Kd.R_alloc | apply Kd.R_drewN | apply Kd.R_drew)); exact HR.out) hb1)
          have L' := IsBlk.below (by repeat (with_reducible first | exact HL.out | apply IsBlk.alloc | apply IsBlk.drewN | apply IsBlk.drew)) hb1
          clear L_0 L_1 L_2 L_z0 L_z1 L_z2 L_l HL
          have L := L'
          clear L'
          have L_0 := blk_cell L 0
          have L_1 := blk_cell L 1
          have L_2 := blk_cell L 2
          simp only [List.getElem?_toArray, List.getElem?_cons_zero, List.getElem?_cons_succ] at L_0 L_1 L_2
          have L_z0 := blk_frozen L 0
          have L_z1 := blk_frozen L 1
          have L_z2 := blk_frozen L 2
          have L_l := blk_lt L
          have HL := Aside0.mk L
          clear L
          clear HB hb1 T HR
          have HB := n0
          have T := nT
          have HR := nR
          clear n0 nT nR
          go_wp2_with fail
          go_roundw
          case rel => exact ⟨k + 1, g', by go_num, by omega, HK, ⟨(by repeat (with_reducible first | exact HL.out | apply IsBlk.alloc | apply IsBlk.drewN | apply IsBlk.drew))⟩, ⟨(by repeat (with_reducible first | exact T.out | apply Tab.alloc | apply Tab.drewN))⟩, ⟨(by (with_reducible repeat (first | apply Kd.R_alloc | apply Kd.R_drewN | apply Kd.R_drew)); exact HR.out)⟩, ⟨by repeat (first | (with_reducible first | exact HB.out | apply below_alloc | apply pw_below_drewN | apply below_drew1) | refine below_set ?_ (by omega))⟩⟩
          case measure => simp [intOf]; omega

    · have hi1 : decide ((k : Int) < (xs.length : Int)) = false := by simp; omega
      go_wp2
      go_ret
      exact ⟨rfl, by repeat (first | (with_reducible first | exact HB.out | apply below_alloc | apply pw_below_drewN | apply below_drew1) | refine below_set ?_ (by omega))⟩
theorem walk (a0 : Int) (A1 : Option Addr) (c1 : Nat) (l1 : List (Int × Int × Int × Int × Int × ByteArray)) (w : World) (_ : (Lit.int .i64 a0).wf = true) (h1 : O.Rowz O.Is35 6 w A1 l1) (h2 : l1.length ≤ c1) :
    Calls Try.prog 6 #[.int .i64 a0, .slice A1 l1.length c1] w fun e w' => e = .returned (.bool true) ∧ Below w.heap.size w w' := by
  have h := law a0 A1 c1 (l1.map toS) w (C_of_Rowz h1) (by simpa using h2)
  rw [List.length_map] at h
  exact h
end Go.Proofs.Ytnjmhiglpapopaa.WalkLeaseKeeps
