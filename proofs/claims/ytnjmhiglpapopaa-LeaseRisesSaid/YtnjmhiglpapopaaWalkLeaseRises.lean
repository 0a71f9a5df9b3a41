/-
  Proved here: what pacesetterlaw09.LeaseRises returns, whatever the input: true. No condition but how the slice reads.
-/
import Derived.Test.YtnjmhiglpapopaaL5
import Derived.Deep.DeepCutAuto
import Derived.Deep.CutBlock
import Derived.Lib.QuietBelow
namespace Go.Proofs.Ytnjmhiglpapopaa.WalkLeaseRises
open Go.RowKit Go.Proofs.Ytnjmhiglpapopaa.M Go.Proofs.Ytnjmhiglpapopaa.L0 Go.Proofs.Ytnjmhiglpapopaa.L1 Go.Proofs.Ytnjmhiglpapopaa.L2 Go.Proofs.Ytnjmhiglpapopaa.L3 Go.Proofs.Ytnjmhiglpapopaa.L4 Go.Proofs.Ytnjmhiglpapopaa.L5a Go.Proofs.Ytnjmhiglpapopaa.L5 Go.Proofs.YtnjmhiglpapopaaW.PrintWords Go.Proofs.YtnjmhiglpapopaaW.PrintLast Go.Proofs.YtnjmhiglpapopaaW.PrintMore
open PLeaseKeeps (S35 k35 z35)
set_option linter.unusedVariables false
set_option linter.unusedSimpArgs false
attribute [local go_sem] max2_int min2_int max_two min_two run_makeMap lv field40

theorem Tab_drew {w : World} {b q : Nat} {m : Int} {g : Ta} (h : Tab w b q m g) : Tab w.drew b q m g := ⟨h.blk.drew, h.map.drew⟩
theorem i64_wrap64 (n : Int) : IntKind.i64.wrap n = wrap64 n := by
  simp [IntKind.wrap, IntKind.signed, IntKind.bits, wrap64]
  split <;> omega
def ep (g : Ta) (s : ByteArray) : Int := ((g s).getD noLe).e
theorem upd_ep (g : Ta) (s : ByteArray) (l : Le) : ep (upd g s l) s = l.e := by unfold ep; rw [upd_at]; rfl
/-- What Take leaves. -/
def Took (g : Ta) (m : Int) (s : ByteArray) (h now : Int) (r x : Int) (g' : Ta) : Prop :=
  (x = 0 ∧ r = wrap64 (ep g s + 1) ∧ free g m s now = true ∧ holds g' s h r now = decide (now < 1099511627776)) ∨ (x = 9 ∧ free g m s now = false ∧ g' = g) ∨ (x = 1 ∧ g' = g)
theorem took (g : Ta) (m : Int) (s : ByteArray) (h now ttl : Int) (r x : Int) (g' : Ta) (he : take g m s h now ttl = (r, x, g')) : Took g m s h now r x g' := by
  unfold take at he
  split at he
  · rename_i hr
    split at he
    · rename_i hf
      cases he
      refine .inl ⟨rfl, rfl, hf, ?_⟩
      rw [holds_upd]
      have hi := right_iff hr
      have hl := late_in (a := now) (b := ttl) (by omega) (by omega)
      by_cases hc : now + ttl ≤ 1099511627776
      · have e := hl.2.2.1 hc
        rw [Bool.eq_iff_iff]
        simp [e]
        omega
      · have e := hl.2.2.2 (by omega)
        rw [Bool.eq_iff_iff]
        simp [e]
    · rename_i hf
      cases he
      exact .inr (.inl ⟨rfl, by simpa using hf, rfl⟩)
  · cases he
    exact .inr (.inr ⟨rfl, rfl⟩)
theorem own_ep {g : Ta} {s : ByteArray} {a c : Int} {l : Le} (h : own g s a c = (l, 0)) : (g s).getD noLe = l := by rw [(own_some h).1]; rfl
theorem renewed (g : Ta) (s : ByteArray) (a c now ttl : Int) (r x : Int) (g' : Ta) (he : renew g s a c now ttl = (r, x, g')) :
    ((x = 0 ∧ ((g s).getD noLe).u ≤ r ∧ holds g' s a c now = true) ∨ (x == 0) = false) ∧ ep g' s = ep g s := by
  obtain ⟨⟨l, y⟩, ho⟩ : ∃ p, own g s a c = p := ⟨_, rfl⟩
  unfold renew at he
  rw [ho] at he
  dsimp only at he
  split at he
  · rename_i hr
    split at he
    · rename_i hy
      have hy0 : y = 0 := by simpa using hy
      subst hy0
      have hs := own_some ho
      split at he
      · rename_i hh
        cases he
        obtain ⟨l', hl', _, _, h1, h2⟩ := holds_some' hh
        rw [hs.1] at hl'
        cases hl'
        have hm : l.u ≤ mx l.u (late now ttl) := by unfold mx; split <;> omega
        refine ⟨.inl ⟨rfl, by rw [own_ep ho]; exact hm, ?_⟩, ?_⟩
        · rw [holds_upd]
          simp [hs.2.1, hs.2.2]
          omega
        · rw [upd_ep]
          unfold ep
          rw [own_ep ho]
      · cases he
        exact ⟨.inr rfl, rfl⟩
    · rename_i hy
      cases he
      exact ⟨.inr (by simpa using hy), rfl⟩
  · cases he
    exact ⟨.inr rfl, rfl⟩
theorem dropped (g : Ta) (m : Int) (s : ByteArray) (a c now : Int) (x : Int) (g' : Ta) (he : L5.drop g s a c = (x, g')) :
    ((x = 0 ∧ free g' m s now = true ∧ holds g' s a c now = false) ∨ (x == 0) = false) ∧ ep g' s = ep g s := by
  obtain ⟨⟨l, y⟩, ho⟩ : ∃ p, own g s a c = p := ⟨_, rfl⟩
  unfold L5.drop at he
  rw [ho] at he
  dsimp only at he
  split at he
  · rename_i hy
    have hy0 : y = 0 := by simpa using hy
    subst hy0
    split at he
    · cases he
      exact ⟨.inr rfl, rfl⟩
    · cases he
      refine ⟨.inl ⟨rfl, by rw [free_upd]; rfl, by rw [holds_upd]; simp⟩, ?_⟩
      rw [upd_ep]
      unfold ep
      rw [own_ep ho]
  · rename_i hy
    cases he
    exact ⟨.inr (by simpa using hy), rfl⟩

set_option maxRecDepth 100000 in
set_option maxHeartbeats 4000000 in
theorem law (m0 : Int) (A : Option Addr) (c0 : Nat) (l : List S35) (w : World) (hr : Kd.C k35 w A l.length l) (hc : l.length ≤ c0) : Calls Try.prog 5 #[.int .i64 m0, .slice A l.length c0] w fun e w' => e = .returned (.bool true) ∧ Below w.heap.size w w' := by
  have HC := Aside0.mk hr
  have Hc := Aside0.mk hc
  clear hr hc
  have HB := Aside0.mk (Below.refl w.heap.size w)
  go_enter Try.func5, Try.ntmps5
  go_wp2_with fail
  refine (lives_q _).mono ?_
  rintro e w1 ⟨rfl, hb1⟩
  have n0 := Aside0.mk (below_step (by repeat (first | (with_reducible first | exact HB.out | apply below_alloc | apply pw_below_drewN | apply below_drew1) | refine below_set ?_ (by omega))) hb1)
  clear HB hb1
  have HB := n0
  clear n0
  go_wp2_with fail
  refine (new_e m0 _).mono ?_
  rintro e w2 ⟨b, q, rfl, hT, hb1, hq, hbq⟩
  have hq : w.heap.size ≤ q := Nat.le_trans (Below.size (by repeat (first | (with_reducible first | exact HB.out | apply below_alloc | apply pw_below_drewN | apply below_drew1) | refine below_set ?_ (by omega)))) hq
  have hbq : w.heap.size ≤ b := Nat.le_trans (Below.size (by repeat (first | (with_reducible first | exact HB.out | apply below_alloc | apply pw_below_drewN | apply below_drew1) | refine below_set ?_ (by omega)))) hbq
  obtain ⟨m, hm⟩ : ∃ m, cut m0 = m := ⟨_, rfl⟩
  have hm1 : 0 ≤ m ∧ m ≤ 1048576 := hm ▸ cut_in m0
  rw [hm] at hT
  clear hm
  have T := Aside0.mk hT
  clear hT
  have n0 := Aside0.mk (below_step (by repeat (first | (with_reducible first | exact HB.out | apply below_alloc | apply pw_below_drewN | apply below_drew1) | refine below_set ?_ (by omega))) hb1)
  clear HB hb1
  have HB := n0
  clear n0
  go_wp2_with fail
  refine (early_q A c0 l _ ?hC Hc.out q ?hq).mono ?_
  case hC => exact Kd.C_below HC.out (by repeat (first | (with_reducible first | exact HB.out | apply below_alloc | apply pw_below_drewN | apply below_drew1) | refine below_set ?_ (by omega)))
  case hq => first | exact T.out.map.lt | (have := T.out.map.lt; simp; omega)
  rintro e w3 ⟨A', c', xs, rfl, hx80, hR, hb1⟩
  have HR := Aside0.mk hR
  clear hR
  have n0 := Aside0.mk (below_step (by repeat (first | (with_reducible first | exact HB.out | apply below_alloc | apply pw_below_drewN | apply below_drew1) | refine below_set ?_ (by omega))) hb1)
  have nT := Aside0.mk (Tab.below (by repeat (with_reducible first | exact T.out | apply Tab.alloc | apply Tab.drewN)) hb1)
  clear HB hb1 T
  have HB := n0
  have T := nT
  clear n0 nT
  go_wp2_with fail
  go_loopw [6] (fun i wr => ∃ (k : Nat) (g : Ta), i = .int .i64 k ∧ k ≤ xs.length ∧ Aside0 (Tab wr b q m g) ∧ Aside0 (Row wr w2.heap.size q (.slice A' xs.length c') xs) ∧ Aside0 (Below w.heap.size w wr)) (fun i _ => xs.length - (intOf i).toNat)
  case atStart => exact ⟨0, fun _ => none, rfl, by omega, ⟨(by repeat (with_reducible first | exact T.out | apply Tab.alloc | apply Tab.drewN))⟩, ⟨(by (with_reducible repeat (first | apply Kd.R_alloc | apply Kd.R_drewN | apply Kd.R_drew)); exact HR.out)⟩, ⟨by repeat (first | (with_reducible first | exact HB.out | apply below_alloc | apply pw_below_drewN | apply below_drew1) | refine below_set ?_ (by omega))⟩⟩
  case round =>
    obtain ⟨wq, hwq⟩ : ∃ x, x = wr := ⟨_, rfl⟩
    subst hwq
    obtain ⟨k, g, rfl, hk, T, HR, HB⟩ := hrel
    by_cases hlt : k < xs.length
    · have hi1 : decide ((k : Int) < (xs.length : Int)) = true := by simp; omega
      have hki : (k : Int) < (xs.length : Int) := by omega
      obtain ⟨rb, ro, x0, x1, x2, x3, x4, s, rfl, hrb, c0_, c1_, c2_, c3_, c4_, c5_⟩ := Row.at_ HR.out k hlt
      go_wp2_with fail
      have hqD : wq.heap.size ≠ q := by have := T.out.map.lt; omega
      obtain ⟨⟨lh, le, lu⟩, hle⟩ : ∃ p, (g s).getD noLe = p := ⟨_, rfl⟩
      obtain ⟨li, hli⟩ : ∃ p, (g s).isSome = p := ⟨_, rfl⟩
      refine (get_q b q m g s _ ?hT).mono ?_
      case hT => repeat (with_reducible first | exact T.out | apply Tab.alloc | apply Tab.drewN)
      rw [hle, hli]
      have HE := Aside0.mk hle
      clear hle hli
      rintro e w4 ⟨rfl, hb1⟩
      have n0 := Aside0.mk (below_step (by repeat (first | (with_reducible first | exact HB.out | apply below_alloc | apply pw_below_drewN | apply below_drew1) | refine below_set ?_ (by omega))) hb1)
      have nT := Aside0.mk (Tab.below (by repeat (with_reducible first | exact T.out | apply Tab.alloc | apply Tab.drewN)) hb1)
      have nR := Aside0.mk (Kd.R_below (by (with_reducible repeat (first | apply Kd.R_alloc | apply Kd.R_drewN | apply Kd.R_drew)); exact HR.out) hb1)
      have D : IsBlk w4 (wq.heap.size) #[.int .i64 x0, .int .i64 x1, .int .i64 x2, .int .i64 x3, .int .i64 x4, .string s] 35 := IsBlk.below (by repeat (first | ((refine IsBlk.new _ _ ?_); (simp; done)) | apply IsBlk.alloc | apply IsBlk.drewN)) hb1
      have D_0 := blk_cell D 0
      have D_1 := blk_cell D 1
      have D_2 := blk_cell D 2
      have D_3 := blk_cell D 3
      have D_4 := blk_cell D 4
      have D_5 := blk_cell D 5
      simp only [List.getElem?_toArray, List.getElem?_cons_zero, List.getElem?_cons_succ] at D_0 D_1 D_2 D_3 D_4 D_5
      have D_z0 := blk_frozen D 0
      have D_z1 := blk_frozen D 1
      have D_z2 := blk_frozen D 2
      have D_z3 := blk_frozen D 3
      have D_z4 := blk_frozen D 4
      have D_z5 := blk_frozen D 5
      have D_l := blk_lt D
      have HD := Aside0.mk D
      clear D
      clear HB hb1 T HR
      have HB := n0
      have T := nT
      have HR := nR
      clear n0 nT nR
      clear c0_ c1_ c2_ c3_ c4_ c5_ hrb
      go_wp2_with fail
      have L : IsBlk (w4.alloc (.cells #[.int .i64 lh, .int .i64 le, .int .i64 lu] 40)) w4.heap.size #[.int .i64 lh, .int .i64 le, .int .i64 lu] 40 := IsBlk.new _ _ rfl
      have HL := Aside0.mk L
      clear L
      have hqL : w4.heap.size ≠ q := by have := T.out.map.lt; omega
      obtain ⟨f0, hf0⟩ : ∃ y, free g m s x3 = y := ⟨_, rfl⟩
      refine (free_q b q m g s x3 _ ?hT).mono ?_
      case hT => repeat (with_reducible first | exact T.out | apply Tab.alloc | apply Tab.drewN)
      rw [hf0]
      have HF := Aside0.mk hf0
      clear hf0
      rintro e w6 ⟨rfl, hb1⟩
      have L' := IsBlk.below (by repeat (with_reducible first | exact HL.out | apply IsBlk.alloc | apply IsBlk.drewN | apply IsBlk.drew)) hb1
      clear HL
      have L := L'
      clear L'
      have L_0 := blk_cell L 0
      have L_1 := blk_cell L 1
      have L_2 := blk_cell L 2
      simp only [List.getElem?_toArray, List.getElem?_cons_zero, List.getElem?_cons_succ] at L_0 L_1 L_2
      have L_z0 := blk_frozen L 0
      have L_z1 := blk_frozen L 1
      have L_z2 := blk_frozen L 2
      have L_l := blk_lt L
      have HL := Aside0.mk L
      clear L
      have n0 := Aside0.mk (below_step (by repeat (first | (with_reducible first | exact HB.out | apply below_alloc | apply pw_below_drewN | apply below_drew1) | refine below_set ?_ (by omega))) hb1)
      have nT := Aside0.mk (Tab.below (by repeat (with_reducible first | exact T.out | apply Tab.alloc | apply Tab.drewN)) hb1)
      have nR := Aside0.mk (Kd.R_below (by (with_reducible repeat (first | apply Kd.R_alloc | apply Kd.R_drewN | apply Kd.R_drew)); exact HR.out) hb1)
      have D' := IsBlk.below (by repeat (with_reducible first | exact HD.out | apply IsBlk.alloc | apply IsBlk.drewN | apply IsBlk.drew)) hb1
      clear D_0 D_1 D_2 D_3 D_4 D_5 D_z0 D_z1 D_z2 D_z3 D_z4 D_z5 D_l HD
      have D := D'
      clear D'
      have D_0 := blk_cell D 0
      have D_1 := blk_cell D 1
      have D_2 := blk_cell D 2
      have D_3 := blk_cell D 3
      have D_4 := blk_cell D 4
      have D_5 := blk_cell D 5
      simp only [List.getElem?_toArray, List.getElem?_cons_zero, List.getElem?_cons_succ] at D_0 D_1 D_2 D_3 D_4 D_5
      have D_z0 := blk_frozen D 0
      have D_z1 := blk_frozen D 1
      have D_z2 := blk_frozen D 2
      have D_z3 := blk_frozen D 3
      have D_z4 := blk_frozen D 4
      have D_z5 := blk_frozen D 5
      have D_l := blk_lt D
      have HD := Aside0.mk D
      clear D
      clear HB hb1 T HR
      have HB := n0
      have T := nT
      have HR := nR
      clear n0 nT nR
      go_wp2_with fail
      refine (kind_q x0 x1 x2 x3 x4 s _).mono ?_
      rintro e w8 ⟨rfl, hb1⟩
      have n0 := Aside0.mk (below_step (by repeat (first | (with_reducible first | exact HB.out | apply below_alloc | apply pw_below_drewN | apply below_drew1) | refine below_set ?_ (by omega))) hb1)
      have nT := Aside0.mk (Tab.below (by repeat (with_reducible first | exact T.out | apply Tab.alloc | apply Tab.drewN)) hb1)
      have nR := Aside0.mk (Kd.R_below (by (with_reducible repeat (first | apply Kd.R_alloc | apply Kd.R_drewN | apply Kd.R_drew)); exact HR.out) hb1)
      have D' := IsBlk.below (by repeat (with_reducible first | exact HD.out | apply IsBlk.alloc | apply IsBlk.drewN | apply IsBlk.drew)) hb1
      clear D_0 D_1 D_2 D_3 D_4 D_5 D_z0 D_z1 D_z2 D_z3 D_z4 D_z5 D_l HD
      have D := D'
      clear D'
      have D_0 := blk_cell D 0
      have D_1 := blk_cell D 1
      have D_2 := blk_cell D 2
      have D_3 := blk_cell D 3
      have D_4 := blk_cell D 4
      have D_5 := blk_cell D 5
      simp only [List.getElem?_toArray, List.getElem?_cons_zero, List.getElem?_cons_succ] at D_0 D_1 D_2 D_3 D_4 D_5
      have D_z0 := blk_frozen D 0
      have D_z1 := blk_frozen D 1
      have D_z2 := blk_frozen D 2
      have D_z3 := blk_frozen D 3
      have D_z4 := blk_frozen D 4
      have D_z5 := blk_frozen D 5
      have D_l := blk_lt D
      have HD := Aside0.mk D
      clear D
      have L' := IsBlk.below (by repeat (with_reducible first | exact HL.out | apply IsBlk.alloc | apply IsBlk.drewN | apply IsBlk.drew)) hb1
      clear L_0 L_1 L_2 L_z0 L_z1 L_z2 L_l HL
      have L := L'
      clear L'
      have L_0 := blk_cell L 0
      have L_1 := blk_cell L 1
      have L_2 := blk_cell L 2
      simp only [List.getElem?_toArray, List.getElem?_cons_zero, List.getElem?_cons_succ] at L_0 L_1 L_2
      have L_z0 := blk_frozen L 0
      have L_z1 := blk_frozen L 1
      have L_z2 := blk_frozen L 2
      have L_l := blk_lt L
      have HL := Aside0.mk L
      clear L
      clear HB hb1 T HR
      have HB := n0
      have T := nT
      have HR := nR
      clear n0 nT nR
      obtain ⟨kk, hkk⟩ : ∃ y, kd x0 = y := ⟨_, rfl⟩
      have hkc : kk = 0 ∨ kk = 1 ∨ kk = 2 ∨ kk = 3 := hkk ▸ kd_cases x0
      rw [hkk]
      clear hkk
      go_upto_block 2 with fail
      go_cut [11] (fun v wc => ∃ (tk : Bool) (g' : Ta), v = .bool tk ∧ Aside0 (Tab wc b q m g') ∧ Aside0 (Row wc w2.heap.size q (.slice (some ⟨rb, ro, none⟩) xs.length c') xs) ∧ Aside0 (Below w.heap.size w wc) ∧ IsBlk wc wq.heap.size #[.int .i64 x0, .int .i64 x1, .int .i64 x2, .int .i64 x3, .int .i64 x4, .string s] 35 ∧ IsBlk wc w4.heap.size #[.int .i64 lh, .int .i64 le, .int .i64 lu] 40 ∧ Aside0 (tk = false → ep g' s = le))
      case first =>
        rcases hkc with rfl | rfl | rfl | rfl
        · go_wp2_with fail
          obtain ⟨⟨r, x, g'⟩, hg'⟩ : ∃ p, take g m s x1 x3 x4 = p := ⟨_, rfl⟩
          have HG := Aside0.mk hg'
          clear hg'
          refine (take_any b q m g s x1 x3 x4 _ ?hT r x g' HG.out).mono ?_
          case hT => repeat (with_reducible first | exact T.out | apply Tab.alloc | apply Tab.drewN)
          rintro e w5 ⟨rfl, hT, hgr⟩
          have D5 := IsBlk.grownBy (by repeat (with_reducible first | exact HD.out | apply IsBlk.alloc | apply IsBlk.drewN | apply IsBlk.drew)) hgr hqD
          have L5 := IsBlk.grownBy (by repeat (with_reducible first | exact HL.out | apply IsBlk.alloc | apply IsBlk.drewN | apply IsBlk.drew)) hgr hqL
          have nR := Aside0.mk (tab_turn (by (with_reducible repeat (first | apply Kd.R_alloc | apply Kd.R_drewN | apply Kd.R_drew)); exact HR.out) hgr)
          have n0 := Aside0.mk (below_turn (by repeat (first | (with_reducible first | exact HB.out | apply below_alloc | apply pw_below_drewN | apply below_drew1) | refine below_set ?_ (by omega))) hgr hq)
          clear D_0 D_1 D_2 D_3 D_4 D_5 D_z0 D_z1 D_z2 D_z3 D_z4 D_z5 D_l HD
          clear L_0 L_1 L_2 L_z0 L_z1 L_z2 L_l HL
          clear HB T HR
          have D := D5
          have L := L5
          have HB := n0
          have HR := nR
          have T := Aside0.mk hT
          clear D5 L5 n0 nR hT hgr
          have D_0 := blk_cell D 0
          have D_1 := blk_cell D 1
          have D_2 := blk_cell D 2
          have D_3 := blk_cell D 3
          have D_4 := blk_cell D 4
          have D_5 := blk_cell D 5
          simp only [List.getElem?_toArray, List.getElem?_cons_zero, List.getElem?_cons_succ] at D_0 D_1 D_2 D_3 D_4 D_5
          have D_z0 := blk_frozen D 0
          have D_z1 := blk_frozen D 1
          have D_z2 := blk_frozen D 2
          have D_z3 := blk_frozen D 3
          have D_z4 := blk_frozen D 4
          have D_z5 := blk_frozen D 5
          have D_l := blk_lt D
          have HD := Aside0.mk D
          clear D
          have L_0 := blk_cell L 0
          have L_1 := blk_cell L 1
          have L_2 := blk_cell L 2
          simp only [List.getElem?_toArray, List.getElem?_cons_zero, List.getElem?_cons_succ] at L_0 L_1 L_2
          have L_z0 := blk_frozen L 0
          have L_z1 := blk_frozen L 1
          have L_z2 := blk_frozen L 2
          have L_l := blk_lt L
          have HL := Aside0.mk L
          clear L
          rcases took _ _ _ _ _ _ _ _ _ HG.out with ⟨rfl, hr, hf, hh⟩ | ⟨rfl, hf, rfl⟩ | ⟨rfl, rfl⟩
          · have hf0 := HF.out
            rw [hf] at hf0
            subst hf0
            have HH := Aside0.mk hh
            have he0 : ep g s = le := by unfold ep; rw [HE.out]
            rw [he0] at hr
            have hr1 : wrap64 (le + 1) = r := hr.symm
            clear hr hf hh he0
            go_upto_region 16 with fail
            go_cut [100] (fun v wc => v = .bool false ∧ Aside0 (Tab wc b q m g') ∧ Aside0 (Row wc w2.heap.size q (.slice (some ⟨rb, ro, none⟩) xs.length c') xs) ∧ Aside0 (Below w.heap.size w wc) ∧ IsBlk wc wq.heap.size #[.int .i64 x0, .int .i64 x1, .int .i64 x2, .int .i64 x3, .int .i64 x4, .string s] 35 ∧ IsBlk wc w4.heap.size #[.int .i64 lh, .int .i64 le, .int .i64 lu] 40)
            case first =>
              clear D_0 D_2 D_4 D_z0 D_z1 D_z2 D_z3 D_z4 D_z5 D_l L_0 L_2 L_z0 L_z1 L_z2 L_l hi1 hki
              obtain ⟨y, hy⟩ : ∃ y, decide (x3 < 1099511627776) = y := ⟨_, rfl⟩
              have cH : ∀ d os, Calls Try.prog 12 #[.pointer (some ⟨b, 0, none⟩), .string s, .int .i64 x1, .int .i64 r, .int .i64 x3] (Sort.grow (redrawn w5 d) os) (fun e w'' => e = .returned (.bool y) ∧ ∃ p : Regrown, w'' = Sort.grow (redrawn w5 p.d) p.os) := fun d os => Calls.regrown_of (by
                have h := holds_q b q m g' s x1 r x3 _ (Tab.below T.out (below_regrown w5 d os))
                rw [HH.out, hy] at h
                exact h)
              have r1 := cell_regrown D_1
              have r3 := cell_regrown D_3
              have r5 := cell_regrown D_5
              have r7 := cell_regrown L_1
              clear D_1 D_3 D_5 L_1
              have hr2 : IntKind.i64.wrap (le + 1) = r := (i64_wrap64 _).trans hr1
              refine wp_region_quiet_below (by kernel_rfl) (by kernel_rfl) ?_
              repeat (quiet_step (exact cH _ _))
              refine wpQuiet_nil ?_
              intro _ hw'
              obtain ⟨⟨dq, osq⟩, hw''⟩ := hw'
              subst hw''
              clear r1 r3 r5 r7 cH
              have hbq := below_regrown w5 dq osq
              go_wp2_with fail
              go_meet
              exact ⟨rfl, ⟨Tab.below T.out hbq⟩, ⟨Kd.R_below HR.out hbq⟩, ⟨below_step HB.out hbq⟩, IsBlk.below HD.out hbq, IsBlk.below HL.out hbq⟩
            case rest =>
              clear D_0 D_1 D_2 D_3 D_4 D_5 D_z0 D_z1 D_z2 D_z3 D_z4 D_z5 D_l HD
              clear L_0 L_1 L_2 L_z0 L_z1 L_z2 L_l HL
              clear T HR HB
              obtain ⟨rfl, T, HR, HB, D, L⟩ := hcut
              have D_0 := blk_cell D 0
              have D_1 := blk_cell D 1
              have D_2 := blk_cell D 2
              have D_3 := blk_cell D 3
              have D_4 := blk_cell D 4
              have D_5 := blk_cell D 5
              simp only [List.getElem?_toArray, List.getElem?_cons_zero, List.getElem?_cons_succ] at D_0 D_1 D_2 D_3 D_4 D_5
              have D_z0 := blk_frozen D 0
              have D_z1 := blk_frozen D 1
              have D_z2 := blk_frozen D 2
              have D_z3 := blk_frozen D 3
              have D_z4 := blk_frozen D 4
              have D_z5 := blk_frozen D 5
              have D_l := blk_lt D
              have HD := Aside0.mk D
              clear D
              have L_0 := blk_cell L 0
              have L_1 := blk_cell L 1
              have L_2 := blk_cell L 2
              simp only [List.getElem?_toArray, List.getElem?_cons_zero, List.getElem?_cons_succ] at L_0 L_1 L_2
              have L_z0 := blk_frozen L 0
              have L_z1 := blk_frozen L 1
              have L_z2 := blk_frozen L 2
              have L_l := blk_lt L
              have HL := Aside0.mk L
              clear L
              go_wp2_with fail
              go_meet
              exact ⟨true, g', rfl, T, HR, HB, HD.out, HL.out, ⟨fun h => by cases h⟩⟩
          · have hf0 := HF.out
            rw [hf] at hf0
            subst hf0
            clear hf
            go_wp2_with fail
            go_quiet (fail)
            go_wp2_with fail
            go_meet
            exact ⟨false, _, rfl, ⟨(by repeat (with_reducible first | exact T.out | apply Tab.alloc | apply Tab.drewN))⟩, ⟨(by (with_reducible repeat (first | apply Kd.R_alloc | apply Kd.R_drewN | apply Kd.R_drew)); exact HR.out)⟩, ⟨by repeat (first | (with_reducible first | exact HB.out | apply below_alloc | apply pw_below_drewN | apply below_drew1) | refine below_set ?_ (by omega))⟩, (by repeat (with_reducible first | exact HD.out | apply IsBlk.alloc | apply IsBlk.drewN | apply IsBlk.drew)), (by repeat (with_reducible first | exact HL.out | apply IsBlk.alloc | apply IsBlk.drewN | apply IsBlk.drew)), ⟨fun _ => by unfold ep; rw [HE.out]⟩⟩
          · go_wp2_with fail
            go_quiet (fail)
            go_wp2_with fail
            go_meet
            exact ⟨false, _, rfl, ⟨(by repeat (with_reducible first | exact T.out | apply Tab.alloc | apply Tab.drewN))⟩, ⟨(by (with_reducible repeat (first | apply Kd.R_alloc | apply Kd.R_drewN | apply Kd.R_drew)); exact HR.out)⟩, ⟨by repeat (first | (with_reducible first | exact HB.out | apply below_alloc | apply pw_below_drewN | apply below_drew1) | refine below_set ?_ (by omega))⟩, (by repeat (with_reducible first | exact HD.out | apply IsBlk.alloc | apply IsBlk.drewN | apply IsBlk.drew)), (by repeat (with_reducible first | exact HL.out | apply IsBlk.alloc | apply IsBlk.drewN | apply IsBlk.drew)), ⟨fun _ => by unfold ep; rw [HE.out]⟩⟩
        · go_wp2_with fail
          obtain ⟨⟨r, x, g'⟩, hg'⟩ : ∃ p, renew g s x1 x2 x3 x4 = p := ⟨_, rfl⟩
          have HG := Aside0.mk hg'
          clear hg'
          refine (renew_any b q m g s x1 x2 x3 x4 _ ?hT r x g' HG.out).mono ?_
          case hT => repeat (with_reducible first | exact T.out | apply Tab.alloc | apply Tab.drewN)
          rintro e w5 ⟨rfl, hT, hgr⟩
          have D5 := IsBlk.grownBy (by repeat (with_reducible first | exact HD.out | apply IsBlk.alloc | apply IsBlk.drewN | apply IsBlk.drew)) hgr hqD
          have L5 := IsBlk.grownBy (by repeat (with_reducible first | exact HL.out | apply IsBlk.alloc | apply IsBlk.drewN | apply IsBlk.drew)) hgr hqL
          have nR := Aside0.mk (tab_turn (by (with_reducible repeat (first | apply Kd.R_alloc | apply Kd.R_drewN | apply Kd.R_drew)); exact HR.out) hgr)
          have n0 := Aside0.mk (below_turn (by repeat (first | (with_reducible first | exact HB.out | apply below_alloc | apply pw_below_drewN | apply below_drew1) | refine below_set ?_ (by omega))) hgr hq)
          clear D_0 D_1 D_2 D_3 D_4 D_5 D_z0 D_z1 D_z2 D_z3 D_z4 D_z5 D_l HD
          clear L_0 L_1 L_2 L_z0 L_z1 L_z2 L_l HL
          clear HB T HR
          have D := D5
          have L := L5
          have HB := n0
          have HR := nR
          have T := Aside0.mk hT
          clear D5 L5 n0 nR hT hgr
          have D_0 := blk_cell D 0
          have D_1 := blk_cell D 1
          have D_2 := blk_cell D 2
          have D_3 := blk_cell D 3
          have D_4 := blk_cell D 4
          have D_5 := blk_cell D 5
          simp only [List.getElem?_toArray, List.getElem?_cons_zero, List.getElem?_cons_succ] at D_0 D_1 D_2 D_3 D_4 D_5
          have D_z0 := blk_frozen D 0
          have D_z1 := blk_frozen D 1
          have D_z2 := blk_frozen D 2
          have D_z3 := blk_frozen D 3
          have D_z4 := blk_frozen D 4
          have D_z5 := blk_frozen D 5
          have D_l := blk_lt D
          have HD := Aside0.mk D
          clear D
          have L_0 := blk_cell L 0
          have L_1 := blk_cell L 1
          have L_2 := blk_cell L 2
          simp only [List.getElem?_toArray, List.getElem?_cons_zero, List.getElem?_cons_succ] at L_0 L_1 L_2
          have L_z0 := blk_frozen L 0
          have L_z1 := blk_frozen L 1
          have L_z2 := blk_frozen L 2
          have L_l := blk_lt L
          have HL := Aside0.mk L
          clear L
          obtain ⟨hcase, hep⟩ := renewed _ _ _ _ _ _ _ _ _ HG.out
          have HEP : Aside0 (ep g' s = le) := ⟨by rw [hep]; unfold ep; rw [HE.out]⟩
          clear hep
          rcases hcase with ⟨rfl, hu, hh⟩ | hx
          · rw [HE.out] at hu
            have hru : decide (r < lu) = false := by have : lu ≤ r := hu; simp; omega
            clear hu
            have HH := Aside0.mk hh
            clear hh
            go_wp2_with fail
            refine (holds_q b q m g' s x1 x2 x3 _ ?hT).mono ?_
            case hT => repeat (with_reducible first | exact T.out | apply Tab.alloc | apply Tab.drewN)
            rw [HH.out]
            rintro e w9 ⟨rfl, hb1⟩
            have n0 := Aside0.mk (below_step (by repeat (first | (with_reducible first | exact HB.out | apply below_alloc | apply pw_below_drewN | apply below_drew1) | refine below_set ?_ (by omega))) hb1)
            have nT := Aside0.mk (Tab.below (by repeat (with_reducible first | exact T.out | apply Tab.alloc | apply Tab.drewN)) hb1)
            have nR := Aside0.mk (Kd.R_below (by (with_reducible repeat (first | apply Kd.R_alloc | apply Kd.R_drewN | apply Kd.R_drew)); exact HR.out) hb1)
            have D' := IsBlk.below (by repeat (with_reducible first | exact HD.out | apply IsBlk.alloc | apply IsBlk.drewN | apply IsBlk.drew)) hb1
            clear D_0 D_1 D_2 D_3 D_4 D_5 D_z0 D_z1 D_z2 D_z3 D_z4 D_z5 D_l HD
            have D := D'
            clear D'
            have D_0 := blk_cell D 0
            have D_1 := blk_cell D 1
            have D_2 := blk_cell D 2
            have D_3 := blk_cell D 3
            have D_4 := blk_cell D 4
            have D_5 := blk_cell D 5
            simp only [List.getElem?_toArray, List.getElem?_cons_zero, List.getElem?_cons_succ] at D_0 D_1 D_2 D_3 D_4 D_5
            have D_z0 := blk_frozen D 0
            have D_z1 := blk_frozen D 1
            have D_z2 := blk_frozen D 2
            have D_z3 := blk_frozen D 3
            have D_z4 := blk_frozen D 4
            have D_z5 := blk_frozen D 5
            have D_l := blk_lt D
            have HD := Aside0.mk D
            clear D
            have L' := IsBlk.below (by repeat (with_reducible first | exact HL.out | apply IsBlk.alloc | apply IsBlk.drewN | apply IsBlk.drew)) hb1
            clear L_0 L_1 L_2 L_z0 L_z1 L_z2 L_l HL
            have L := L'
            clear L'
            have L_0 := blk_cell L 0
            have L_1 := blk_cell L 1
            have L_2 := blk_cell L 2
            simp only [List.getElem?_toArray, List.getElem?_cons_zero, List.getElem?_cons_succ] at L_0 L_1 L_2
            have L_z0 := blk_frozen L 0
            have L_z1 := blk_frozen L 1
            have L_z2 := blk_frozen L 2
            have L_l := blk_lt L
            have HL := Aside0.mk L
            clear L
            clear HB hb1 T HR
            have HB := n0
            have T := nT
            have HR := nR
            clear n0 nT nR
            go_wp2_with fail
            go_meet
            exact ⟨false, g', rfl, ⟨(by repeat (with_reducible first | exact T.out | apply Tab.alloc | apply Tab.drewN))⟩, ⟨(by (with_reducible repeat (first | apply Kd.R_alloc | apply Kd.R_drewN | apply Kd.R_drew)); exact HR.out)⟩, ⟨by repeat (first | (with_reducible first | exact HB.out | apply below_alloc | apply pw_below_drewN | apply below_drew1) | refine below_set ?_ (by omega))⟩, (by repeat (with_reducible first | exact HD.out | apply IsBlk.alloc | apply IsBlk.drewN | apply IsBlk.drew)), (by repeat (with_reducible first | exact HL.out | apply IsBlk.alloc | apply IsBlk.drewN | apply IsBlk.drew)), ⟨fun _ => HEP.out⟩⟩
          · go_wp2_with fail
            go_meet
            exact ⟨false, g', rfl, ⟨(by repeat (with_reducible first | exact T.out | apply Tab.alloc | apply Tab.drewN))⟩, ⟨(by (with_reducible repeat (first | apply Kd.R_alloc | apply Kd.R_drewN | apply Kd.R_drew)); exact HR.out)⟩, ⟨by repeat (first | (with_reducible first | exact HB.out | apply below_alloc | apply pw_below_drewN | apply below_drew1) | refine below_set ?_ (by omega))⟩, (by repeat (with_reducible first | exact HD.out | apply IsBlk.alloc | apply IsBlk.drewN | apply IsBlk.drew)), (by repeat (with_reducible first | exact HL.out | apply IsBlk.alloc | apply IsBlk.drewN | apply IsBlk.drew)), ⟨fun _ => HEP.out⟩⟩
        · go_wp2_with fail
          obtain ⟨⟨x, g'⟩, hg'⟩ : ∃ p, drop g s x1 x2 = p := ⟨_, rfl⟩
          have HG := Aside0.mk hg'
          clear hg'
          refine (drop_any b q m g s x1 x2 _ ?hT x g' HG.out).mono ?_
          case hT => repeat (with_reducible first | exact T.out | apply Tab.alloc | apply Tab.drewN)
          rintro e w5 ⟨rfl, hT, hgr⟩
          have D5 := IsBlk.grownBy (by repeat (with_reducible first | exact HD.out | apply IsBlk.alloc | apply IsBlk.drewN | apply IsBlk.drew)) hgr hqD
          have L5 := IsBlk.grownBy (by repeat (with_reducible first | exact HL.out | apply IsBlk.alloc | apply IsBlk.drewN | apply IsBlk.drew)) hgr hqL
          have nR := Aside0.mk (tab_turn (by (with_reducible repeat (first | apply Kd.R_alloc | apply Kd.R_drewN | apply Kd.R_drew)); exact HR.out) hgr)
          have n0 := Aside0.mk (below_turn (by repeat (first | (with_reducible first | exact HB.out | apply below_alloc | apply pw_below_drewN | apply below_drew1) | refine below_set ?_ (by omega))) hgr hq)
          clear D_0 D_1 D_2 D_3 D_4 D_5 D_z0 D_z1 D_z2 D_z3 D_z4 D_z5 D_l HD
          clear L_0 L_1 L_2 L_z0 L_z1 L_z2 L_l HL
          clear HB T HR
          have D := D5
          have L := L5
          have HB := n0
          have HR := nR
          have T := Aside0.mk hT
          clear D5 L5 n0 nR hT hgr
          have D_0 := blk_cell D 0
          have D_1 := blk_cell D 1
          have D_2 := blk_cell D 2
          have D_3 := blk_cell D 3
          have D_4 := blk_cell D 4
          have D_5 := blk_cell D 5
          simp only [List.getElem?_toArray, List.getElem?_cons_zero, List.getElem?_cons_succ] at D_0 D_1 D_2 D_3 D_4 D_5
          have D_z0 := blk_frozen D 0
          have D_z1 := blk_frozen D 1
          have D_z2 := blk_frozen D 2
          have D_z3 := blk_frozen D 3
          have D_z4 := blk_frozen D 4
          have D_z5 := blk_frozen D 5
          have D_l := blk_lt D
          have HD := Aside0.mk D
          clear D
          have L_0 := blk_cell L 0
          have L_1 := blk_cell L 1
          have L_2 := blk_cell L 2
          simp only [List.getElem?_toArray, List.getElem?_cons_zero, List.getElem?_cons_succ] at L_0 L_1 L_2
          have L_z0 := blk_frozen L 0
          have L_z1 := blk_frozen L 1
          have L_z2 := blk_frozen L 2
          have L_l := blk_lt L
          have HL := Aside0.mk L
          clear L
          obtain ⟨hcase, hep⟩ := dropped _ m _ _ _ x3 _ _ HG.out
          have HEP : Aside0 (ep g' s = le) := ⟨by rw [hep]; unfold ep; rw [HE.out]⟩
          clear hep
          rcases hcase with ⟨rfl, hf, hh⟩ | hx
          · have HH := Aside0.mk hh
            have HF2 := Aside0.mk hf
            clear hh hf
            go_wp2_with fail
            refine (free_q b q m g' s x3 _ ?hT).mono ?_
            case hT => repeat (with_reducible first | exact T.out | apply Tab.alloc | apply Tab.drewN)
            rw [HF2.out]
            rintro e w9 ⟨rfl, hb1⟩
            have n0 := Aside0.mk (below_step (by repeat (first | (with_reducible first | exact HB.out | apply below_alloc | apply pw_below_drewN | apply below_drew1) | refine below_set ?_ (by omega))) hb1)
            have nT := Aside0.mk (Tab.below (by repeat (with_reducible first | exact T.out | apply Tab.alloc | apply Tab.drewN)) hb1)
            have nR := Aside0.mk (Kd.R_below (by (with_reducible repeat (first | apply Kd.R_alloc | apply Kd.R_drewN | apply Kd.R_drew)); exact HR.out) hb1)
            have D' := IsBlk.below (by repeat (with_reducible first | exact HD.out | apply IsBlk.alloc | apply IsBlk.drewN | apply IsBlk.drew)) hb1
            clear D_0 D_1 D_2 D_3 D_4 D_5 D_z0 D_z1 D_z2 D_z3 D_z4 D_z5 D_l HD
            have D := D'
            clear D'
            have D_0 := blk_cell D 0
            have D_1 := blk_cell D 1
            have D_2 := blk_cell D 2
            have D_3 := blk_cell D 3
            have D_4 := blk_cell D 4
            have D_5 := blk_cell D 5
            simp only [List.getElem?_toArray, List.getElem?_cons_zero, List.getElem?_cons_succ] at D_0 D_1 D_2 D_3 D_4 D_5
            have D_z0 := blk_frozen D 0
            have D_z1 := blk_frozen D 1
            have D_z2 := blk_frozen D 2
            have D_z3 := blk_frozen D 3
            have D_z4 := blk_frozen D 4
            have D_z5 := blk_frozen D 5
            have D_l := blk_lt D
            have HD := Aside0.mk D
            clear D
            have L' := IsBlk.below (by repeat (with_reducible first | exact HL.out | apply IsBlk.alloc | apply IsBlk.drewN | apply IsBlk.drew)) hb1
            clear L_0 L_1 L_2 L_z0 L_z1 L_z2 L_l HL
            have L := L'
            clear L'
            have L_0 := blk_cell L 0
            have L_1 := blk_cell L 1
            have L_2 := blk_cell L 2
            simp only [List.getElem?_toArray, List.getElem?_cons_zero, List.getElem?_cons_succ] at L_0 L_1 L_2
            have L_z0 := blk_frozen L 0
            have L_z1 := blk_frozen L 1
            have L_z2 := blk_frozen L 2
            have L_l := blk_lt L
            have HL := Aside0.mk L
            clear L
            clear HB hb1 T HR
            have HB := n0
            have T := nT
            have HR := nR
            clear n0 nT nR
            go_wp2_with fail
            refine (holds_q b q m g' s x1 x2 x3 _ ?hT).mono ?_
            case hT => repeat (with_reducible first | exact T.out | apply Tab.alloc | apply Tab.drewN)
            rw [HH.out]
            rintro e w10 ⟨rfl, hb1⟩
            have n0 := Aside0.mk (below_step (by repeat (first | (with_reducible first | exact HB.out | apply below_alloc | apply pw_below_drewN | apply below_drew1) | refine below_set ?_ (by omega))) hb1)
            have nT := Aside0.mk (Tab.below (by repeat (with_reducible first | exact T.out | apply Tab.alloc | apply Tab.drewN)) hb1)
            have nR := Aside0.mk (Kd.R_below (by (with_reducible repeat (first | apply Kd.R_alloc | apply Kd.R_drewN | apply Kd.R_drew)); exact HR.out) hb1)
            have D' := IsBlk.below (by repeat (with_reducible first | exact HD.out | apply IsBlk.alloc | apply IsBlk.drewN | apply IsBlk.drew)) hb1
            clear D_0 D_1 D_2 D_3 D_4 D_5 D_z0 D_z1 D_z2 D_z3 D_z4 D_z5 D_l HD
            have D := D'
            clear D'
            have D_0 := blk_cell D 0
            have D_1 := blk_cell D 1
            have D_2 := blk_cell D 2
            have D_3 := blk_cell D 3
            have D_4 := blk_cell D 4
            have D_5 := blk_cell D 5
            simp only [List.getElem?_toArray, List.getElem?_cons_zero, List.getElem?_cons_succ] at D_0 D_1 D_2 D_3 D_4 D_5
            have D_z0 := blk_frozen D 0
            have D_z1 := blk_frozen D 1
            have D_z2 := blk_frozen D 2
            have D_z3 := blk_frozen D 3
            have D_z4 := blk_frozen D 4
            have D_z5 := blk_frozen D 5
            have D_l := blk_lt D
            have HD := Aside0.mk D
            clear D
            have L' := IsBlk.below (by repeat (with_reducible first | exact HL.out | apply IsBlk.alloc | apply IsBlk.drewN | apply IsBlk.drew)) hb1
            clear L_0 L_1 L_2 L_z0 L_z1 L_z2 L_l HL
            have L := L'
            clear L'
            have L_0 := blk_cell L 0
            have L_1 := blk_cell L 1
            have L_2 := blk_cell L 2
            simp only [List.getElem?_toArray, List.getElem?_cons_zero, List.getElem?_cons_succ] at L_0 L_1 L_2
            have L_z0 := blk_frozen L 0
            have L_z1 := blk_frozen L 1
            have L_z2 := blk_frozen L 2
            have L_l := blk_lt L
            have HL := Aside0.mk L
            clear L
            clear HB hb1 T HR
            have HB := n0
            have T := nT
            have HR := nR
            clear n0 nT nR
            go_wp2_with fail
            go_meet
            exact ⟨false, g', rfl, ⟨(by repeat (with_reducible first | exact T.out | apply Tab.alloc | apply Tab.drewN))⟩, ⟨(by (with_reducible repeat (first | apply Kd.R_alloc | apply Kd.R_drewN | apply Kd.R_drew)); exact HR.out)⟩, ⟨by repeat (first | (with_reducible first | exact HB.out | apply below_alloc | apply pw_below_drewN | apply below_drew1) | refine below_set ?_ (by omega))⟩, (by repeat (with_reducible first | exact HD.out | apply IsBlk.alloc | apply IsBlk.drewN | apply IsBlk.drew)), (by repeat (with_reducible first | exact HL.out | apply IsBlk.alloc | apply IsBlk.drewN | apply IsBlk.drew)), ⟨fun _ => HEP.out⟩⟩
          · go_wp2_with fail
            go_meet
            exact ⟨false, g', rfl, ⟨(by repeat (with_reducible first | exact T.out | apply Tab.alloc | apply Tab.drewN))⟩, ⟨(by (with_reducible repeat (first | apply Kd.R_alloc | apply Kd.R_drewN | apply Kd.R_drew)); exact HR.out)⟩, ⟨by repeat (first | (with_reducible first | exact HB.out | apply below_alloc | apply pw_below_drewN | apply below_drew1) | refine below_set ?_ (by omega))⟩, (by repeat (with_reducible first | exact HD.out | apply IsBlk.alloc | apply IsBlk.drewN | apply IsBlk.drew)), (by repeat (with_reducible first | exact HL.out | apply IsBlk.alloc | apply IsBlk.drewN | apply IsBlk.drew)), ⟨fun _ => HEP.out⟩⟩
        · go_wp2_with fail
          go_meet
          exact ⟨false, g, rfl, ⟨(by repeat (with_reducible first | exact T.out | apply Tab.alloc | apply Tab.drewN))⟩, ⟨(by (with_reducible repeat (first | apply Kd.R_alloc | apply Kd.R_drewN | apply Kd.R_drew)); exact HR.out)⟩, ⟨by repeat (first | (with_reducible first | exact HB.out | apply below_alloc | apply pw_below_drewN | apply below_drew1) | refine below_set ?_ (by omega))⟩, (by repeat (with_reducible first | exact HD.out | apply IsBlk.alloc | apply IsBlk.drewN | apply IsBlk.drew)), (by repeat (with_reducible first | exact HL.out | apply IsBlk.alloc | apply IsBlk.drewN | apply IsBlk.drew)), ⟨fun _ => by unfold ep; rw [HE.out]⟩⟩
      case rest =>
        clear D_0 D_1 D_2 D_3 D_4 D_5 D_z0 D_z1 D_z2 D_z3 D_z4 D_z5 D_l HD
        clear L_0 L_1 L_2 L_z0 L_z1 L_z2 L_l HL
        clear T HR HB
        obtain ⟨tk, g', rfl, T, HR, HB, D, L, HEP⟩ := hcut
        have D_0 := blk_cell D 0
        have D_1 := blk_cell D 1
        have D_2 := blk_cell D 2
        have D_3 := blk_cell D 3
        have D_4 := blk_cell D 4
        have D_5 := blk_cell D 5
        simp only [List.getElem?_toArray, List.getElem?_cons_zero, List.getElem?_cons_succ] at D_0 D_1 D_2 D_3 D_4 D_5
        have D_z0 := blk_frozen D 0
        have D_z1 := blk_frozen D 1
        have D_z2 := blk_frozen D 2
        have D_z3 := blk_frozen D 3
        have D_z4 := blk_frozen D 4
        have D_z5 := blk_frozen D 5
        have D_l := blk_lt D
        have HD := Aside0.mk D
        clear D
        have L_0 := blk_cell L 0
        have L_1 := blk_cell L 1
        have L_2 := blk_cell L 2
        simp only [List.getElem?_toArray, List.getElem?_cons_zero, List.getElem?_cons_succ] at L_0 L_1 L_2
        have L_z0 := blk_frozen L 0
        have L_z1 := blk_frozen L 1
        have L_z2 := blk_frozen L 2
        have L_l := blk_lt L
        have HL := Aside0.mk L
        clear L
        go_wp2_with fail
        refine (get_q b q m g' s _ ?hT).mono ?_
        case hT => repeat (with_reducible first | exact T.out | apply Tab.alloc | apply Tab.drewN)
        obtain ⟨⟨lh2, le2, lu2⟩, hle2⟩ : ∃ p, (g' s).getD noLe = p := ⟨_, rfl⟩
        obtain ⟨li2, hli2⟩ : ∃ p, (g' s).isSome = p := ⟨_, rfl⟩
        rw [hle2, hli2]
        have HE2 := Aside0.mk hle2
        clear hle2 hli2
        rintro e w12 ⟨rfl, hb1⟩
        have n0 := Aside0.mk (below_step (by repeat (first | (with_reducible first | exact HB.out | apply below_alloc | apply pw_below_drewN | apply below_drew1) | refine below_set ?_ (by omega))) hb1)
        have nT := Aside0.mk (Tab.below (by repeat (with_reducible first | exact T.out | apply Tab.alloc | apply Tab.drewN)) hb1)
        have nR := Aside0.mk (Kd.R_below (by (with_reducible repeat (first | apply Kd.R_alloc | apply Kd.R_drewN | apply Kd.R_drew)); exact HR.out) hb1)
        have D' := IsBlk.below (by repeat (with_reducible first | exact HD.out | apply IsBlk.alloc | apply IsBlk.drewN | apply IsBlk.drew)) hb1
        clear D_0 D_1 D_2 D_3 D_4 D_5 D_z0 D_z1 D_z2 D_z3 D_z4 D_z5 D_l HD
        have D := D'
        clear D'
        have D_0 := blk_cell D 0
        have D_1 := blk_cell D 1
        have D_2 := blk_cell D 2
        have D_3 := blk_cell D 3
        have D_4 := blk_cell D 4
        have D_5 := blk_cell D 5
        simp only [List.getElem?_toArray, List.getElem?_cons_zero, List.getElem?_cons_succ] at D_0 D_1 D_2 D_3 D_4 D_5
        have D_z0 := blk_frozen D 0
        have D_z1 := blk_frozen D 1
        have D_z2 := blk_frozen D 2
        have D_z3 := blk_frozen D 3
        have D_z4 := blk_frozen D 4
        have D_z5 := blk_frozen D 5
        have D_l := blk_lt D
        have HD := Aside0.mk D
        clear D
        have L' := IsBlk.below (by repeat (with_reducible first | exact HL.out | apply IsBlk.alloc | apply IsBlk.drewN | apply IsBlk.drew)) hb1
        clear L_0 L_1 L_2 L_z0 L_z1 L_z2 L_l HL
        have L := L'
        clear L'
        have L_0 := blk_cell L 0
        have L_1 := blk_cell L 1
        have L_2 := blk_cell L 2
        simp only [List.getElem?_toArray, List.getElem?_cons_zero, List.getElem?_cons_succ] at L_0 L_1 L_2
        have L_z0 := blk_frozen L 0
        have L_z1 := blk_frozen L 1
        have L_z2 := blk_frozen L 2
        have L_l := blk_lt L
        have HL := Aside0.mk L
        clear L
        clear HB hb1 T HR
        have HB := n0
        have T := nT
        have HR := nR
        clear n0 nT nR
        cases tk with
        | true =>
          go_wp2
          go_roundw
          case rel => exact ⟨k + 1, g', by go_num, by omega, ⟨(by repeat (with_reducible first | exact T.out | apply Tab.alloc | apply Tab.drewN))⟩, ⟨(by (with_reducible repeat (first | apply Kd.R_alloc | apply Kd.R_drewN | apply Kd.R_drew)); exact HR.out)⟩, ⟨by repeat (first | (with_reducible first | exact HB.out | apply below_alloc | apply pw_below_drewN | apply below_drew1) | refine below_set ?_ (by omega))⟩⟩
          case measure => simp [intOf]; omega
        | false =>
          have h2 := HEP.out rfl
          unfold ep at h2
          rw [HE2.out] at h2
          obtain rfl : le2 = le := h2
          go_wp2
          go_roundw
          case rel => exact ⟨k + 1, g', by go_num, by omega, ⟨(by repeat (with_reducible first | exact T.out | apply Tab.alloc | apply Tab.drewN))⟩, ⟨(by (with_reducible repeat (first | apply Kd.R_alloc | apply Kd.R_drewN | apply Kd.R_drew)); exact HR.out)⟩, ⟨by repeat (first | (with_reducible first | exact HB.out | apply below_alloc | apply pw_below_drewN | apply below_drew1) | refine below_set ?_ (by omega))⟩⟩
          case measure => simp [intOf]; omega
    · have hi1 : decide ((k : Int) < (xs.length : Int)) = false := by simp; omega
      go_wp2
      go_ret
      exact ⟨rfl, HB.out⟩
theorem walk (a0 : Int) (A1 : Option Addr) (c1 : Nat) (l1 : List (Int × Int × Int × Int × Int × ByteArray)) (w : World) (_ : (Lit.int .i64 a0).wf = true) (h1 : O.Rowz O.Is35 6 w A1 l1) (h2 : l1.length ≤ c1) :
    Calls Try.prog 5 #[.int .i64 a0, .slice A1 l1.length c1] w fun e w' => e = .returned (.bool true) ∧ Below w.heap.size w w' := by
  have h := law a0 A1 c1 (l1.map toS) w (C_of_Rowz h1) (by simpa using h2)
  rw [List.length_map] at h
  exact h
end Go.Proofs.Ytnjmhiglpapopaa.WalkLeaseRises
