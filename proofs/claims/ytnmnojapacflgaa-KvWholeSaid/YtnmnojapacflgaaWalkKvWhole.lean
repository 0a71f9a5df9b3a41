/-
  Proved here: KvWhole answers true and leaves the memory that was there. No condition but how the rows read.
-/
import Derived.Test.YtnmnojapacflgaaK15
namespace Go.Proofs.Ytnmnojapacflgaa.WalkKvWhole
open Go.Proofs.Ytnmnojapacflgaa.M Go.Proofs.Ytnmnojapacflgaa.K0 Go.RowKit Go.Maps Go.Sort Go.Proofs.YtnmnojapacflgaaW.PrintWords Go.Proofs.YtnmnojapacflgaaW.PrintLast Go.Proofs.YtnmnojapacflgaaW.PrintMore Go.Proofs.Ytnmnojapacflgaa.PKvPlays Go.Proofs.Ytnmnojapacflgaa.K1 Go.Proofs.Ytnmnojapacflgaa.K2 Go.Proofs.Ytnmnojapacflgaa.K3 Go.Proofs.Ytnmnojapacflgaa.K4 Go.Proofs.Ytnmnojapacflgaa.K5 Go.Proofs.Ytnmnojapacflgaa.K6 Go.Proofs.Ytnmnojapacflgaa.K9 Go.Proofs.Ytnmnojapacflgaa.K10 Go.Proofs.Ytnmnojapacflgaa.K12 Go.Proofs.Ytnmnojapacflgaa.K14 Go.Proofs.Ytnmnojapacflgaa.K15
set_option linter.unusedVariables false
set_option linter.unusedSimpArgs false
attribute [local go_sem] max2_int min2_int max_two min_two run_makeMap field_entry
set_option maxHeartbeats 8000000 in
set_option maxRecDepth 100000 in
theorem whole_q (A0 : Option Addr) (c0 : Nat) (P : List (List S42)) (W : World) (hr : K15.Rows W A0 P) (hc : P.length ≤ c0) : Calls Try.prog 6 #[.slice A0 P.length c0] W fun e w' => e = .returned (.bool true) ∧ Below W.heap.size W w' := by
  have HB := Aside0.mk (Below.refl W.heap.size W)
  have HR := Aside0.mk hr
  have hPm := hr.max
  clear hr hc
  go_enter Try.func6, Try.ntmps6
  go_wp2_with fail
  refine (K10.lives_q _).mono ?_
  rintro e w1 ⟨rfl, hb1⟩
  have n0 := Aside0.mk (below_step (by repeat (first | (with_reducible first | exact HB.out | apply below_alloc | apply pw_below_drewN | apply below_drew1) | refine below_set ?_ (by omega))) hb1)
  clear HB hb1
  have HB := n0
  clear n0
  go_wp2_with fail
  refine (new_q _).mono ?_
  rintro e w2 ⟨rfl, hk1, hb1⟩
  have HBq := HB
  have n0 := Aside0.mk (below_step (by repeat (first | (with_reducible first | exact HB.out | apply below_alloc | apply pw_below_drewN | apply below_drew1) | refine below_set ?_ (by omega))) hb1)
  clear HB hb1
  have HB := n0
  clear n0
  have HGQ : Aside0 (W.heap.size ≤ w1.heap.size + 1 ∧ W.heap.size ≤ w1.heap.size) := ⟨by have := HBq.out.size; omega⟩
  have HK := Aside0.mk hk1
  clear hk1 HBq
  obtain ⟨g, hg⟩ : ∃ g, w1.heap.size + 1 = g := ⟨_, rfl⟩
  obtain ⟨q, hq⟩ : ∃ g, w1.heap.size = g := ⟨_, rfl⟩
  rw [hg, hq] at HGQ HK
  rw [hg]
  clear hg hq
  go_wp2_with fail
  go_loopw [4] (fun v4 wr => ∃ (i rev : Int) (L : List S72), v4 = .int .i64 i ∧ Aside0 (0 ≤ i ∧ i ≤ 40) ∧ Aside0 (Kv wr g q rev L) ∧ Aside0 (K14.Good i rev L) ∧ Aside0 (Below W.heap.size W wr)) (fun v4 _ => (45 - intOf v4).toNat)
  case atStart => exact ⟨0, 0, [], rfl, ⟨by omega⟩, HK, ⟨K14.Good.nil⟩, ⟨by repeat (first | (with_reducible first | exact HB.out | apply below_alloc | apply pw_below_drewN | apply below_drew1) | refine below_set ?_ (by omega))⟩⟩
  case round =>
    clear HB HK
    obtain ⟨i, rev, L, rfl, HI, HK, HG, HB⟩ := hrel
    obtain ⟨wq, hwq⟩ : ∃ x, x = wr := ⟨_, rfl⟩
    subst hwq
    by_cases hi : i < P.length
    · have t1 : decide (i < (P.length : Int)) = true := decide_eq_true hi
      by_cases hi4 : i < 40
      · have t2 : decide (i < 40) = true := decide_eq_true hi4
        have hi0 : 0 ≤ i := HI.out.1
        have HIL := Aside0.mk (And.intro hi0 hi4)
        obtain ⟨kb, ko, B1, cb, rfl, hkb, ck, hcb, hCb⟩ := HR.out.at_ i HI.out.1 hi
        obtain ⟨E, hE⟩ : ∃ E, P.getD i.toNat [] = E := ⟨_, rfl⟩
        rw [hE] at ck hcb hCb
        replace ck := (HB.out.cell (World.block_lt_of_cell? W _ ck)).trans ck
        have HCb := Aside0.mk (Kd.C_below hCb HB.out)
        have HCc := Aside0.mk hcb
        clear hCb hcb hE
        go_wp2_with fail
        refine (K11.ops_c B1 cb E _ HCb.out HCc.out).mono ?_
        rintro e y1 ⟨A1, c1, rfl, h1, h2, hb1⟩
        have HO := Aside0.mk (opsL_len E)
        have HSH := Aside0.mk (ops_short E)
        obtain ⟨M, hM⟩ : ∃ M, opsL E = M := ⟨_, rfl⟩
        rw [hM] at h1 h2 HO HSH
        rw [hM]
        have HMC := Aside0.mk h1
        have HM0 := Aside0.mk h2
        clear h1 h2 hM HCb HCc
        have n_HK := Aside0.mk (HK.out.below hb1)
        have n0 := Aside0.mk (below_step (by repeat (first | (with_reducible first | exact HB.out | apply below_alloc | apply pw_below_drewN | apply below_drew1) | refine below_set ?_ (by omega))) hb1)
        clear HB hb1
        have HB := n0
        clear n0
        clear HK
        have HK := n_HK
        clear n_HK
        have HM := Aside0.mk (show Kd.C k42 _ A1 M.length M from HM0.out)
        clear HM0 ck hkb
        go_wp2_with fail
        refine (rev_q g q rev L _ HK.out).mono ?_
        rintro e y2 ⟨rfl, hb1⟩
        have n_HK := Aside0.mk (HK.out.below hb1)
        have n_HM := Aside0.mk (Kd.C_below HM.out hb1)
        have n0 := Aside0.mk (below_step (by repeat (first | (with_reducible first | exact HB.out | apply below_alloc | apply pw_below_drewN | apply below_drew1) | refine below_set ?_ (by omega))) hb1)
        clear HB hb1
        have HB := n0
        clear n0
        clear HK
        have HK := n_HK
        clear n_HK
        clear HM
        have HM := n_HM
        clear n_HM
        go_wp2_with fail
        refine (keys_q g q rev L _ HK.out (by have := HG.out.len; omega)).mono ?_
        rintro e y3 ⟨v, rfl, hGv, hb1⟩
        obtain ⟨A2, c2, rfl, hkc, hks⟩ := gave_slice hGv
        have HKC := Aside0.mk hkc
        have HS0 := Aside0.mk hks
        clear hkc hks hGv
        have n_HK := Aside0.mk (HK.out.below hb1)
        have n_HM := Aside0.mk (Kd.C_below HM.out hb1)
        have n0 := Aside0.mk (below_step (by repeat (first | (with_reducible first | exact HB.out | apply below_alloc | apply pw_below_drewN | apply below_drew1) | refine below_set ?_ (by omega))) hb1)
        clear HB hb1
        have HB := n0
        clear n0
        clear HK
        have HK := n_HK
        clear n_HK
        clear HM
        have HM := n_HM
        clear n_HM
        have HS := HS0
        clear HS0
        go_wp2_with fail
        refine (K11.as_c A1 c1 M _ HM.out HMC.out (by have := HO.out; omega)).mono ?_
        rintro e y4 ⟨A3, c3, rfl, h1, h2, hb1⟩
        have HAL : Aside0 ((asL M).length ≤ 70) := ⟨by rw [asL_len]; exact HO.out⟩
        have HAC := Aside0.mk h1
        have HA := Aside0.mk h2
        clear h1 h2
        have n_HK := Aside0.mk (HK.out.below hb1)
        have n_HM := Aside0.mk (Kd.C_below HM.out hb1)
        have n_HS := Aside0.mk (Kd.C_below HS.out hb1)
        have n0 := Aside0.mk (below_step (by repeat (first | (with_reducible first | exact HB.out | apply below_alloc | apply pw_below_drewN | apply below_drew1) | refine below_set ?_ (by omega))) hb1)
        clear HB hb1
        have HB := n0
        clear n0
        clear HK
        have HK := n_HK
        clear n_HK
        clear HM
        have HM := n_HM
        clear n_HM
        clear HS
        have HS := n_HS
        clear n_HS
        go_wp2_with fail
        refine (do_q g q rev L A3 c3 (asL M) _ HK.out HA.out HAC.out (by have := HAL.out; have := HG.out.len; omega) (by have := HG.out.rev0; have := HG.out.revn; have := HIL.out; omega)).mono ?_
        obtain ⟨⟨nn, er, rv, L2⟩, hd⟩ : ∃ x, doL rev L (asL M) = x := ⟨_, rfl⟩
        have HG2 := Aside0.mk (do_good (asL M) HG.out)
        rw [hd] at HG2 ⊢
        rintro e y5 ⟨rfl, hk1, hb1⟩
        have n_HK := Aside0.mk hk1
        have n_HM := Aside0.mk (c42_but HK.out HM.out hb1)
        have n_HS := Aside0.mk (cS_but HK.out HS.out hb1)
        have n0 := Aside0.mk (HB.out.trans (hb1.far HB.out.size HGQ.out.1 HGQ.out.2))
        clear HB hb1 hk1
        have HB := n0
        clear n0
        clear HK
        have HK := n_HK
        clear n_HK
        clear HM
        have HM := n_HM
        clear n_HM
        clear HS
        have HS := n_HS
        clear n_HS

        by_cases her : er = 0
        · subst her
          obtain ⟨hy, hee⟩ := do_ok (show (doL rev L (asL M)).2.1 = 0 by rw [hd])
          have hlook : ∀ e ∈ asL M, K0.look L2 e.f0 = if e.f3 = true then (ze, 0) else (e.f1, rev + 1) := by
            have := do_look (asL M) HG.out (by rw [hd])
            rw [hd] at this
            exact this
          rw [hd] at hee
          obtain rfl : nn = rev + 1 := congrArg (·.1) hee
          obtain rfl : rv = rev + 1 := congrArg (·.2.2.1) hee
          have hr0 := HG.out.rev0
          have hr1 : rev ≤ 1000000 := by have := HG.out.revn; have := HIL.out; omega
          have HMM := Aside0.mk (Kd.C_max HM.out)
          have hMM : M.length ≤ 70 := HO.out
          clear hee hd hy HS HA HAC HAL
          go_wp2_with fail
          go_loopw [10] (fun v10 wr => ∃ (k : Int), v10 = .int .i64 k ∧ Aside0 (0 ≤ k ∧ k ≤ M.length) ∧ Aside0 (Kv wr g q (rev + 1) L2) ∧ Aside0 (Kd.C k42 wr A1 M.length M) ∧ Aside0 (Below W.heap.size W wr)) (fun v10 _ => (M.length + 5 - intOf v10).toNat)
          case atStart => exact ⟨0, rfl, ⟨by omega⟩, HK, HM, ⟨by repeat (first | (with_reducible first | exact HB.out | apply below_alloc | apply pw_below_drewN | apply below_drew1) | refine below_set ?_ (by omega))⟩⟩
          case round =>
            clear HB HK HM
            obtain ⟨k, rfl, HKI, HK, HM, HB⟩ := hrel
            obtain ⟨wk, hwk⟩ : ∃ x, x = wr := ⟨_, rfl⟩
            subst hwk
            by_cases hk : k < M.length
            · have t3 : decide (k < (M.length : Int)) = true := decide_eq_true hk
              have hk0 : 0 ≤ k := HKI.out.1
              obtain ⟨mb, mo, rfl, hmb, ck0, ck1, ck2, ck3⟩ := el42 HM.out k hk0 hk
              have hmem : M.getD k.toNat z42 ∈ M := by rw [List.getD_eq_getElem?_getD, List.getElem?_eq_getElem (by omega)]; exact List.getElem_mem (by omega)
              obtain ⟨⟨kk, vv, rr, dd⟩, he⟩ : ∃ e, M.getD k.toNat z42 = e := ⟨_, rfl⟩
              rw [he] at ck0 ck1 ck2 ck3 hmem
              dsimp only at ck0 ck1 ck2 ck3
              clear he
              have hz : ze.toList.isEmpty = true := by kernel_rfl
              cases dd
              · have hlk : K0.look L2 kk = (vv, rev + 1) := hlook _ (List.mem_map_of_mem hmem)
                have hg := get_q g q (rev + 1) L2 kk (HSH.out _ hmem) _ HK.out
                rw [hlk] at hg
                go_wp2_with fail
                refine (hg).mono ?_
                rintro e y6 ⟨rfl, hb1⟩
                replace ck1 := (hb1.cell (World.block_lt_of_cell? _ _ ck1)).trans ck1
                replace ck3 := (hb1.cell (World.block_lt_of_cell? _ _ ck3)).trans ck3
                have n_HK := Aside0.mk (HK.out.below hb1)
                have n_HM := Aside0.mk (Kd.C_below HM.out hb1)
                have n0 := Aside0.mk (below_step (by repeat (first | (with_reducible first | exact HB.out | apply below_alloc | apply pw_below_drewN | apply below_drew1) | refine below_set ?_ (by omega))) hb1)
                clear HB hb1
                have HB := n0
                clear n0
                clear HK
                have HK := n_HK
                clear n_HK
                clear HM
                have HM := n_HM
                clear n_HM
                clear hg hlk
                go_wp2
                exact ⟨⟨k + 1, rfl, ⟨by omega⟩, HK, HM, ⟨by repeat (first | (with_reducible first | exact HB.out | apply below_alloc | apply pw_below_drewN | apply below_drew1) | refine below_set ?_ (by omega))⟩⟩, by simp only [intOf]; omega⟩
              · have hlk : K0.look L2 kk = (ze, 0) := hlook _ (List.mem_map_of_mem hmem)
                have hg := get_q g q (rev + 1) L2 kk (HSH.out _ hmem) _ HK.out
                rw [hlk] at hg
                go_wp2_with fail
                refine (hg).mono ?_
                rintro e y6 ⟨rfl, hb1⟩
                replace ck1 := (hb1.cell (World.block_lt_of_cell? _ _ ck1)).trans ck1
                replace ck3 := (hb1.cell (World.block_lt_of_cell? _ _ ck3)).trans ck3
                have n_HK := Aside0.mk (HK.out.below hb1)
                have n_HM := Aside0.mk (Kd.C_below HM.out hb1)
                have n0 := Aside0.mk (below_step (by repeat (first | (with_reducible first | exact HB.out | apply below_alloc | apply pw_below_drewN | apply below_drew1) | refine below_set ?_ (by omega))) hb1)
                clear HB hb1
                have HB := n0
                clear n0
                clear HK
                have HK := n_HK
                clear n_HK
                clear HM
                have HM := n_HM
                clear n_HM
                clear hg hlk
                go_wp2
                exact ⟨⟨k + 1, rfl, ⟨by omega⟩, HK, HM, ⟨by repeat (first | (with_reducible first | exact HB.out | apply below_alloc | apply pw_below_drewN | apply below_drew1) | refine below_set ?_ (by omega))⟩⟩, by simp only [intOf]; omega⟩
            · have t3 : decide (k < (M.length : Int)) = false := decide_eq_false hk
              clear t1 hi
              go_wp2_with fail
              refine (rev_q g q (rev + 1) L2 _ HK.out).mono ?_
              rintro e y6 ⟨rfl, hb1⟩
              have n_HK := Aside0.mk (HK.out.below hb1)
              have n_HM := Aside0.mk (Kd.C_below HM.out hb1)
              have n0 := Aside0.mk (below_step (by repeat (first | (with_reducible first | exact HB.out | apply below_alloc | apply pw_below_drewN | apply below_drew1) | refine below_set ?_ (by omega))) hb1)
              clear HB hb1
              have HB := n0
              clear n0
              clear HK
              have HK := n_HK
              clear n_HK
              clear HM
              have HM := n_HM
              clear n_HM
              have hN6 : (since L2 0).length ≤ 64 := Nat.le_trans (since_len _ _) HG2.out.len
              have hl := fun w h => len_q g q (rev + 1) L2 w h (by have := HG2.out.len; omega)
              obtain ⟨n, hN⟩ : ∃ n, (since L2 0).length = n := ⟨_, rfl⟩
              rw [hN] at hN6 hl
              have t4 : decide (64 < (n : Int)) = false := decide_eq_false (by omega)
              go_wp2_with fail
              refine (hl _ HK.out).mono ?_
              rintro e y7 ⟨rfl, hb1⟩
              have n_HK := Aside0.mk (HK.out.below hb1)
              have n_HM := Aside0.mk (Kd.C_below HM.out hb1)
              have n0 := Aside0.mk (below_step (by repeat (first | (with_reducible first | exact HB.out | apply below_alloc | apply pw_below_drewN | apply below_drew1) | refine below_set ?_ (by omega))) hb1)
              clear HB hb1
              have HB := n0
              clear n0
              clear HK
              have HK := n_HK
              clear n_HK
              clear HM
              have HM := n_HM
              clear n_HM
              go_wp2
              exact ⟨⟨i + 1, rev + 1, L2, rfl, ⟨by have := HIL.out; omega⟩, HK, HG2, ⟨by repeat (first | (with_reducible first | exact HB.out | apply below_alloc | apply pw_below_drewN | apply below_drew1) | refine below_set ?_ (by omega))⟩⟩, by have := HIL.out; simp only [intOf]; omega⟩
        · have hee := do_err (show (doL rev L (asL M)).2.1 ≠ 0 by rw [hd]; exact her)
          rw [hd] at hee
          obtain rfl : nn = 0 := congrArg (·.1) hee
          obtain rfl : rv = rev := congrArg (·.2.2.1) hee
          obtain rfl : L2 = L := congrArg (·.2.2.2) hee
          have hz : (er != 0) = true := bne_iff_ne.mpr her
          have hrr : (rv != rv) = false := by simp
          clear hee hd HM HA HAC HAL
          go_wp2_with fail
          refine (rev_q g q rv L2 _ HK.out).mono ?_
          rintro e y6 ⟨rfl, hb1⟩
          have n_HK := Aside0.mk (HK.out.below hb1)
          have n_HS := Aside0.mk (Kd.C_below HS.out hb1)
          have n0 := Aside0.mk (below_step (by repeat (first | (with_reducible first | exact HB.out | apply below_alloc | apply pw_below_drewN | apply below_drew1) | refine below_set ?_ (by omega))) hb1)
          clear HB hb1
          have HB := n0
          clear n0
          clear HK
          have HK := n_HK
          clear n_HK
          clear HS
          have HS := n_HS
          clear n_HS
          go_wp2_with fail
          refine (keys_q g q rv L2 _ HK.out (by have := HG.out.len; omega)).mono ?_
          rintro e y7 ⟨v, rfl, hGv, hb1⟩
          obtain ⟨A4, c4, rfl, hkc, hks⟩ := gave_slice hGv
          have HKC4 := Aside0.mk hkc
          have HS4 := Aside0.mk hks
          clear hkc hks hGv
          have n_HK := Aside0.mk (HK.out.below hb1)
          have n_HS := Aside0.mk (Kd.C_below HS.out hb1)
          have n0 := Aside0.mk (below_step (by repeat (first | (with_reducible first | exact HB.out | apply below_alloc | apply pw_below_drewN | apply below_drew1) | refine below_set ?_ (by omega))) hb1)
          clear HB hb1
          have HB := n0
          clear n0
          clear HK
          have HK := n_HK
          clear n_HK
          clear HS
          have HS := n_HS
          clear n_HS
          go_wp2_with fail
          refine (same_q A4 A2 c4 c2 (since L2 0) _ (Nat.le_trans (since_len _ _) (by have := HG.out.len; omega)) HS4.out HKC4.out HS.out HKC.out).mono ?_
          rintro e y8 ⟨rfl, hb1⟩
          have n_HK := Aside0.mk (HK.out.below hb1)
          have n_HS := Aside0.mk (Kd.C_below HS.out hb1)
          have n0 := Aside0.mk (below_step (by repeat (first | (with_reducible first | exact HB.out | apply below_alloc | apply pw_below_drewN | apply below_drew1) | refine below_set ?_ (by omega))) hb1)
          clear HB hb1
          have HB := n0
          clear n0
          clear HK
          have HK := n_HK
          clear n_HK
          clear HS
          have HS := n_HS
          clear n_HS
          clear HS4
          go_wp2_with fail
          refine (since_q g q rv L2 rv _ HK.out (by have := HG.out.len; omega)).mono ?_
          rintro e y9 ⟨v, rfl, hGv, hb1⟩
          rw [since_top HG.out] at hGv
          obtain ⟨A5, c5, rfl⟩ := gave_nil hGv
          clear hGv
          have n_HK := Aside0.mk (HK.out.below hb1)
          have n_HS := Aside0.mk (Kd.C_below HS.out hb1)
          have n0 := Aside0.mk (below_step (by repeat (first | (with_reducible first | exact HB.out | apply below_alloc | apply pw_below_drewN | apply below_drew1) | refine below_set ?_ (by omega))) hb1)
          clear HB hb1
          have HB := n0
          clear n0
          clear HK
          have HK := n_HK
          clear n_HK
          clear HS
          have HS := n_HS
          clear n_HS
          go_wp2
          exact ⟨⟨i + 1, rv, L2, rfl, ⟨by have := HIL.out; omega⟩, HK, HG2, ⟨by repeat (first | (with_reducible first | exact HB.out | apply below_alloc | apply pw_below_drewN | apply below_drew1) | refine below_set ?_ (by omega))⟩⟩, by have := HIL.out; simp only [intOf]; omega⟩
      · have t2 : decide (i < 40) = false := decide_eq_false hi4
        go_wp2
        go_ret
        exact ⟨rfl, by repeat (first | (with_reducible first | exact HB.out | apply below_alloc | apply pw_below_drewN | apply below_drew1) | refine below_set ?_ (by omega))⟩
    · have t1 : decide (i < (P.length : Int)) = false := decide_eq_false hi
      go_wp2
      go_ret
      exact ⟨rfl, by repeat (first | (with_reducible first | exact HB.out | apply below_alloc | apply pw_below_drewN | apply below_drew1) | refine below_set ?_ (by omega))⟩
theorem walk (A0 : Option Addr) (c0 : Nat) (l : List (List K15.Tup)) (W : World) (hr : O.Rowz (K15.Is31 W) 1 W A0 l) (hc : l.length ≤ c0) :
    Calls Try.prog 6 #[.slice A0 l.length c0] W fun e w' => e = .returned (.bool true) ∧ Below W.heap.size W w' := by
  have h := K15.rows_of hr
  have hn : (l.map fun p => p.map K12.mk42).length = l.length := List.length_map _
  have := whole_q A0 c0 (l.map fun p => p.map K12.mk42) W h (by rw [hn]; exact hc)
  rw [hn] at this
  exact this
end Go.Proofs.Ytnmnojapacflgaa.WalkKvWhole
