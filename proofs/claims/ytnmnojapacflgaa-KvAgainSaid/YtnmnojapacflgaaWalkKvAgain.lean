/-
  Proved here: KvAgain answers true and leaves the memory that was there. No condition but how the rows read.
-/
import Derived.Test.YtnmnojapacflgaaK16
namespace Go.Proofs.Ytnmnojapacflgaa.WalkKvAgain
open Go.Proofs.Ytnmnojapacflgaa.M Go.Proofs.Ytnmnojapacflgaa.K0 Go.RowKit Go.Maps Go.Sort Go.Proofs.YtnmnojapacflgaaW.PrintWords Go.Proofs.YtnmnojapacflgaaW.PrintLast Go.Proofs.YtnmnojapacflgaaW.PrintMore Go.Proofs.Ytnmnojapacflgaa.PKvPlays Go.Proofs.Ytnmnojapacflgaa.K1 Go.Proofs.Ytnmnojapacflgaa.K2 Go.Proofs.Ytnmnojapacflgaa.K3 Go.Proofs.Ytnmnojapacflgaa.K4 Go.Proofs.Ytnmnojapacflgaa.K5 Go.Proofs.Ytnmnojapacflgaa.K6 Go.Proofs.Ytnmnojapacflgaa.K9 Go.Proofs.Ytnmnojapacflgaa.K10 Go.Proofs.Ytnmnojapacflgaa.K12 Go.Proofs.Ytnmnojapacflgaa.K14 Go.Proofs.Ytnmnojapacflgaa.K15 Go.Proofs.Ytnmnojapacflgaa.K16
set_option linter.unusedVariables false
set_option linter.unusedSimpArgs false
attribute [local go_sem] max2_int min2_int max_two min_two run_makeMap field_entry
def putsB (l : List S42) : Bool := l.any fun e => decide (0 ≤ e.f2) && !e.f3
theorem puts_next (M : List S42) (k : Int) (h0 : 0 ≤ k) (hk : k < M.length) : putsB (M.take (k + 1).toNat) = (putsB (M.take k.toNat) || (decide (0 ≤ (M.getD k.toNat z42).f2) && !(M.getD k.toNat z42).f3)) := by
  have hkn : k.toNat < M.length := by omega
  unfold putsB
  rw [show (k + 1).toNat = k.toNat + 1 by omega, List.take_succ_eq_append_getElem hkn, List.any_append]
  simp [hkn]
theorem puts_again {n rev rv nn : Int} {L L2 : List S72} (M : List S42) (g : K14.Good n rev L) (hd : doL rev L (asL M) = (nn, 0, rv, L2)) (hp : putsB M = true) {nn3 er3 rv3 : Int} {L3 : List S72} (hd3 : doL rv L2 (asL M) = (nn3, er3, rv3, L3)) : (er3 == 0) = false := by
  unfold putsB at hp
  rw [List.any_eq_true] at hp
  obtain ⟨e, he, h1⟩ := hp
  simp only [Bool.and_eq_true, decide_eq_true_eq, Bool.not_eq_true'] at h1
  have h0 : (doL rev L (asL M)).2.1 = 0 := by rw [hd]
  obtain ⟨_, hee⟩ := do_ok h0
  rw [hd] at hee
  obtain rfl : rv = rev + 1 := congrArg (·.2.2.1) hee
  have := do_again (asL M) g h0 (e := to53 e) (List.mem_map_of_mem he) h1.1 h1.2
  rw [hd] at this
  rw [hd3] at this
  simpa using this
set_option maxHeartbeats 8000000 in
set_option maxRecDepth 100000 in
theorem again_q (A0 : Option Addr) (c0 : Nat) (P : List (List S42)) (W : World) (hr : K15.Rows W A0 P) (hc : P.length ≤ c0) : Calls Try.prog 4 #[.slice A0 P.length c0] W fun e w' => e = .returned (.bool true) ∧ Below W.heap.size W w' := by
  have HB := Aside0.mk (Below.refl W.heap.size W)
  have HR := Aside0.mk hr
  have hPm := hr.max
  have HPC := Aside0.mk hc
  clear hr hc
  go_enter Try.func4, Try.ntmps4
  go_wp2_with fail
  refine (K10.lives_q _).mono ?_
  rintro e w1 ⟨rfl, hb1⟩
  have n0 := Aside0.mk (below_step (by repeat (first | (with_reducible first | exact HB.out | apply below_alloc | apply pw_below_drewN | apply below_drew1) | refine below_set ?_ (by omega))) hb1)
  clear HB hb1
  have HB := n0
  clear n0
  go_wp2_with fail
  refine (new_q _).mono ?_
  rintro e w2 ⟨rfl, hk1, hb1⟩
  have HGQ : Aside0 (W.heap.size ≤ w1.heap.size + 1 ∧ W.heap.size ≤ w1.heap.size) := ⟨by have := HB.out.size; omega⟩
  have n0 := Aside0.mk (below_step (by repeat (first | (with_reducible first | exact HB.out | apply below_alloc | apply pw_below_drewN | apply below_drew1) | refine below_set ?_ (by omega))) hb1)
  clear HB hb1
  have HB := n0
  clear n0
  obtain ⟨g, hg⟩ : ∃ g, w1.heap.size + 1 = g := ⟨_, rfl⟩
  obtain ⟨q, hq⟩ : ∃ g, w1.heap.size = g := ⟨_, rfl⟩
  rw [hg, hq] at HGQ hk1
  rw [hg]
  have HK := Aside0.mk hk1
  clear hg hq hk1
  go_wp2_with fail
  refine (new_q _).mono ?_
  rintro e w3 ⟨rfl, hk1, hb1⟩
  have HGQ2 : Aside0 (W.heap.size ≤ w2.heap.size + 1 ∧ W.heap.size ≤ w2.heap.size) := ⟨by have := HB.out.size; omega⟩
  have HLT : Aside0 (g < w2.heap.size ∧ q < w2.heap.size) := ⟨blk_lt HK.out.blk, HK.out.map.lt⟩
  have HKn := Aside0.mk (HK.out.below hb1)
  clear HK
  have HK := HKn
  clear HKn
  have n0 := Aside0.mk (below_step (by repeat (first | (with_reducible first | exact HB.out | apply below_alloc | apply pw_below_drewN | apply below_drew1) | refine below_set ?_ (by omega))) hb1)
  clear HB hb1
  have HB := n0
  clear n0
  obtain ⟨g2, hg⟩ : ∃ g, w2.heap.size + 1 = g := ⟨_, rfl⟩
  obtain ⟨q2, hq⟩ : ∃ g, w2.heap.size = g := ⟨_, rfl⟩
  have HN1 : Aside0 (g ≠ g2 ∧ g ≠ q2 ∧ q ≠ g2 ∧ q ≠ q2) := ⟨by have := HLT.out; omega⟩
  have HN2 : Aside0 (g2 ≠ g ∧ g2 ≠ q ∧ q2 ≠ g ∧ q2 ≠ q) := ⟨by have := HLT.out; omega⟩
  rw [hg, hq] at HGQ2 hk1
  rw [hg]
  have HJ := Aside0.mk hk1
  clear hg hq hk1 HLT
  go_wp2_with fail
  go_loopw [5] (fun v5 wr => ∃ (i rev : Int) (L : List S72), v5 = .int .i64 i ∧ Aside0 (0 ≤ i ∧ i ≤ 30) ∧ Aside0 (Kv wr g q rev L) ∧ Aside0 (Kv wr g2 q2 rev L) ∧ Aside0 (K14.Good i rev L) ∧ Aside0 (stL (P.take i.toNat) = (rev, L)) ∧ Aside0 (Below W.heap.size W wr)) (fun v5 _ => (35 - intOf v5).toNat)
  case atStart => exact ⟨0, 0, [], rfl, ⟨by omega⟩, HK, HJ, ⟨K14.Good.nil⟩, ⟨rfl⟩, ⟨by repeat (first | (with_reducible first | exact HB.out | apply below_alloc | apply pw_below_drewN | apply below_drew1) | refine below_set ?_ (by omega))⟩⟩
  case round =>
    clear HB HK HJ
    obtain ⟨i, rev, L, rfl, HI, HK, HJ, HG, HST, HB⟩ := hrel
    obtain ⟨wq, hwq⟩ : ∃ x, x = wr := ⟨_, rfl⟩
    subst hwq
    by_cases hi : i < P.length
    · have t1 : decide (i < (P.length : Int)) = true := decide_eq_true hi
      by_cases hi4 : i < 30
      · have t2 : decide (i < 30) = true := decide_eq_true hi4
        have hi0 : 0 ≤ i := HI.out.1
        have HIL := Aside0.mk (And.intro hi0 hi4)
        have HSN := Aside0.mk (st_next P i hi0 hi)
        obtain ⟨kb, ko, B1, cb, rfl, hkb, ck, hcb, hCb⟩ := HR.out.at_ i HI.out.1 hi
        obtain ⟨E, hE⟩ : ∃ E, P.getD i.toNat [] = E := ⟨_, rfl⟩
        rw [hE] at ck hcb hCb
        replace ck := (HB.out.cell (World.block_lt_of_cell? W _ ck)).trans ck
        have HCb := Aside0.mk (Kd.C_below hCb HB.out)
        have HCc := Aside0.mk hcb
        have HE := Aside0.mk hE
        clear hCb hcb hE
        go_wp2_with fail
        refine (K11.ops_c B1 cb E _ HCb.out HCc.out).mono ?_
        rintro e y1 ⟨A1, c1, rfl, h1, h2, hb1⟩
        have HO := Aside0.mk (opsL_len E)
        have HSH := Aside0.mk (ops_short E)
        obtain ⟨M, hM⟩ : ∃ M, opsL E = M := ⟨_, rfl⟩
        rw [hM] at h1 h2 HO HSH
        rw [hM]
        have HMC := Aside0.mk h1
        have HM0 := Aside0.mk h2
        have hHM := Aside0.mk hM
        clear h1 h2 hM HCb HCc
        have n_HK := Aside0.mk (HK.out.below hb1)
        have n_HJ := Aside0.mk (HJ.out.below hb1)
        have n0 := Aside0.mk (below_step (by repeat (first | (with_reducible first | exact HB.out | apply below_alloc | apply pw_below_drewN | apply below_drew1) | refine below_set ?_ (by omega))) hb1)
        clear HB hb1
        have HB := n0
        clear n0
        clear HK
        have HK := n_HK
        clear n_HK
        clear HJ
        have HJ := n_HJ
        clear n_HJ
        have HM := Aside0.mk (show Kd.C k42 _ A1 M.length M from HM0.out)
        clear HM0 ck hkb
        go_wp2_with fail
        refine (K11.as_c A1 c1 M _ HM.out HMC.out (by have := HO.out; omega)).mono ?_
        rintro e y2 ⟨A3, c3, rfl, h1, h2, hb1⟩
        have HAL : Aside0 ((asL M).length ≤ 70) := ⟨by rw [asL_len]; exact HO.out⟩
        have HAC := Aside0.mk h1
        have HA := Aside0.mk h2
        clear h1 h2
        have n_HK := Aside0.mk (HK.out.below hb1)
        have n_HJ := Aside0.mk (HJ.out.below hb1)
        have n_HM := Aside0.mk (Kd.C_below HM.out hb1)
        have n0 := Aside0.mk (below_step (by repeat (first | (with_reducible first | exact HB.out | apply below_alloc | apply pw_below_drewN | apply below_drew1) | refine below_set ?_ (by omega))) hb1)
        clear HB hb1
        have HB := n0
        clear n0
        clear HK
        have HK := n_HK
        clear n_HK
        clear HJ
        have HJ := n_HJ
        clear n_HJ
        clear HM
        have HM := n_HM
        clear n_HM
        go_wp2_with fail
        refine (do_q g q rev L A3 c3 (asL M) _ HK.out HA.out HAC.out (by have := HAL.out; have := HG.out.len; omega) (by have := HG.out.rev0; have := HG.out.revn; have := HIL.out; omega)).mono ?_
        obtain ⟨⟨nn, er, rv, L2⟩, hd⟩ : ∃ x, doL rev L (asL M) = x := ⟨_, rfl⟩
        have HG2 := Aside0.mk (do_good (asL M) HG.out)
        rw [hd] at HG2 ⊢
        rintro e y3 ⟨rfl, hk1, hb1⟩
        have n_HK := Aside0.mk hk1
        have n_HJ := Aside0.mk (kv_but2 HJ.out hb1 HN2.out)
        have n_HM := Aside0.mk (c42_but HK.out HM.out hb1)
        have n0 := Aside0.mk (HB.out.trans (hb1.far HB.out.size HGQ.out.1 HGQ.out.2))
        clear HB hb1 hk1
        have HB := n0
        clear n0
        clear HK
        have HK := n_HK
        clear n_HK
        clear HJ
        have HJ := n_HJ
        clear n_HJ
        clear HM
        have HM := n_HM
        clear n_HM
        clear HA HAC HAL
        go_wp2_with fail
        refine (K11.as_c A1 c1 M _ HM.out HMC.out (by have := HO.out; omega)).mono ?_
        rintro e y4 ⟨A3, c3, rfl, h1, h2, hb1⟩
        have HAL : Aside0 ((asL M).length ≤ 70) := ⟨by rw [asL_len]; exact HO.out⟩
        have HAC := Aside0.mk h1
        have HA := Aside0.mk h2
        clear h1 h2
        have n_HK := Aside0.mk (HK.out.below hb1)
        have n_HJ := Aside0.mk (HJ.out.below hb1)
        have n_HM := Aside0.mk (Kd.C_below HM.out hb1)
        have n0 := Aside0.mk (below_step (by repeat (first | (with_reducible first | exact HB.out | apply below_alloc | apply pw_below_drewN | apply below_drew1) | refine below_set ?_ (by omega))) hb1)
        clear HB hb1
        have HB := n0
        clear n0
        clear HK
        have HK := n_HK
        clear n_HK
        clear HJ
        have HJ := n_HJ
        clear n_HJ
        clear HM
        have HM := n_HM
        clear n_HM
        go_wp2_with fail
        refine (do_q g2 q2 rev L A3 c3 (asL M) _ HJ.out HA.out HAC.out (by have := HAL.out; have := HG.out.len; omega) (by have := HG.out.rev0; have := HG.out.revn; have := HIL.out; omega)).mono ?_
        rw [hd]
        rintro e y5 ⟨rfl, hk1, hb1⟩
        have n_HK := Aside0.mk (kv_but2 HK.out hb1 HN1.out)
        have n_HJ := Aside0.mk hk1
        have n_HM := Aside0.mk (c42_but HJ.out HM.out hb1)
        have n0 := Aside0.mk (HB.out.trans (hb1.far HB.out.size HGQ2.out.1 HGQ2.out.2))
        clear HB hb1 hk1
        have HB := n0
        clear n0
        clear HK
        have HK := n_HK
        clear n_HK
        clear HJ
        have HJ := n_HJ
        clear n_HJ
        clear HM
        have HM := n_HM
        clear n_HM
        clear HA HAC HAL
        have hf1 : (nn != nn) = false := by simp
        have hf2 : (er != er) = false := by simp
        go_wp2_with fail
        refine (keys_q g q rv L2 _ HK.out (by have := HG2.out.len; omega)).mono ?_
        rintro e y6 ⟨v, rfl, hGv, hb1⟩
        obtain ⟨A2, c2, rfl, hkc, hks⟩ := gave_slice hGv
        have HKC := Aside0.mk hkc
        have HS := Aside0.mk hks
        clear hkc hks hGv
        have n_HK := Aside0.mk (HK.out.below hb1)
        have n_HJ := Aside0.mk (HJ.out.below hb1)
        have n_HM := Aside0.mk (Kd.C_below HM.out hb1)
        have n0 := Aside0.mk (below_step (by repeat (first | (with_reducible first | exact HB.out | apply below_alloc | apply pw_below_drewN | apply below_drew1) | refine below_set ?_ (by omega))) hb1)
        clear HB hb1
        have HB := n0
        clear n0
        clear HK
        have HK := n_HK
        clear n_HK
        clear HJ
        have HJ := n_HJ
        clear n_HJ
        clear HM
        have HM := n_HM
        clear n_HM
        go_wp2_with fail
        refine (keys_q g2 q2 rv L2 _ HJ.out (by have := HG2.out.len; omega)).mono ?_
        rintro e y7 ⟨v, rfl, hGv, hb1⟩
        obtain ⟨A4, c4, rfl, hkc, hks⟩ := gave_slice hGv
        have HKC4 := Aside0.mk hkc
        have HS4 := Aside0.mk hks
        clear hkc hks hGv
        have n_HK := Aside0.mk (HK.out.below hb1)
        have n_HJ := Aside0.mk (HJ.out.below hb1)
        have n_HM := Aside0.mk (Kd.C_below HM.out hb1)
        have n_HS := Aside0.mk (Kd.C_below HS.out hb1)
        have n0 := Aside0.mk (below_step (by repeat (first | (with_reducible first | exact HB.out | apply below_alloc | apply pw_below_drewN | apply below_drew1) | refine below_set ?_ (by omega))) hb1)
        clear HB hb1
        have HB := n0
        clear n0
        clear HK
        have HK := n_HK
        clear n_HK
        clear HJ
        have HJ := n_HJ
        clear n_HJ
        clear HM
        have HM := n_HM
        clear n_HM
        clear HS
        have HS := n_HS
        clear n_HS
        go_wp2_with fail
        clear hf1 hf2
        refine (same_q A2 A4 c2 c4 (since L2 0) _ (Nat.le_trans (since_len _ _) (by have := HG2.out.len; omega)) HS.out HKC.out HS4.out HKC4.out).mono ?_
        rintro e y8 ⟨rfl, hb1⟩
        have n_HK := Aside0.mk (HK.out.below hb1)
        have n_HJ := Aside0.mk (HJ.out.below hb1)
        have n_HM := Aside0.mk (Kd.C_below HM.out hb1)
        have n0 := Aside0.mk (below_step (by repeat (first | (with_reducible first | exact HB.out | apply below_alloc | apply pw_below_drewN | apply below_drew1) | refine below_set ?_ (by omega))) hb1)
        clear HB hb1
        have HB := n0
        clear n0
        clear HK
        have HK := n_HK
        clear n_HK
        clear HJ
        have HJ := n_HJ
        clear n_HJ
        clear HM
        have HM := n_HM
        clear n_HM
        clear HS HS4 HKC HKC4
        have HSU := Aside0.mk (HSN.out E HE.out)
        clear HSN HE
        rw [HST.out] at HSU
        have HSV : Aside0 (stL (P.take (i + 1).toNat) = (rv, L2)) := ⟨by rw [HSU.out]; unfold K16.step; dsimp only; rw [hHM.out, hd]⟩
        have HD := Aside0.mk hd
        clear HSU HST hd hHM
        have hMM : M.length ≤ 70 := HO.out
        go_wp2_with fail
        obtain ⟨wz, hwz⟩ : ∃ x, x = y8 := ⟨_, rfl⟩
        rw [← hwz] at HK HJ HM HB ⊢
        clear hwz
        go_loopw [11, 12] (fun v11 v12 wr => ∃ (k : Int), v12 = .int .i64 k ∧ v11 = .bool (putsB (M.take k.toNat)) ∧ Aside0 (0 ≤ k ∧ k ≤ M.length) ∧ wz = wr) (fun _ v12 _ => (M.length + 5 - intOf v12).toNat)
        case atStart => exact ⟨0, rfl, rfl, ⟨by omega⟩, rfl⟩
        case round =>
          obtain ⟨k, rfl, rfl, HKI, rfl⟩ := hrel
          by_cases hk : k < M.length
          · have t3 : decide (k < (M.length : Int)) = true := decide_eq_true hk
            have hk0 : 0 ≤ k := HKI.out.1
            obtain ⟨mb, mo, rfl, hmb, ck0, ck1, ck2, ck3⟩ := el42 HM.out k hk0 hk
            have hpn := puts_next M k hk0 hk
            obtain ⟨⟨kk, vv, rr, dd⟩, he⟩ : ∃ e, M.getD k.toNat z42 = e := ⟨_, rfl⟩
            rw [he] at ck0 ck1 ck2 ck3 hpn
            dsimp only at ck0 ck1 ck2 ck3 hpn
            obtain ⟨p, hp⟩ : ∃ p, putsB (M.take k.toNat) = p := ⟨_, rfl⟩
            rw [hp] at hpn
            rw [hp]
            have HPN := Aside0.mk hpn
            clear he hpn hp
            cases p
            · cases x1 : decide (0 ≤ rr)
              · go_wp2
                exact ⟨⟨k + 1, rfl, by rw [HPN.out, x1]; rfl, ⟨by omega⟩, trivial⟩, by simp only [intOf]; omega⟩
              · cases dd
                · go_wp2
                  exact ⟨⟨k + 1, rfl, by rw [HPN.out, x1]; rfl, ⟨by omega⟩, trivial⟩, by simp only [intOf]; omega⟩
                · go_wp2
                  exact ⟨⟨k + 1, rfl, by rw [HPN.out, x1]; rfl, ⟨by omega⟩, trivial⟩, by simp only [intOf]; omega⟩
            · go_wp2
              exact ⟨⟨k + 1, rfl, by rw [HPN.out]; rfl, ⟨by omega⟩, trivial⟩, by simp only [intOf]; omega⟩
          · have t3 : decide (k < (M.length : Int)) = false := decide_eq_false hk
            have hil : M.take k.toNat = M := List.take_of_length_le (by have := HKI.out; omega)
            rw [hil]
            obtain ⟨p, hp⟩ : ∃ p, putsB M = p := ⟨_, rfl⟩
            rw [hp]
            have HP := Aside0.mk hp
            have HIP := Aside0.mk hi
            clear hil hp hk hi
            by_cases her : er = 0
            · subst her
              cases p
              · go_wp2
                exact ⟨⟨i + 1, rv, L2, rfl, ⟨by have := HIL.out; omega⟩, HK, HJ, HG2, HSV, ⟨by repeat (first | (with_reducible first | exact HB.out | apply below_alloc | apply pw_below_drewN | apply below_drew1) | refine below_set ?_ (by omega))⟩⟩, by have := HIL.out; simp only [intOf]; omega⟩
              · skip
                have hcp := fun w (h : K15.Rows w (some ⟨kb, ko, none⟩) (P.take (i + 1).toNat)) => copy_q (some ⟨kb, ko, none⟩) c0 (P.take (i + 1).toNat) w h (by have := HIL.out; rw [List.length_take]; omega)
                rw [show (P.take (i + 1).toNat).length = (i + 1).toNat by rw [List.length_take]; have := HIP.out; omega] at hcp
                rw [HSV.out] at hcp
                have HRT := Aside0.mk (rows_below (rows_take HR.out (i + 1).toNat) HB.out)
                have hsl0 : i + 1 ≤ (c0 : Int) := by have := HIP.out; have := HPC.out; omega
                have hsl1 : decide (i + 1 ≤ (c0 : Int)) = true := decide_eq_true hsl0
                replace hsl0 := eq_true hsl0
                go_wp2_with fail
                refine (hcp _ HRT.out).mono ?_
                rintro e y9 ⟨g3, q3, rfl, hg3, hq3, hk3, hG3, hb1⟩
                clear hsl0 hsl1 hcp
                have HGQ3 : Aside0 (W.heap.size ≤ g3 ∧ W.heap.size ≤ q3) := ⟨by have := HB.out.size; omega⟩
                have HN3 : Aside0 ((g ≠ g3 ∧ g ≠ q3 ∧ q ≠ g3 ∧ q ≠ q3) ∧ (g2 ≠ g3 ∧ g2 ≠ q3 ∧ q2 ≠ g3 ∧ q2 ≠ q3)) := ⟨by have h1 := blk_lt HK.out.blk; have h2 := HK.out.map.lt; have h3 := blk_lt HJ.out.blk; have h4 := HJ.out.map.lt; omega⟩
                have HK3 := Aside0.mk hk3
                have HG3 := Aside0.mk hG3
                clear hk3 hG3 hg3 hq3 HRT
                have n_HK := Aside0.mk (HK.out.below hb1)
                have n_HJ := Aside0.mk (HJ.out.below hb1)
                have n_HM := Aside0.mk (Kd.C_below HM.out hb1)
                have n0 := Aside0.mk (below_step (by repeat (first | (with_reducible first | exact HB.out | apply below_alloc | apply pw_below_drewN | apply below_drew1) | refine below_set ?_ (by omega))) hb1)
                clear HB hb1
                have HB := n0
                clear n0
                clear HK
                have HK := n_HK
                clear n_HK
                clear HJ
                have HJ := n_HJ
                clear n_HJ
                clear HM
                have HM := n_HM
                clear n_HM
                go_wp2_with fail
                refine (K11.as_c A1 c1 M _ HM.out HMC.out (by have := HO.out; omega)).mono ?_
                rintro e y10 ⟨A3, c3, rfl, h1, h2, hb1⟩
                have HAL : Aside0 ((asL M).length ≤ 70) := ⟨by rw [asL_len]; exact HO.out⟩
                have HAC := Aside0.mk h1
                have HA := Aside0.mk h2
                clear h1 h2
                have n_HK := Aside0.mk (HK.out.below hb1)
                have n_HJ := Aside0.mk (HJ.out.below hb1)
                have n_HM := Aside0.mk (Kd.C_below HM.out hb1)
                have n_HK3 := Aside0.mk (HK3.out.below hb1)
                have n0 := Aside0.mk (below_step (by repeat (first | (with_reducible first | exact HB.out | apply below_alloc | apply pw_below_drewN | apply below_drew1) | refine below_set ?_ (by omega))) hb1)
                clear HB hb1
                have HB := n0
                clear n0
                clear HK
                have HK := n_HK
                clear n_HK
                clear HJ
                have HJ := n_HJ
                clear n_HJ
                clear HM
                have HM := n_HM
                clear n_HM
                clear HK3
                have HK3 := n_HK3
                clear n_HK3
                go_wp2_with fail
                refine (do_q g3 q3 rv L2 A3 c3 (asL M) _ HK3.out HA.out HAC.out (by have := HAL.out; have := HG3.out.len; omega) (by have := HG3.out.rev0; have := HG3.out.revn; have := HIL.out; omega)).mono ?_
                obtain ⟨⟨nn3, er3, rv3, L3⟩, hd3⟩ : ∃ x, doL rv L2 (asL M) = x := ⟨_, rfl⟩
                have HG4 := Aside0.mk (do_good (asL M) HG3.out)
                rw [hd3] at HG4 ⊢
                rintro e y11 ⟨rfl, hk1, hb1⟩
                have n_HK := Aside0.mk (kv_but2 HK.out hb1 HN3.out.1)
                have n_HJ := Aside0.mk (kv_but2 HJ.out hb1 HN3.out.2)
                have n_HM := Aside0.mk (c42_but HK3.out HM.out hb1)
                have n_HK3 := Aside0.mk hk1
                have n0 := Aside0.mk (HB.out.trans (hb1.far HB.out.size HGQ3.out.1 HGQ3.out.2))
                clear HB hb1 hk1
                have HB := n0
                clear n0
                clear HK
                have HK := n_HK
                clear n_HK
                clear HJ
                have HJ := n_HJ
                clear n_HJ
                clear HM
                have HM := n_HM
                clear n_HM
                clear HK3
                have HK3 := n_HK3
                clear n_HK3
                have hne := puts_again M HG.out HD.out HP.out hd3
                clear hd3
                go_wp2
                exact ⟨⟨i + 1, rv, L2, rfl, ⟨by have := HIL.out; omega⟩, HK, HJ, HG2, HSV, ⟨by repeat (first | (with_reducible first | exact HB.out | apply below_alloc | apply pw_below_drewN | apply below_drew1) | refine below_set ?_ (by omega))⟩⟩, by have := HIL.out; simp only [intOf]; omega⟩
            · have hz : (er != 0) = true := bne_iff_ne.mpr her
              go_wp2
              exact ⟨⟨i + 1, rv, L2, rfl, ⟨by have := HIL.out; omega⟩, HK, HJ, HG2, HSV, ⟨by repeat (first | (with_reducible first | exact HB.out | apply below_alloc | apply pw_below_drewN | apply below_drew1) | refine below_set ?_ (by omega))⟩⟩, by have := HIL.out; simp only [intOf]; omega⟩
      · have t2 : decide (i < 30) = false := decide_eq_false hi4
        have hrr : (rev == rev) = true := by simp
        go_wp2_with fail
        refine (rev_q g q rev L _ HK.out).mono ?_
        rintro e y1 ⟨rfl, hb1⟩
        have n_HK := Aside0.mk (HK.out.below hb1)
        have n_HJ := Aside0.mk (HJ.out.below hb1)
        have n0 := Aside0.mk (below_step (by repeat (first | (with_reducible first | exact HB.out | apply below_alloc | apply pw_below_drewN | apply below_drew1) | refine below_set ?_ (by omega))) hb1)
        clear HB hb1
        have HB := n0
        clear n0
        clear HK
        have HK := n_HK
        clear n_HK
        clear HJ
        have HJ := n_HJ
        clear n_HJ
        go_wp2_with fail
        refine (rev_q g2 q2 rev L _ HJ.out).mono ?_
        rintro e y2 ⟨rfl, hb1⟩
        have n_HK := Aside0.mk (HK.out.below hb1)
        have n_HJ := Aside0.mk (HJ.out.below hb1)
        have n0 := Aside0.mk (below_step (by repeat (first | (with_reducible first | exact HB.out | apply below_alloc | apply pw_below_drewN | apply below_drew1) | refine below_set ?_ (by omega))) hb1)
        clear HB hb1
        have HB := n0
        clear n0
        clear HK
        have HK := n_HK
        clear n_HK
        clear HJ
        have HJ := n_HJ
        clear n_HJ
        go_wp2
        go_ret
        exact ⟨rfl, by repeat (first | (with_reducible first | exact HB.out | apply below_alloc | apply pw_below_drewN | apply below_drew1) | refine below_set ?_ (by omega))⟩
    · have t1 : decide (i < (P.length : Int)) = false := decide_eq_false hi
      have hrr : (rev == rev) = true := by simp
      go_wp2_with fail
      refine (rev_q g q rev L _ HK.out).mono ?_
      rintro e y3 ⟨rfl, hb1⟩
      have n_HK := Aside0.mk (HK.out.below hb1)
      have n_HJ := Aside0.mk (HJ.out.below hb1)
      have n0 := Aside0.mk (below_step (by repeat (first | (with_reducible first | exact HB.out | apply below_alloc | apply pw_below_drewN | apply below_drew1) | refine below_set ?_ (by omega))) hb1)
      clear HB hb1
      have HB := n0
      clear n0
      clear HK
      have HK := n_HK
      clear n_HK
      clear HJ
      have HJ := n_HJ
      clear n_HJ
      go_wp2_with fail
      refine (rev_q g2 q2 rev L _ HJ.out).mono ?_
      rintro e y4 ⟨rfl, hb1⟩
      have n_HK := Aside0.mk (HK.out.below hb1)
      have n_HJ := Aside0.mk (HJ.out.below hb1)
      have n0 := Aside0.mk (below_step (by repeat (first | (with_reducible first | exact HB.out | apply below_alloc | apply pw_below_drewN | apply below_drew1) | refine below_set ?_ (by omega))) hb1)
      clear HB hb1
      have HB := n0
      clear n0
      clear HK
      have HK := n_HK
      clear n_HK
      clear HJ
      have HJ := n_HJ
      clear n_HJ
      go_wp2
      go_ret
      exact ⟨rfl, by repeat (first | (with_reducible first | exact HB.out | apply below_alloc | apply pw_below_drewN | apply below_drew1) | refine below_set ?_ (by omega))⟩
theorem walk (A0 : Option Addr) (c0 : Nat) (l : List (List K15.Tup)) (W : World) (hr : O.Rowz (K15.Is31 W) 1 W A0 l) (hc : l.length ≤ c0) :
    Calls Try.prog 4 #[.slice A0 l.length c0] W fun e w' => e = .returned (.bool true) ∧ Below W.heap.size W w' := by
  have h := K15.rows_of hr
  have hn : (l.map fun p => p.map K12.mk42).length = l.length := List.length_map _
  have := again_q A0 c0 (l.map fun p => p.map K12.mk42) W h (by rw [hn]; exact hc)
  rw [hn] at this
  exact this
end Go.Proofs.Ytnmnojapacflgaa.WalkKvAgain
