/-
  Proved here: KvPlays answers true and leaves the memory that was there. No condition but how the rows read.
-/
import Derived.Test.YtnmnojapacflgaaK19
namespace Go.Proofs.Ytnmnojapacflgaa.WalkKvPlays
open Go.Proofs.Ytnmnojapacflgaa.M Go.Proofs.Ytnmnojapacflgaa.K0 Go.RowKit Go.Maps Go.Sort Go.Proofs.YtnmnojapacflgaaW.PrintWords Go.Proofs.YtnmnojapacflgaaW.PrintLast Go.Proofs.YtnmnojapacflgaaW.PrintMore Go.Proofs.Ytnmnojapacflgaa.PKvPlays Go.Proofs.Ytnmnojapacflgaa.K1 Go.Proofs.Ytnmnojapacflgaa.K2 Go.Proofs.Ytnmnojapacflgaa.K3 Go.Proofs.Ytnmnojapacflgaa.K4 Go.Proofs.Ytnmnojapacflgaa.K5 Go.Proofs.Ytnmnojapacflgaa.K6 Go.Proofs.Ytnmnojapacflgaa.K9 Go.Proofs.Ytnmnojapacflgaa.K10 Go.Proofs.Ytnmnojapacflgaa.K12 Go.Proofs.Ytnmnojapacflgaa.K14 Go.Proofs.Ytnmnojapacflgaa.K15 Go.Proofs.Ytnmnojapacflgaa.K17 Go.Proofs.Ytnmnojapacflgaa.K18 Go.Proofs.Ytnmnojapacflgaa.K19
set_option linter.unusedVariables false
set_option linter.unusedSimpArgs false
attribute [local go_sem] max2_int min2_int max_two min_two run_makeMap field_entry
theorem c42_far {w : World} {b : Nat} {r : Int} {A0 : Option Addr} {n0 c0 : Nat} {A : Option Addr} {n : Nat} {xs : List S42} (hk : IsBlk w b #[.slice A0 n0 c0, .int .i64 r] 47) (h : Kd.C k42 w A n xs) (j : Nat) (u : Value) : Kd.C k42 (w.setCell ⟨b, j, none⟩ u) A n xs := by
  refine ⟨h.1, h.2.1, fun hn => ?_⟩
  obtain ⟨ad, e, hc⟩ := h.2.2 hn
  refine ⟨ad, e, fun m p hj => ?_⟩
  obtain ⟨cs, h1, h2, h3⟩ := hc m p hj
  obtain rfl := k42_open h2
  refine ⟨_, h1, k42_mk _ p, fun i u' hu => ?_⟩
  have h4 := h3 i u' hu
  have h0 := h3 0 _ rfl
  have hbl : (ad.add (m * k42.sz + i)).block = (ad.add (m * k42.sz + 0)).block := by unfold Addr.add; split <;> split <;> rfl
  have hne : (ad.add (m * k42.sz + i)).block ≠ b := fun e2 => by
    rw [hbl] at e2
    have hsp := World.cell?_spot h0
    generalize ad.add (m * k42.sz + 0) = a at *
    obtain ⟨ab, ao, asp⟩ := a
    dsimp only at hsp e2
    subst hsp
    subst e2
    rw [blk_cell hk ao] at h0
    match ao, h0 with
    | 0, h0 => simp at h0
    | 1, h0 => simp at h0
    | o + 2, h0 => simp at h0
  exact (cell_far (by exact hne) u).trans h4
theorem c72_but {w w1 : World} {g q : Nat} {rev : Int} {L : List S72} {A : Option Addr} {n : Nat} {xs : List S72} (hk : Kv w g q rev L) (h : Kd.C k72 w A n xs) (hb : But2 w w1 g q) : Kd.C k72 w1 A n xs := by
  refine ⟨h.1, h.2.1, fun hn => ?_⟩
  obtain ⟨ad, e, hc⟩ := h.2.2 hn
  refine ⟨ad, e, fun j p hj => ?_⟩
  obtain ⟨cs, h1, h2, h3⟩ := hc j p hj
  obtain rfl := k72_open h2
  refine ⟨_, h1, k72_mk w1 p, fun i u hu => ?_⟩
  have h4 := h3 i u hu
  have h0 := h3 0 _ rfl
  have hbl : (ad.add (j * (k72).sz + i)).block = (ad.add (j * (k72).sz + 0)).block := by unfold Addr.add; split <;> split <;> rfl
  have k0 := kv_cell hk h0
  have k1 := kv_cell hk h4
  have hg : (ad.add (j * (k72).sz + i)).block ≠ g := fun e2 => by
    rcases k0.2 (hbl ▸ e2) with h5 | h5 <;> cases h5
  have hkp := hb.block _ (World.block_lt_of_cell? w _ h4) hg k1.1
  rw [← h4]
  simp only [World.cell?, hkp]
theorem kv_far {w : World} {g q b : Nat} {rev : Int} {L : List S72} (h : Kv w g q rev L) (hn : b ≠ g ∧ b ≠ q) (j : Nat) (u : Value) : Kv (w.setCell ⟨b, j, none⟩ u) g q rev L :=
  ⟨h.blk.far (fun e => hn.1 e.symm) u, h.map.far (fun e => hn.2 e.symm) u⟩
set_option maxHeartbeats 8000000 in
set_option maxRecDepth 100000 in
theorem plays_q (A0 : Option Addr) (c0 : Nat) (P : List (List S42)) (r : Int) (W : World) (hr : K15.Rows W A0 P) (hc : P.length ≤ c0) : Calls Try.prog 5 #[.slice A0 P.length c0, .int .i64 r] W fun e w' => e = .returned (.bool true) ∧ Below W.heap.size W w' := by
  have HB := Aside0.mk (Below.refl W.heap.size W)
  have HR := Aside0.mk hr
  have hPm := hr.max
  clear hr hc
  go_enter Try.func5, Try.ntmps5
  go_wp2_with fail
  refine (K10.lives_q _).mono ?_
  rintro e w1 ⟨rfl, hb1⟩
  have n0 := Aside0.mk (below_step (by repeat (first | (with_reducible first | exact HB.out | apply below_alloc | apply pw_below_drewN | apply below_drew1) | refine below_set ?_ (by omega))) hb1)
  clear HB hb1
  have HB := n0
  clear n0
  go_wp2_with fail
  refine (new_q _).mono ?_
  rintro e w2 ⟨rfl, hk1, hb1⟩
  have HGQ : Aside0 (W.heap.size ≤ w1.heap.size + 1 ∧ W.heap.size ≤ w1.heap.size) := ⟨by have := HB.out.size; omega⟩
  have n0 := Aside0.mk (below_step (by repeat (first | (with_reducible first | exact HB.out | apply below_alloc | apply pw_below_drewN | apply below_drew1) | refine below_set ?_ (by omega))) hb1)
  clear HB hb1
  have HB := n0
  clear n0
  obtain ⟨g, hg⟩ : ∃ g, w1.heap.size + 1 = g := ⟨_, rfl⟩
  obtain ⟨q, hq⟩ : ∃ g, w1.heap.size = g := ⟨_, rfl⟩
  rw [hg, hq] at HGQ hk1
  rw [hg]
  have HK1 := Aside0.mk hk1
  clear hg hq hk1
  go_upto_region 5 with fail
  have HRec : Aside0 (IsBlk (w2.alloc (.cells #[.slice none 0 0, .int .i64 0] 47)) w2.heap.size #[.slice none 0 0, .int .i64 0] 47) := ⟨IsBlk.new _ _ rfl⟩
  have HK : Aside0 (Kv (w2.alloc (.cells #[.slice none 0 0, .int .i64 0] 47)) g q 0 []) := ⟨HK1.out.alloc _⟩
  have HGR : Aside0 (W.heap.size ≤ w2.heap.size) := ⟨HB.out.size⟩
  have HNR : Aside0 (w2.heap.size ≠ g ∧ w2.heap.size ≠ q) := ⟨by have h1 := blk_lt HK1.out.blk; have h2 := HK1.out.map.lt; omega⟩
  have HB2 : Aside0 (Below W.heap.size W (w2.alloc (.cells #[.slice none 0 0, .int .i64 0] 47))) := ⟨by repeat (first | (with_reducible first | exact HB.out | apply below_alloc | apply pw_below_drewN | apply below_drew1) | refine below_set ?_ (by omega))⟩
  clear HB HK1
  have HB := HB2
  clear HB2
  generalize (w2.alloc (.cells #[.slice none 0 0, .int .i64 0] 47)) = w3 at *
  generalize w2.heap.size = gr at *
  have HC : Aside0 (Kd.C k72 w3 none ([] : List S72).length []) := ⟨⟨rfl, by decide, fun h => absurd h (by decide)⟩⟩
  go_wp2_with fail
  go_loopw [7] (fun v7 wr => ∃ (i rev : Int) (L : List S72) (A : Option Addr) (c : Nat), v7 = .int .i64 i ∧ Aside0 (0 ≤ i ∧ i ≤ 40) ∧ Aside0 (Kv wr g q rev L) ∧ Aside0 (K14.Good i rev L) ∧ Aside0 (IsBlk wr gr #[.slice A L.length c, .int .i64 rev] 47) ∧ Aside0 (Kd.C k72 wr A L.length L) ∧ Aside0 (L.length ≤ c) ∧ Aside0 (Below W.heap.size W wr)) (fun v7 _ => (45 - intOf v7).toNat)
  case atStart => exact ⟨0, 0, [], none, 0, rfl, ⟨by omega⟩, HK, ⟨K14.Good.nil⟩, HRec, HC, ⟨by decide⟩, ⟨by repeat (first | (with_reducible first | exact HB.out | apply below_alloc | apply pw_below_drewN | apply below_drew1) | refine below_set ?_ (by omega))⟩⟩
  case round =>
    clear HB HK HRec HC
    obtain ⟨i, rev, L, A, c, rfl, HI, HK, HG, HRec, HC, HLC, HB⟩ := hrel
    obtain ⟨wz, hwz⟩ : ∃ x, x = wr := ⟨_, rfl⟩
    subst hwz
    by_cases hi : i < P.length
    · have t1 : decide (i < (P.length : Int)) = true := decide_eq_true hi
      by_cases hi4 : i < 40
      · have t2 : decide (i < 40) = true := decide_eq_true hi4
        have hi0 : 0 ≤ i := HI.out.1
        have HIL := Aside0.mk (And.intro hi0 hi4)
        obtain ⟨kb, ko, B1, cb, rfl, hkb, ck, hcb, hCb⟩ := HR.out.at_ i HI.out.1 hi
        obtain ⟨E, hE⟩ : ∃ E, P.getD i.toNat [] = E := ⟨_, rfl⟩
        rw [hE] at ck hcb hCb
        replace ck := (HB.out.cell (World.block_lt_of_cell? W _ ck)).trans ck
        have HCb := Aside0.mk (Kd.C_below hCb HB.out)
        have HCc := Aside0.mk hcb
        clear hCb hcb hE
        go_wp2_with fail
        refine (K11.ops_c B1 cb E _ HCb.out HCc.out).mono ?_
        rintro e y1 ⟨A1, c1, rfl, h1, h2, hb1⟩
        have HO := Aside0.mk (opsL_len E)
        have HSH := Aside0.mk (ops_short E)
        obtain ⟨M, hM⟩ : ∃ M, opsL E = M := ⟨_, rfl⟩
        rw [hM] at h1 h2 HO HSH
        rw [hM]
        have HMC := Aside0.mk h1
        have HM0 := Aside0.mk h2
        clear h1 h2 hM HCb HCc
        have n_HK := Aside0.mk (HK.out.below hb1)
        have n_HRec := Aside0.mk (IsBlk.below HRec.out hb1)
        have n_HC := Aside0.mk (Kd.C_below HC.out hb1)
        have n0 := Aside0.mk (below_step (by repeat (first | (with_reducible first | exact HB.out | apply below_alloc | apply pw_below_drewN | apply below_drew1) | refine below_set ?_ (by omega))) hb1)
        clear HB hb1
        have HB := n0
        clear n0
        clear HK
        have HK := n_HK
        clear n_HK
        clear HRec
        have HRec := n_HRec
        clear n_HRec
        clear HC
        have HC := n_HC
        clear n_HC
        have HM := Aside0.mk (show Kd.C k42 _ A1 M.length M from HM0.out)
        clear HM0 ck hkb
        go_wp2_with fail
        refine (K11.as_c A1 c1 M _ HM.out HMC.out (by have := HO.out; omega)).mono ?_
        rintro e y2 ⟨A3, c3, rfl, h1, h2, hb1⟩
        have HAL : Aside0 ((asL M).length ≤ 70) := ⟨by rw [asL_len]; exact HO.out⟩
        have HAC := Aside0.mk h1
        have HA := Aside0.mk h2
        clear h1 h2
        have n_HK := Aside0.mk (HK.out.below hb1)
        have n_HRec := Aside0.mk (IsBlk.below HRec.out hb1)
        have n_HC := Aside0.mk (Kd.C_below HC.out hb1)
        have n_HM := Aside0.mk (Kd.C_below HM.out hb1)
        have n0 := Aside0.mk (below_step (by repeat (first | (with_reducible first | exact HB.out | apply below_alloc | apply pw_below_drewN | apply below_drew1) | refine below_set ?_ (by omega))) hb1)
        clear HB hb1
        have HB := n0
        clear n0
        clear HK
        have HK := n_HK
        clear n_HK
        clear HRec
        have HRec := n_HRec
        clear n_HRec
        clear HC
        have HC := n_HC
        clear n_HC
        clear HM
        have HM := n_HM
        clear n_HM
        go_wp2_with fail
        refine (do_q g q rev L A3 c3 (asL M) _ HK.out HA.out HAC.out (by have := HAL.out; have := HG.out.len; omega) (by have := HG.out.rev0; have := HG.out.revn; have := HIL.out; omega)).mono ?_
        obtain ⟨⟨nn, er, rv, L2⟩, hd⟩ : ∃ x, doL rev L (asL M) = x := ⟨_, rfl⟩
        have HG2 := Aside0.mk (do_good (asL M) HG.out)
        rw [hd] at HG2 ⊢
        rintro e y3 ⟨rfl, hk1, hb1⟩
        have n_HK := Aside0.mk hk1
        have n_HRec := Aside0.mk (IsBlk.but HRec.out hb1 HNR.out.1 HNR.out.2)
        have n_HC := Aside0.mk (c72_but HK.out HC.out hb1)
        have n_HM := Aside0.mk (c42_but HK.out HM.out hb1)
        have n0 := Aside0.mk (HB.out.trans (hb1.far HB.out.size HGQ.out.1 HGQ.out.2))
        clear HB hb1 hk1
        have HB := n0
        clear n0
        clear HK
        have HK := n_HK
        clear n_HK
        clear HRec
        have HRec := n_HRec
        clear n_HRec
        clear HC
        have HC := n_HC
        clear n_HC
        clear HM
        have HM := n_HM
        clear n_HM
        clear HA HAC HAL
        have hdr := fun w h0 h1 => do_r A c L i rev A1 c1 M w HG.out (by have := HIL.out; omega) h0 HLC.out h1 HMC.out HO.out
        rw [hd] at hdr
        dsimp only at hdr
        have R__0 := blk_cell HRec.out 0
        have R__1 := blk_cell HRec.out 1
        simp only [List.getElem?_toArray, List.getElem?_cons_zero, List.getElem?_cons_succ] at R__0 R__1
        have R__z0 := blk_frozen HRec.out 0
        have R__z1 := blk_frozen HRec.out 1
        go_wp2_with fail
        refine (hdr _ HC.out HM.out).mono ?_
        rintro e y4 ⟨A4, c4, rfl, hc4, hC4, hb1⟩
        clear R__0 R__1 R__z0 R__z1
        have n_HK := Aside0.mk (HK.out.below hb1)
        have n_HRec := Aside0.mk (IsBlk.below HRec.out hb1)
        have n_HC := Aside0.mk (Kd.C_below HC.out hb1)
        have n_HM := Aside0.mk (Kd.C_below HM.out hb1)
        have n0 := Aside0.mk (below_step (by repeat (first | (with_reducible first | exact HB.out | apply below_alloc | apply pw_below_drewN | apply below_drew1) | refine below_set ?_ (by omega))) hb1)
        clear HB hb1
        have HB := n0
        clear n0
        clear HK
        have HK := n_HK
        clear n_HK
        clear HRec
        have HRec := n_HRec
        clear n_HRec
        clear HC
        have HC := n_HC
        clear n_HC
        clear HM
        have HM := n_HM
        clear n_HM
        have HC4 := Aside0.mk hC4
        have HLC4 := Aside0.mk hc4
        clear hC4 hc4 hdr hd
        have R__0 := blk_cell HRec.out 0
        have R__1 := blk_cell HRec.out 1
        simp only [List.getElem?_toArray, List.getElem?_cons_zero, List.getElem?_cons_succ] at R__0 R__1
        have R__z0 := blk_frozen HRec.out 0
        have R__z1 := blk_frozen HRec.out 1
        go_upto_region 11 with fail
        clear R__0 R__1 R__z0 R__z1
        have hgr := HGR.out
        have HRa : Aside0 (IsBlk (y4.alloc (.cells #[.slice A4 L2.length c4, .int .i64 rv] 47)) gr #[.slice A L.length c, .int .i64 rev] 47) := ⟨HRec.out.alloc _⟩
        have HNa : Aside0 (IsBlk (y4.alloc (.cells #[.slice A4 L2.length c4, .int .i64 rv] 47)) y4.heap.size #[.slice A4 L2.length c4, .int .i64 rv] 47) := ⟨IsBlk.new _ _ rfl⟩
        have HCa : Aside0 (Kd.C k72 (y4.alloc (.cells #[.slice A4 L2.length c4, .int .i64 rv] 47)) A4 L2.length L2) := ⟨Kd.C_alloc HC4.out _⟩
        have HMa : Aside0 (Kd.C k42 (y4.alloc (.cells #[.slice A4 L2.length c4, .int .i64 rv] 47)) A1 M.length M) := ⟨Kd.C_alloc HM.out _⟩
        have HKa : Aside0 (Kv (y4.alloc (.cells #[.slice A4 L2.length c4, .int .i64 rv] 47)) g q rv L2) := ⟨HK.out.alloc _⟩
        have HBa : Aside0 (Below W.heap.size W (y4.alloc (.cells #[.slice A4 L2.length c4, .int .i64 rv] 47))) := ⟨by repeat (first | (with_reducible first | exact HB.out | apply below_alloc | apply pw_below_drewN | apply below_drew1) | refine below_set ?_ (by omega))⟩
        clear HRec HC HC4 HM HK HB HLC
        have HB := HBa
        clear HBa
        generalize (y4.alloc (.cells #[.slice A4 L2.length c4, .int .i64 rv] 47)) = wA at *
        generalize y4.heap.size = gn at *
        have R__0 := blk_cell HRa.out 0
        have R__1 := blk_cell HRa.out 1
        simp only [List.getElem?_toArray, List.getElem?_cons_zero, List.getElem?_cons_succ] at R__0 R__1
        have R__z0 := blk_frozen HRa.out 0
        have R__z1 := blk_frozen HRa.out 1
        have N__0 := blk_cell HNa.out 0
        have N__1 := blk_cell HNa.out 1
        simp only [List.getElem?_toArray, List.getElem?_cons_zero, List.getElem?_cons_succ] at N__0 N__1
        have N__z0 := blk_frozen HNa.out 0
        have N__z1 := blk_frozen HNa.out 1
        go_upto_region 12 with fail
        clear R__0 R__1 R__z0 R__z1 N__0 N__1 N__z0 N__z1
        have HR1 := Aside0.mk (blk_put (cs := #[.slice A L.length c, .int .i64 rev]) (cs' := #[.slice A4 L2.length c4, .int .i64 rev]) HRa.out 0 (.slice A4 L2.length c4) rfl)
        have HRn : Aside0 (IsBlk ((wA.setCell ⟨gr, 0, none⟩ (.slice A4 L2.length c4)).setCell ⟨gr, 1, none⟩ (.int .i64 rv)) gr #[.slice A4 L2.length c4, .int .i64 rv] 47) := ⟨blk_put (cs := #[.slice A4 L2.length c4, .int .i64 rev]) HR1.out 1 _ rfl⟩
        have HCn : Aside0 (Kd.C k72 ((wA.setCell ⟨gr, 0, none⟩ (.slice A4 L2.length c4)).setCell ⟨gr, 1, none⟩ (.int .i64 rv)) A4 L2.length L2) := ⟨K18.c72_far HR1.out (K18.c72_far HRa.out HCa.out 0 _) 1 _⟩
        have HMn : Aside0 (Kd.C k42 ((wA.setCell ⟨gr, 0, none⟩ (.slice A4 L2.length c4)).setCell ⟨gr, 1, none⟩ (.int .i64 rv)) A1 M.length M) := ⟨c42_far HR1.out (c42_far HRa.out HMa.out 0 _) 1 _⟩
        have HKn : Aside0 (Kv ((wA.setCell ⟨gr, 0, none⟩ (.slice A4 L2.length c4)).setCell ⟨gr, 1, none⟩ (.int .i64 rv)) g q rv L2) := ⟨kv_far (kv_far HKa.out HNR.out 0 _) HNR.out 1 _⟩
        have HBn : Aside0 (Below W.heap.size W ((wA.setCell ⟨gr, 0, none⟩ (.slice A4 L2.length c4)).setCell ⟨gr, 1, none⟩ (.int .i64 rv))) := ⟨by repeat (first | (with_reducible first | exact HB.out | apply below_alloc | apply pw_below_drewN | apply below_drew1) | refine below_set ?_ (by omega))⟩
        clear HRa HNa HR1 HCa HMa HKa HB
        have HRec := HRn
        have HC := HCn
        have HM := HMn
        have HK := HKn
        have HB := HBn
        have HLC := HLC4
        clear HRn HCn HMn HKn HBn HLC4
        generalize ((wA.setCell ⟨gr, 0, none⟩ (.slice A4 L2.length c4)).setCell ⟨gr, 1, none⟩ (.int .i64 rv)) = wv at *
        have hf1 : (nn != nn) = false := by simp
        have hf2 : (er != er) = false := by simp
        have R__0 := blk_cell HRec.out 0
        have R__1 := blk_cell HRec.out 1
        simp only [List.getElem?_toArray, List.getElem?_cons_zero, List.getElem?_cons_succ] at R__0 R__1
        have R__z0 := blk_frozen HRec.out 0
        have R__z1 := blk_frozen HRec.out 1
        go_wp2_with fail
        refine (like_q g q (i + 1) rv L2 A4 c4 _ HK.out HG2.out HC.out HLC.out).mono ?_
        rintro e y21 ⟨rfl, hb1⟩
        have n_HK := Aside0.mk (HK.out.below hb1)
        have n_HRec := Aside0.mk (IsBlk.below HRec.out hb1)
        have n_HC := Aside0.mk (Kd.C_below HC.out hb1)
        have n_HM := Aside0.mk (Kd.C_below HM.out hb1)
        have n0 := Aside0.mk (below_step (by repeat (first | (with_reducible first | exact HB.out | apply below_alloc | apply pw_below_drewN | apply below_drew1) | refine below_set ?_ (by omega))) hb1)
        clear HB hb1
        have HB := n0
        clear n0
        clear HK
        have HK := n_HK
        clear n_HK
        clear HRec
        have HRec := n_HRec
        clear n_HRec
        clear HC
        have HC := n_HC
        clear n_HC
        clear HM
        have HM := n_HM
        clear n_HM
        clear hf1 hf2 R__0 R__1 R__z0 R__z1
        have hMM : M.length ≤ 70 := HO.out
        have hL2 : L2.length ≤ 64 := HG2.out.len
        have HIP := Aside0.mk hi
        clear hi
        go_wp2_with fail
        go_loopw [14] (fun v14 wr => ∃ (k : Int), v14 = .int .i64 k ∧ Aside0 (0 ≤ k ∧ k ≤ M.length) ∧ Aside0 (Kv wr g q rv L2) ∧ Aside0 (IsBlk wr gr #[.slice A4 L2.length c4, .int .i64 rv] 47) ∧ Aside0 (Kd.C k72 wr A4 L2.length L2) ∧ Aside0 (Kd.C k42 wr A1 M.length M) ∧ Aside0 (Below W.heap.size W wr)) (fun v14 _ => (M.length + 5 - intOf v14).toNat)
        case atStart => exact ⟨0, rfl, ⟨by omega⟩, HK, HRec, HC, HM, ⟨by repeat (first | (with_reducible first | exact HB.out | apply below_alloc | apply pw_below_drewN | apply below_drew1) | refine below_set ?_ (by omega))⟩⟩
        case round =>
          clear HB HK HRec HC HM
          obtain ⟨k, rfl, HKI, HK, HRec, HC, HM, HB⟩ := hrel
          obtain ⟨wk, hwk⟩ : ∃ x, x = wr := ⟨_, rfl⟩
          subst hwk
          by_cases hk : k < M.length
          · have t3 : decide (k < (M.length : Int)) = true := decide_eq_true hk
            have hk0 : 0 ≤ k := HKI.out.1
            obtain ⟨mb, mo, rfl, hmb, ck0, ck1, ck2, ck3⟩ := el42 HM.out k hk0 hk
            have hmem : M.getD k.toNat z42 ∈ M := by rw [List.getD_eq_getElem?_getD, List.getElem?_eq_getElem (by omega)]; exact List.getElem_mem (by omega)
            obtain ⟨⟨kk, vv, rr, dd⟩, he⟩ : ∃ e, M.getD k.toNat z42 = e := ⟨_, rfl⟩
            rw [he] at ck0 hmem
            dsimp only at ck0
            obtain ⟨⟨lv, lr⟩, hlk⟩ : ∃ p, K0.look L2 kk = p := ⟨_, rfl⟩
            have hgt := fun w h => get_q g q rv L2 kk (HSH.out _ hmem) w h
            rw [hlk] at hgt
            have K17G : Aside0 (∀ w, Kd.C k72 w A4 L2.length L2 → Calls Try.prog 22 #[.agg #[.slice A4 L2.length c4, .int .i64 rv], .string kk] w fun e w' => e = .returned (.tuple #[.string lv, .int .i64 lr]) ∧ Below w.heap.size w w') := ⟨fun w h => pacesetterref08_Get.calls (L2.length + 1) A4 c4 L2 rv kk lv lr w h HLC.out (by rw [get_f L2 rv kk (by omega), hlk])⟩
            have hf1 : (lr != lr) = false := by simp
            clear he ck1 ck2 ck3 hlk hmem
            go_wp2_with fail
            refine (hgt _ HK.out).mono ?_
            rintro e y31 ⟨rfl, hb1⟩
            replace ck0 := (hb1.cell (World.block_lt_of_cell? _ _ ck0)).trans ck0
            have n_HK := Aside0.mk (HK.out.below hb1)
            have n_HRec := Aside0.mk (IsBlk.below HRec.out hb1)
            have n_HC := Aside0.mk (Kd.C_below HC.out hb1)
            have n_HM := Aside0.mk (Kd.C_below HM.out hb1)
            have n0 := Aside0.mk (below_step (by repeat (first | (with_reducible first | exact HB.out | apply below_alloc | apply pw_below_drewN | apply below_drew1) | refine below_set ?_ (by omega))) hb1)
            clear HB hb1
            have HB := n0
            clear n0
            clear HK
            have HK := n_HK
            clear n_HK
            clear HRec
            have HRec := n_HRec
            clear n_HRec
            clear HC
            have HC := n_HC
            clear n_HC
            clear HM
            have HM := n_HM
            clear n_HM
            clear hgt
            have R__0 := blk_cell HRec.out 0
            have R__1 := blk_cell HRec.out 1
            simp only [List.getElem?_toArray, List.getElem?_cons_zero, List.getElem?_cons_succ] at R__0 R__1
            have R__z0 := blk_frozen HRec.out 0
            have R__z1 := blk_frozen HRec.out 1
            go_upto_region 18 with fail
            refine start_ (n := 12) (S := fun w' => w'.cell? ⟨gr, 0, none⟩ = some (.slice A4 L2.length c4) ∧ w'.cell? ⟨gr, 1, none⟩ = some (.int .i64 rv) ∧ w'.cell? ⟨mb, mo + k.toNat * 4, none⟩ = some (.string kk)) (ds := []) #[false, false, false, false, false, false, false, false, false, false, false, false] (by kernel_rfl) rfl rfl ⟨R__0, R__1, ck0⟩ (fun hHeld => ?_)
            refine pure_ (i := 1) (N := some 84) (v := ?_) (a' := ?_) #[false, true, false, false, false, false, false, false, false, false, false, false] rfl rfl (by kernel_rfl) (fun _ _ _ h => h) (Or.inl ⟨by rfl, ?_⟩) ?_ ?_
            rotate_left
            · intro w'
              go_simp
              with_reducible rfl
            rotate_left
            · simp only [Act.put, List.setIfInBounds_toArray, List.set_cons_zero, List.set_cons_succ, i64_w, i32_w]
              rfl
            refine pure_ (i := 2) (N := some 85) (v := ?_) (a' := ?_) #[false, true, true, false, false, false, false, false, false, false, false, false] rfl rfl (by kernel_rfl) (fun _ _ _ h => h) (Or.inl ⟨by rfl, ?_⟩) ?_ ?_
            rotate_left
            · intro w'
              go_simp
              with_reducible rfl
            rotate_left
            · simp only [Act.put, List.setIfInBounds_toArray, List.set_cons_zero, List.set_cons_succ, i64_w, i32_w]
              rfl
            refine pure_ (i := 3) (N := some 86) (v := ?_) (a' := ?_) #[false, true, true, true, false, false, false, false, false, false, false, false] rfl rfl (by kernel_rfl) (fun _ _ _ h => h) (Or.inl ⟨by rfl, ?_⟩) ?_ ?_
            rotate_left
            · intro w'
              go_simp
              with_reducible rfl
            rotate_left
            · simp only [Act.put, List.setIfInBounds_toArray, List.set_cons_zero, List.set_cons_succ, i64_w, i32_w]
              rfl
            refine pure_ (i := 4) (N := some 87) (v := ?_) (a' := ?_) #[false, true, true, true, true, false, false, false, false, false, false, false] rfl rfl (by kernel_rfl) (fun _ _ _ h => h) (Or.inl ⟨by rfl, ?_⟩) ?_ ?_
            rotate_left
            · intro w'
              go_simp
              with_reducible rfl
            rotate_left
            · simp only [Act.put, List.setIfInBounds_toArray, List.set_cons_zero, List.set_cons_succ, i64_w, i32_w]
              rfl
            refine take_ (i := 0) (N := some 83) (v := ?_) (a' := ?_) #[true, true, true, true, true, false, false, false, false, false, false, false] rfl rfl (by kernel_rfl) (fun _ _ _ h => h) (Or.inl ⟨by rfl, ?_⟩) hHeld ?_ ?_
            rotate_left
            · rintro w' ⟨s0, s1, s2⟩
              go_simp
              with_reducible rfl
            rotate_left
            · simp only [Act.put, List.setIfInBounds_toArray, List.set_cons_zero, List.set_cons_succ, i64_w, i32_w]
              rfl
            refine take_ (i := 5) (N := some 88) (v := ?_) (a' := ?_) #[true, true, true, true, true, true, false, false, false, false, false, false] rfl rfl (by kernel_rfl) (fun _ _ _ h => h) (Or.inl ⟨by rfl, ?_⟩) hHeld ?_ ?_
            rotate_left
            · rintro w' ⟨s0, s1, s2⟩
              go_simp
              with_reducible rfl
            rotate_left
            · simp only [Act.put, List.setIfInBounds_toArray, List.set_cons_zero, List.set_cons_succ, i64_w, i32_w]
              rfl
            refine one_ (i := 6) (N := some 89) #[true, true, true, true, true, true, true, false, false, false, false, false] rfl rfl (by kernel_rfl) (by simp) (fun K hK => ?_)
            refine goes_ Try.func22 (by kernel_rfl) rfl #[.agg #[.slice A4 L2.length c4, .int .i64 rv], .string kk] (by rfl) rfl rfl (by simp only [List.map_toArray, List.map_cons, List.map_nil]; rfl) ?_
            with_reducible refine (K17G.out _ ?side1).mono ?_
            (case side1 => exact (by repeat (first | exact HC.out | refine Kd.C_alloc ?_ _ | refine Kd.C_drewN ?_ _ | refine Kd.C_drew ?_)))
            rintro e z3 ⟨rfl, hb1⟩
            have n_HK : Aside0 (Kv z3 g q rv L2) := ⟨Kv.below (by repeat (with_reducible first | exact HK.out | apply Kv.alloc | apply Kv.drew | apply Kv.drewN)) hb1⟩
            have n_HRec : Aside0 (IsBlk z3 gr #[.slice A4 L2.length c4, .int .i64 rv] 47) := ⟨IsBlk.below (by repeat (with_reducible first | exact HRec.out | apply IsBlk.alloc | apply IsBlk.drew | apply IsBlk.drewN)) hb1⟩
            have n_HC : Aside0 (Kd.C k72 z3 A4 L2.length L2) := ⟨Kd.C_below (by repeat (first | exact HC.out | refine Kd.C_alloc ?_ _ | refine Kd.C_drewN ?_ _ | refine Kd.C_drew ?_)) hb1⟩
            have n_HM : Aside0 (Kd.C k42 z3 (some ⟨mb, mo, none⟩) M.length M) := ⟨Kd.C_below (by repeat (first | exact HM.out | refine Kd.C_alloc ?_ _ | refine Kd.C_drewN ?_ _ | refine Kd.C_drew ?_)) hb1⟩
            have n0 := Aside0.mk (below_step (by repeat (with_reducible first | exact HB.out | apply below_alloc | apply pw_below_drewN | apply below_drew1)) hb1)
            clear HB HK HRec HC HM
            have HB := n0
            clear n0
            have HK := n_HK
            clear n_HK
            have HRec := n_HRec
            clear n_HRec
            have HC := n_HC
            clear n_HC
            have HM := n_HM
            clear n_HM
            refine ⟨_, rfl, ?_⟩
            refine hK.out _ _ ⟨cell_keep hb1 hHeld.1, cell_keep hb1 hHeld.2.1, cell_keep hb1 hHeld.2.2⟩ (fun hHeld => ?_)
            clear hK K
            refine norm_ (a' := ?_) ?_ ?_
            rotate_left
            · show Act.put _ (some 89) _ = _
              simp only [Act.put, List.setIfInBounds_toArray, List.set_cons_zero, List.set_cons_succ, i64_w, i32_w]
              rfl
            refine pure_ (i := 7) (N := some 82) (v := ?_) (a' := ?_) #[true, true, true, true, true, true, true, true, false, false, false, false] rfl rfl (by kernel_rfl) (fun _ _ _ h => h) (Or.inl ⟨by rfl, ?_⟩) ?_ ?_
            rotate_left
            · intro w'
              go_simp
              with_reducible rfl
            rotate_left
            · simp only [Act.put, List.setIfInBounds_toArray, List.set_cons_zero, List.set_cons_succ, i64_w, i32_w]
              rfl
            refine pure_ (i := 8) (N := some 90) (v := ?_) (a' := ?_) #[true, true, true, true, true, true, true, true, true, false, false, false] rfl rfl (by kernel_rfl) (fun _ _ _ h => h) (Or.inl ⟨by rfl, ?_⟩) ?_ ?_
            rotate_left
            · intro w'
              go_simp
              with_reducible rfl
            rotate_left
            · simp only [Act.put, List.setIfInBounds_toArray, List.set_cons_zero, List.set_cons_succ, i64_w, i32_w]
              rfl
            refine pure_ (i := 9) (N := some 91) (v := ?_) (a' := ?_) #[true, true, true, true, true, true, true, true, true, true, false, false] rfl rfl (by kernel_rfl) (fun _ _ _ h => h) (Or.inl ⟨by rfl, ?_⟩) ?_ ?_
            rotate_left
            · intro w'
              go_simp
              with_reducible rfl
            rotate_left
            · simp only [Act.put, List.setIfInBounds_toArray, List.set_cons_zero, List.set_cons_succ, i64_w, i32_w]
              rfl
            refine pure_ (i := 10) (N := some 17) (v := ?_) (a' := ?_) #[true, true, true, true, true, true, true, true, true, true, true, false] rfl rfl (by kernel_rfl) (fun _ _ _ h => h) (Or.inl ⟨by rfl, ?_⟩) ?_ ?_
            rotate_left
            · intro w'
              go_simp
              with_reducible rfl
            rotate_left
            · simp only [Act.put, List.setIfInBounds_toArray, List.set_cons_zero, List.set_cons_succ, i64_w, i32_w]
              rfl
            refine pure_ (i := 11) (N := some 18) (v := ?_) (a' := ?_) #[true, true, true, true, true, true, true, true, true, true, true, true] rfl rfl (by kernel_rfl) (fun _ _ _ h => h) (Or.inl ⟨by rfl, ?_⟩) ?_ ?_
            rotate_left
            · intro w'
              go_simp
              with_reducible rfl
            rotate_left
            · simp only [Act.put, List.setIfInBounds_toArray, List.set_cons_zero, List.set_cons_succ, i64_w, i32_w]
              rfl
            refine done_ (by kernel_rfl) ?_

            clear R__0 R__1 R__z0 R__z1 ck0 K17G
            go_wp2
            exact ⟨⟨k + 1, rfl, ⟨by omega⟩, HK, HRec, HC, HM, ⟨by repeat (first | (with_reducible first | exact HB.out | apply below_alloc | apply pw_below_drewN | apply below_drew1) | refine below_set ?_ (by omega))⟩⟩, by simp only [intOf]; omega⟩
          · have t3 : decide (k < (M.length : Int)) = false := decide_eq_false hk
            go_wp2
            exact ⟨⟨i + 1, rv, L2, A4, c4, rfl, ⟨by have := HIL.out; omega⟩, HK, HG2, HRec, HC, HLC, ⟨by repeat (first | (with_reducible first | exact HB.out | apply below_alloc | apply pw_below_drewN | apply below_drew1) | refine below_set ?_ (by omega))⟩⟩, by have := HIL.out; simp only [intOf]; omega⟩
      · have t2 : decide (i < 40) = false := decide_eq_false hi4
        have hL64 : L.length ≤ 64 := HG.out.len
        have HL1 : Aside0 (L.length ≤ 1000) := ⟨by omega⟩
        obtain ⟨Y, hY⟩ : ∃ Y, since L r = Y := ⟨_, rfl⟩
        have HYE := Aside0.mk hY
        have HYL : Aside0 (Y.length ≤ 1000) := ⟨by rw [← hY]; exact Nat.le_trans (since_len _ _) (by omega)⟩
        have HSF : Aside0 (pacesetterref08_Since.f (L.length + 1) L rev r = some Y) := ⟨by rw [since_f L rev r (by omega), hY]⟩
        clear hY
        have R__0 := blk_cell HRec.out 0
        have R__1 := blk_cell HRec.out 1
        simp only [List.getElem?_toArray, List.getElem?_cons_zero, List.getElem?_cons_succ] at R__0 R__1
        have R__z0 := blk_frozen HRec.out 0
        have R__z1 := blk_frozen HRec.out 1
        go_upto_region 21 with fail
        refine start_ (n := 8) (S := fun w' => w'.cell? ⟨gr, 0, none⟩ = some (.slice A L.length c) ∧ w'.cell? ⟨gr, 1, none⟩ = some (.int .i64 rev)) (ds := []) #[false, false, false, false, false, false, false, false] (by kernel_rfl) rfl rfl ⟨R__0, R__1⟩ (fun hHeld => ?_)
        refine pure_ (i := 0) (N := some 100) (v := ?_) (a' := ?_) #[true, false, false, false, false, false, false, false] rfl rfl (by kernel_rfl) (fun _ _ _ h => h) (Or.inl ⟨by rfl, ?_⟩) ?_ ?_
        rotate_left
        · intro w'
          go_simp
          with_reducible rfl
        rotate_left
        · simp only [Act.put, List.setIfInBounds_toArray, List.set_cons_zero, List.set_cons_succ, i64_w, i32_w]
          rfl
        refine pure_ (i := 1) (N := some 101) (v := ?_) (a' := ?_) #[true, true, false, false, false, false, false, false] rfl rfl (by kernel_rfl) (fun _ _ _ h => h) (Or.inl ⟨by rfl, ?_⟩) ?_ ?_
        rotate_left
        · intro w'
          go_simp
          with_reducible rfl
        rotate_left
        · simp only [Act.put, List.setIfInBounds_toArray, List.set_cons_zero, List.set_cons_succ, i64_w, i32_w]
          rfl
        refine pure_ (i := 4) (N := some 104) (v := ?_) (a' := ?_) #[true, true, false, false, true, false, false, false] rfl rfl (by kernel_rfl) (fun _ _ _ h => h) (Or.inl ⟨by rfl, ?_⟩) ?_ ?_
        rotate_left
        · intro w'
          go_simp
          with_reducible rfl
        rotate_left
        · simp only [Act.put, List.setIfInBounds_toArray, List.set_cons_zero, List.set_cons_succ, i64_w, i32_w]
          rfl
        refine take_ (i := 3) (N := some 103) (v := ?_) (a' := ?_) #[true, true, false, true, true, false, false, false] rfl rfl (by kernel_rfl) (fun _ _ _ h => h) (Or.inl ⟨by rfl, ?_⟩) hHeld ?_ ?_
        rotate_left
        · rintro w' ⟨s0, s1⟩
          go_simp
          with_reducible rfl
        rotate_left
        · simp only [Act.put, List.setIfInBounds_toArray, List.set_cons_zero, List.set_cons_succ, i64_w, i32_w]
          rfl
        refine one_ (i := 2) (N := some 102) #[true, true, true, true, true, false, false, false] rfl rfl (by kernel_rfl) (by simp) (fun K hK => ?_)
        refine goes_ Try.func15 (by kernel_rfl) rfl #[.pointer (some ⟨g, 0, none⟩), .int .i64 r] (by rfl) rfl rfl (by simp only [List.map_toArray, List.map_cons, List.map_nil]; rfl) ?_
        with_reducible refine (since_q g q rev L r _ ?side1 HL1.out).mono ?_
        (case side1 => exact (by repeat (with_reducible first | exact HK.out | apply Kv.alloc | apply Kv.drew | apply Kv.drewN)))
        rintro e z3 ⟨v, rfl, hGv, hb1⟩
        have n_HK : Aside0 (Kv z3 g q rev L) := ⟨Kv.below (by repeat (with_reducible first | exact HK.out | apply Kv.alloc | apply Kv.drew | apply Kv.drewN)) hb1⟩
        have n_HRec : Aside0 (IsBlk z3 gr #[.slice A L.length c, .int .i64 rev] 47) := ⟨IsBlk.below (by repeat (with_reducible first | exact HRec.out | apply IsBlk.alloc | apply IsBlk.drew | apply IsBlk.drewN)) hb1⟩
        have n_HC : Aside0 (Kd.C k72 z3 A L.length L) := ⟨Kd.C_below (by repeat (first | exact HC.out | refine Kd.C_alloc ?_ _ | refine Kd.C_drewN ?_ _ | refine Kd.C_drew ?_)) hb1⟩
        have n0 := Aside0.mk (below_step (by repeat (with_reducible first | exact HB.out | apply below_alloc | apply pw_below_drewN | apply below_drew1)) hb1)
        clear HB HK HRec HC
        have HB := n0
        clear n0
        have HK := n_HK
        clear n_HK
        have HRec := n_HRec
        clear n_HRec
        have HC := n_HC
        clear n_HC
        rw [HYE.out] at hGv
        obtain ⟨A2, c2, rfl, hkc, hks⟩ := gave_slice hGv
        have HKC := Aside0.mk hkc
        have HY := Aside0.mk hks
        clear hkc hks hGv
        refine ⟨_, rfl, ?_⟩
        refine hK.out _ _ ⟨cell_keep hb1 hHeld.1, cell_keep hb1 hHeld.2⟩ (fun hHeld => ?_)
        clear hK K
        refine norm_ (a' := ?_) ?_ ?_
        rotate_left
        · show Act.put _ (some 102) _ = _
          simp only [Act.put, List.setIfInBounds_toArray, List.set_cons_zero, List.set_cons_succ, i64_w, i32_w]
          rfl
        refine one_ (i := 5) (N := some 105) #[true, true, true, true, true, true, false, false] rfl rfl (by kernel_rfl) (by simp) (fun K hK => ?_)
        refine goes_ Try.func23 (by kernel_rfl) rfl #[.agg #[.slice A L.length c, .int .i64 rev], .int .i64 r] (by rfl) rfl rfl (by simp only [List.map_toArray, List.map_cons, List.map_nil]; rfl) ?_
        with_reducible refine (pacesetterref08_Since.calls (L.length + 1) A c L rev r Y _ ?side1 HLC.out HSF.out).mono ?_
        (case side1 => exact (by repeat (first | exact HC.out | refine Kd.C_alloc ?_ _ | refine Kd.C_drewN ?_ _ | refine Kd.C_drew ?_)))
        rintro e z4 ⟨v, rfl, hR, hb1⟩
        obtain ⟨A3, c3, rfl, hkc, hks⟩ := Kd.R_reads hR
        have n_HK : Aside0 (Kv z4 g q rev L) := ⟨Kv.below (by repeat (with_reducible first | exact HK.out | apply Kv.alloc | apply Kv.drew | apply Kv.drewN)) hb1⟩
        have n_HRec : Aside0 (IsBlk z4 gr #[.slice A L.length c, .int .i64 rev] 47) := ⟨IsBlk.below (by repeat (with_reducible first | exact HRec.out | apply IsBlk.alloc | apply IsBlk.drew | apply IsBlk.drewN)) hb1⟩
        have n_HC : Aside0 (Kd.C k72 z4 A L.length L) := ⟨Kd.C_below (by repeat (first | exact HC.out | refine Kd.C_alloc ?_ _ | refine Kd.C_drewN ?_ _ | refine Kd.C_drew ?_)) hb1⟩
        have n_HY : Aside0 (Kd.C Kd.string z4 A2 Y.length Y) := ⟨Kd.C_below (by repeat (first | exact HY.out | refine Kd.C_alloc ?_ _ | refine Kd.C_drewN ?_ _ | refine Kd.C_drew ?_)) hb1⟩
        have n0 := Aside0.mk (below_step (by repeat (with_reducible first | exact HB.out | apply below_alloc | apply pw_below_drewN | apply below_drew1)) hb1)
        clear HB HK HRec HC HY
        have HB := n0
        clear n0
        have HK := n_HK
        clear n_HK
        have HRec := n_HRec
        clear n_HRec
        have HC := n_HC
        clear n_HC
        have HY := n_HY
        clear n_HY
        have HKC3 := Aside0.mk hkc
        have HY3 := Aside0.mk hks
        clear hkc hks hR
        refine ⟨_, rfl, ?_⟩
        refine hK.out _ _ ⟨cell_keep hb1 hHeld.1, cell_keep hb1 hHeld.2⟩ (fun hHeld => ?_)
        clear hK K
        refine norm_ (a' := ?_) ?_ ?_
        rotate_left
        · show Act.put _ (some 105) _ = _
          simp only [Act.put, List.setIfInBounds_toArray, List.set_cons_zero, List.set_cons_succ, i64_w, i32_w]
          rfl
        refine one_ (i := 6) (N := some 106) #[true, true, true, true, true, true, true, false] rfl rfl (by kernel_rfl) (by simp) (fun K hK => ?_)
        refine goes_ Try.func18 (by kernel_rfl) rfl #[.slice A2 Y.length c2, .slice A3 Y.length c3] (by rfl) rfl rfl (by simp only [List.map_toArray, List.map_cons, List.map_nil]; rfl) ?_
        with_reducible refine (same_q A2 A3 c2 c3 Y _ HYL.out HY.out HKC.out HY3.out HKC3.out).mono ?_
        rintro e z5 ⟨rfl, hb1⟩
        have n_HK : Aside0 (Kv z5 g q rev L) := ⟨Kv.below (by repeat (with_reducible first | exact HK.out | apply Kv.alloc | apply Kv.drew | apply Kv.drewN)) hb1⟩
        have n_HRec : Aside0 (IsBlk z5 gr #[.slice A L.length c, .int .i64 rev] 47) := ⟨IsBlk.below (by repeat (with_reducible first | exact HRec.out | apply IsBlk.alloc | apply IsBlk.drew | apply IsBlk.drewN)) hb1⟩
        have n_HC : Aside0 (Kd.C k72 z5 A L.length L) := ⟨Kd.C_below (by repeat (first | exact HC.out | refine Kd.C_alloc ?_ _ | refine Kd.C_drewN ?_ _ | refine Kd.C_drew ?_)) hb1⟩
        have n0 := Aside0.mk (below_step (by repeat (with_reducible first | exact HB.out | apply below_alloc | apply pw_below_drewN | apply below_drew1)) hb1)
        clear HB HK HRec HC
        have HB := n0
        clear n0
        have HK := n_HK
        clear n_HK
        have HRec := n_HRec
        clear n_HRec
        have HC := n_HC
        clear n_HC
        refine ⟨_, rfl, ?_⟩
        refine hK.out _ _ ⟨cell_keep hb1 hHeld.1, cell_keep hb1 hHeld.2⟩ (fun hHeld => ?_)
        clear hK K
        refine norm_ (a' := ?_) ?_ ?_
        rotate_left
        · show Act.put _ (some 106) _ = _
          simp only [Act.put, List.setIfInBounds_toArray, List.set_cons_zero, List.set_cons_succ, i64_w, i32_w]
          rfl
        refine pure_ (i := 7) (N := some 4) (v := ?_) (a' := ?_) #[true, true, true, true, true, true, true, true] rfl rfl (by kernel_rfl) (fun _ _ _ h => h) (Or.inl ⟨by rfl, ?_⟩) ?_ ?_
        rotate_left
        · intro w'
          go_simp
          with_reducible rfl
        rotate_left
        · simp only [Act.put, List.setIfInBounds_toArray, List.set_cons_zero, List.set_cons_succ, i64_w, i32_w]
          rfl
        refine done_ (by kernel_rfl) ?_

        go_wp2
        go_ret
        exact ⟨rfl, by repeat (first | (with_reducible first | exact HB.out | apply below_alloc | apply pw_below_drewN | apply below_drew1) | refine below_set ?_ (by omega))⟩
    · have t1 : decide (i < (P.length : Int)) = false := decide_eq_false hi
      have hL64 : L.length ≤ 64 := HG.out.len
      have HL1 : Aside0 (L.length ≤ 1000) := ⟨by omega⟩
      obtain ⟨Y, hY⟩ : ∃ Y, since L r = Y := ⟨_, rfl⟩
      have HYE := Aside0.mk hY
      have HYL : Aside0 (Y.length ≤ 1000) := ⟨by rw [← hY]; exact Nat.le_trans (since_len _ _) (by omega)⟩
      have HSF : Aside0 (pacesetterref08_Since.f (L.length + 1) L rev r = some Y) := ⟨by rw [since_f L rev r (by omega), hY]⟩
      clear hY
      have R__0 := blk_cell HRec.out 0
      have R__1 := blk_cell HRec.out 1
      simp only [List.getElem?_toArray, List.getElem?_cons_zero, List.getElem?_cons_succ] at R__0 R__1
      have R__z0 := blk_frozen HRec.out 0
      have R__z1 := blk_frozen HRec.out 1
      go_upto_region 21 with fail
      refine start_ (n := 8) (S := fun w' => w'.cell? ⟨gr, 0, none⟩ = some (.slice A L.length c) ∧ w'.cell? ⟨gr, 1, none⟩ = some (.int .i64 rev)) (ds := []) #[false, false, false, false, false, false, false, false] (by kernel_rfl) rfl rfl ⟨R__0, R__1⟩ (fun hHeld => ?_)
      refine pure_ (i := 0) (N := some 100) (v := ?_) (a' := ?_) #[true, false, false, false, false, false, false, false] rfl rfl (by kernel_rfl) (fun _ _ _ h => h) (Or.inl ⟨by rfl, ?_⟩) ?_ ?_
      rotate_left
      · intro w'
        go_simp
        with_reducible rfl
      rotate_left
      · simp only [Act.put, List.setIfInBounds_toArray, List.set_cons_zero, List.set_cons_succ, i64_w, i32_w]
        rfl
      refine pure_ (i := 1) (N := some 101) (v := ?_) (a' := ?_) #[true, true, false, false, false, false, false, false] rfl rfl (by kernel_rfl) (fun _ _ _ h => h) (Or.inl ⟨by rfl, ?_⟩) ?_ ?_
      rotate_left
      · intro w'
        go_simp
        with_reducible rfl
      rotate_left
      · simp only [Act.put, List.setIfInBounds_toArray, List.set_cons_zero, List.set_cons_succ, i64_w, i32_w]
        rfl
      refine pure_ (i := 4) (N := some 104) (v := ?_) (a' := ?_) #[true, true, false, false, true, false, false, false] rfl rfl (by kernel_rfl) (fun _ _ _ h => h) (Or.inl ⟨by rfl, ?_⟩) ?_ ?_
      rotate_left
      · intro w'
        go_simp
        with_reducible rfl
      rotate_left
      · simp only [Act.put, List.setIfInBounds_toArray, List.set_cons_zero, List.set_cons_succ, i64_w, i32_w]
        rfl
      refine take_ (i := 3) (N := some 103) (v := ?_) (a' := ?_) #[true, true, false, true, true, false, false, false] rfl rfl (by kernel_rfl) (fun _ _ _ h => h) (Or.inl ⟨by rfl, ?_⟩) hHeld ?_ ?_
      rotate_left
      · rintro w' ⟨s0, s1⟩
        go_simp
        with_reducible rfl
      rotate_left
      · simp only [Act.put, List.setIfInBounds_toArray, List.set_cons_zero, List.set_cons_succ, i64_w, i32_w]
        rfl
      refine one_ (i := 2) (N := some 102) #[true, true, true, true, true, false, false, false] rfl rfl (by kernel_rfl) (by simp) (fun K hK => ?_)
      refine goes_ Try.func15 (by kernel_rfl) rfl #[.pointer (some ⟨g, 0, none⟩), .int .i64 r] (by rfl) rfl rfl (by simp only [List.map_toArray, List.map_cons, List.map_nil]; rfl) ?_
      with_reducible refine (since_q g q rev L r _ ?side1 HL1.out).mono ?_
      (case side1 => exact (by repeat (with_reducible first | exact HK.out | apply Kv.alloc | apply Kv.drew | apply Kv.drewN)))
      rintro e z3 ⟨v, rfl, hGv, hb1⟩
      have n_HK : Aside0 (Kv z3 g q rev L) := ⟨Kv.below (by repeat (with_reducible first | exact HK.out | apply Kv.alloc | apply Kv.drew | apply Kv.drewN)) hb1⟩
      have n_HRec : Aside0 (IsBlk z3 gr #[.slice A L.length c, .int .i64 rev] 47) := ⟨IsBlk.below (by repeat (with_reducible first | exact HRec.out | apply IsBlk.alloc | apply IsBlk.drew | apply IsBlk.drewN)) hb1⟩
      have n_HC : Aside0 (Kd.C k72 z3 A L.length L) := ⟨Kd.C_below (by repeat (first | exact HC.out | refine Kd.C_alloc ?_ _ | refine Kd.C_drewN ?_ _ | refine Kd.C_drew ?_)) hb1⟩
      have n0 := Aside0.mk (below_step (by repeat (with_reducible first | exact HB.out | apply below_alloc | apply pw_below_drewN | apply below_drew1)) hb1)
      clear HB HK HRec HC
      have HB := n0
      clear n0
      have HK := n_HK
      clear n_HK
      have HRec := n_HRec
      clear n_HRec
      have HC := n_HC
      clear n_HC
      rw [HYE.out] at hGv
      obtain ⟨A2, c2, rfl, hkc, hks⟩ := gave_slice hGv
      have HKC := Aside0.mk hkc
      have HY := Aside0.mk hks
      clear hkc hks hGv
      refine ⟨_, rfl, ?_⟩
      refine hK.out _ _ ⟨cell_keep hb1 hHeld.1, cell_keep hb1 hHeld.2⟩ (fun hHeld => ?_)
      clear hK K
      refine norm_ (a' := ?_) ?_ ?_
      rotate_left
      · show Act.put _ (some 102) _ = _
        simp only [Act.put, List.setIfInBounds_toArray, List.set_cons_zero, List.set_cons_succ, i64_w, i32_w]
        rfl
      refine one_ (i := 5) (N := some 105) #[true, true, true, true, true, true, false, false] rfl rfl (by kernel_rfl) (by simp) (fun K hK => ?_)
      refine goes_ Try.func23 (by kernel_rfl) rfl #[.agg #[.slice A L.length c, .int .i64 rev], .int .i64 r] (by rfl) rfl rfl (by simp only [List.map_toArray, List.map_cons, List.map_nil]; rfl) ?_
      with_reducible refine (pacesetterref08_Since.calls (L.length + 1) A c L rev r Y _ ?side1 HLC.out HSF.out).mono ?_
      (case side1 => exact (by repeat (first | exact HC.out | refine Kd.C_alloc ?_ _ | refine Kd.C_drewN ?_ _ | refine Kd.C_drew ?_)))
      rintro e z4 ⟨v, rfl, hR, hb1⟩
      obtain ⟨A3, c3, rfl, hkc, hks⟩ := Kd.R_reads hR
      have n_HK : Aside0 (Kv z4 g q rev L) := ⟨Kv.below (by repeat (with_reducible first | exact HK.out | apply Kv.alloc | apply Kv.drew | apply Kv.drewN)) hb1⟩
      have n_HRec : Aside0 (IsBlk z4 gr #[.slice A L.length c, .int .i64 rev] 47) := ⟨IsBlk.below (by repeat (with_reducible first | exact HRec.out | apply IsBlk.alloc | apply IsBlk.drew | apply IsBlk.drewN)) hb1⟩
      have n_HC : Aside0 (Kd.C k72 z4 A L.length L) := ⟨Kd.C_below (by repeat (first | exact HC.out | refine Kd.C_alloc ?_ _ | refine Kd.C_drewN ?_ _ | refine Kd.C_drew ?_)) hb1⟩
      have n_HY : Aside0 (Kd.C Kd.string z4 A2 Y.length Y) := ⟨Kd.C_below (by repeat (first | exact HY.out | refine Kd.C_alloc ?_ _ | refine Kd.C_drewN ?_ _ | refine Kd.C_drew ?_)) hb1⟩
      have n0 := Aside0.mk (below_step (by repeat (with_reducible first | exact HB.out | apply below_alloc | apply pw_below_drewN | apply below_drew1)) hb1)
      clear HB HK HRec HC HY
      have HB := n0
      clear n0
      have HK := n_HK
      clear n_HK
      have HRec := n_HRec
      clear n_HRec
      have HC := n_HC
      clear n_HC
      have HY := n_HY
      clear n_HY
      have HKC3 := Aside0.mk hkc
      have HY3 := Aside0.mk hks
      clear hkc hks hR
      refine ⟨_, rfl, ?_⟩
      refine hK.out _ _ ⟨cell_keep hb1 hHeld.1, cell_keep hb1 hHeld.2⟩ (fun hHeld => ?_)
      clear hK K
      refine norm_ (a' := ?_) ?_ ?_
      rotate_left
      · show Act.put _ (some 105) _ = _
        simp only [Act.put, List.setIfInBounds_toArray, List.set_cons_zero, List.set_cons_succ, i64_w, i32_w]
        rfl
      refine one_ (i := 6) (N := some 106) #[true, true, true, true, true, true, true, false] rfl rfl (by kernel_rfl) (by simp) (fun K hK => ?_)
      refine goes_ Try.func18 (by kernel_rfl) rfl #[.slice A2 Y.length c2, .slice A3 Y.length c3] (by rfl) rfl rfl (by simp only [List.map_toArray, List.map_cons, List.map_nil]; rfl) ?_
      with_reducible refine (same_q A2 A3 c2 c3 Y _ HYL.out HY.out HKC.out HY3.out HKC3.out).mono ?_
      rintro e z5 ⟨rfl, hb1⟩
      have n_HK : Aside0 (Kv z5 g q rev L) := ⟨Kv.below (by repeat (with_reducible first | exact HK.out | apply Kv.alloc | apply Kv.drew | apply Kv.drewN)) hb1⟩
      have n_HRec : Aside0 (IsBlk z5 gr #[.slice A L.length c, .int .i64 rev] 47) := ⟨IsBlk.below (by repeat (with_reducible first | exact HRec.out | apply IsBlk.alloc | apply IsBlk.drew | apply IsBlk.drewN)) hb1⟩
      have n_HC : Aside0 (Kd.C k72 z5 A L.length L) := ⟨Kd.C_below (by repeat (first | exact HC.out | refine Kd.C_alloc ?_ _ | refine Kd.C_drewN ?_ _ | refine Kd.C_drew ?_)) hb1⟩
      have n0 := Aside0.mk (below_step (by repeat (with_reducible first | exact HB.out | apply below_alloc | apply pw_below_drewN | apply below_drew1)) hb1)
      clear HB HK HRec HC
      have HB := n0
      clear n0
      have HK := n_HK
      clear n_HK
      have HRec := n_HRec
      clear n_HRec
      have HC := n_HC
      clear n_HC
      refine ⟨_, rfl, ?_⟩
      refine hK.out _ _ ⟨cell_keep hb1 hHeld.1, cell_keep hb1 hHeld.2⟩ (fun hHeld => ?_)
      clear hK K
      refine norm_ (a' := ?_) ?_ ?_
      rotate_left
      · show Act.put _ (some 106) _ = _
        simp only [Act.put, List.setIfInBounds_toArray, List.set_cons_zero, List.set_cons_succ, i64_w, i32_w]
        rfl
      refine pure_ (i := 7) (N := some 4) (v := ?_) (a' := ?_) #[true, true, true, true, true, true, true, true] rfl rfl (by kernel_rfl) (fun _ _ _ h => h) (Or.inl ⟨by rfl, ?_⟩) ?_ ?_
      rotate_left
      · intro w'
        go_simp
        with_reducible rfl
      rotate_left
      · simp only [Act.put, List.setIfInBounds_toArray, List.set_cons_zero, List.set_cons_succ, i64_w, i32_w]
        rfl
      refine done_ (by kernel_rfl) ?_

      go_wp2
      go_ret
      exact ⟨rfl, by repeat (first | (with_reducible first | exact HB.out | apply below_alloc | apply pw_below_drewN | apply below_drew1) | refine below_set ?_ (by omega))⟩
theorem walk (A0 : Option Addr) (c0 : Nat) (l : List (List K15.Tup)) (r : Int) (W : World) (hr : O.Rowz (K15.Is31 W) 1 W A0 l) (hc : l.length ≤ c0) (hw : (Lit.int .i64 r).wf = true) :
    Calls Try.prog 5 #[.slice A0 l.length c0, .int .i64 r] W fun e w' => e = .returned (.bool true) ∧ Below W.heap.size W w' := by
  have h := K15.rows_of hr
  have hn : (l.map fun p => p.map K12.mk42).length = l.length := List.length_map _
  have := plays_q A0 c0 (l.map fun p => p.map K12.mk42) r W h (by rw [hn]; exact hc)
  rw [hn] at this
  exact this
end Go.Proofs.Ytnmnojapacflgaa.WalkKvPlays
