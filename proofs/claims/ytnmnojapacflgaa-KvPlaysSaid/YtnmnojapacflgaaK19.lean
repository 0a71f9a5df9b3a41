/-
  Proved here: like says true of a store and of the reference's record of the same list. No condition but short lists and how they read.
-/
import Derived.Test.YtnmnojapacflgaaK18
namespace Go.Proofs.Ytnmnojapacflgaa.K19
open Go.Proofs.Ytnmnojapacflgaa.M Go.Proofs.Ytnmnojapacflgaa.K0 Go.RowKit Go.Maps Go.Sort Go.Proofs.YtnmnojapacflgaaW.PrintWords Go.Proofs.YtnmnojapacflgaaW.PrintLast Go.Proofs.YtnmnojapacflgaaW.PrintMore Go.Proofs.Ytnmnojapacflgaa.PKvPlays Go.Proofs.Ytnmnojapacflgaa.K1 Go.Proofs.Ytnmnojapacflgaa.K2 Go.Proofs.Ytnmnojapacflgaa.K3 Go.Proofs.Ytnmnojapacflgaa.K4 Go.Proofs.Ytnmnojapacflgaa.K5 Go.Proofs.Ytnmnojapacflgaa.K6 Go.Proofs.Ytnmnojapacflgaa.K9 Go.Proofs.Ytnmnojapacflgaa.K10 Go.Proofs.Ytnmnojapacflgaa.K12 Go.Proofs.Ytnmnojapacflgaa.K14 Go.Proofs.Ytnmnojapacflgaa.K15 Go.Proofs.Ytnmnojapacflgaa.K17 Go.Proofs.Ytnmnojapacflgaa.K18
set_option linter.unusedVariables false
set_option linter.unusedSimpArgs false
attribute [local go_sem] max2_int min2_int max_two min_two run_makeMap field_entry
theorem el72 {w : World} {A : Option Addr} {L : List S72} (h : Kd.C k72 w A L.length L) (i : Int) (h0 : 0 ≤ i) (h1 : i < L.length) : ∃ (kb ko : Nat), A = some ⟨kb, ko, none⟩ ∧ kb < w.heap.size ∧ w.cell? ⟨kb, ko + i.toNat * 3, none⟩ = some (.string (L.getD i.toNat z72).f0) ∧ w.cell? ⟨kb, ko + i.toNat * 3 + 1, none⟩ = some (.string (L.getD i.toNat z72).f1) ∧ w.cell? ⟨kb, ko + i.toNat * 3 + 2, none⟩ = some (.int .i64 (L.getD i.toNat z72).f2) := by
  obtain ⟨ad, c, e, _, hK, hc⟩ := Kd.C_get h z72 i h0 h1
  obtain ⟨ad2, c2, e2, _, hK2, hc2⟩ := Kd.C_get h z72 0 (by decide) (by omega)
  rw [e] at e2
  cases e2
  obtain rfl := k72_open hK
  obtain rfl := k72_open hK2
  have hz := hc2 0 _ rfl
  have hsp := World.cell?_spot (show w.cell? ad = _ from hz)
  obtain ⟨b, o, sp⟩ := ad
  subst hsp
  have hadd : ∀ j, (⟨b, o, none⟩ : Addr).add (i.toNat * k72.sz + j) = ⟨b, o + i.toNat * 3 + j, none⟩ := fun j => by
    rw [show k72.sz = 3 from rfl, Nat.add_assoc]
    unfold Addr.add
    split <;> simp_all
  have z0 := hc 0 _ rfl
  have z1 := hc 1 _ rfl
  have z2 := hc 2 _ rfl
  rw [hadd] at z0 z1 z2
  rw [Nat.add_zero] at z0
  exact ⟨b, o, e, World.block_lt_of_cell? w _ z0, z0, z1, z2⟩
set_option maxHeartbeats 8000000 in
set_option maxRecDepth 100000 in
theorem like_q (g q : Nat) (n rev : Int) (L : List S72) (A : Option Addr) (c : Nat) (w : World) (h : Kv w g q rev L) (hg : K14.Good n rev L) (hC : Kd.C k72 w A L.length L) (hc : L.length ≤ c) : Calls Try.prog 21 #[.pointer (some ⟨g, 0, none⟩), .agg #[.slice A L.length c, .int .i64 rev]] w fun e w' => e = .returned (.bool true) ∧ Below w.heap.size w w' := by
  have HB := Aside0.mk (Below.refl w.heap.size w)
  have HG := Aside0.mk hg
  have HK := Aside0.mk h
  have HC := Aside0.mk hC
  have HLC := Aside0.mk hc
  have hL64 := hg.len
  have HL1 : Aside0 (L.length ≤ 1000) := ⟨by omega⟩
  obtain ⟨Y, hY⟩ : ∃ Y, since L 0 = Y := ⟨_, rfl⟩
  have HYE := Aside0.mk hY
  have hYn : Y.length = L.length := by rw [← hY, since_all hg, List.length_map]
  have HYL : Aside0 (Y.length ≤ 1000) := ⟨by omega⟩
  have HSF : Aside0 (pacesetterref08_Since.f (L.length + 1) L rev 0 = some Y) := ⟨by rw [since_f L rev 0 (by omega), hY]⟩
  have hlen := fun w h => len_q g q rev L w h HL1.out
  rw [hY, hYn] at hlen
  have HLN := Aside0.mk hlen
  have hn1 : (rev != rev) = false := by simp
  have hn2 : ((L.length : Int) != (L.length : Int)) = false := by simp
  clear h hg hC hc hY hYn hlen
  go_enter Try.func21, Try.ntmps21
  go_upto_region 1 with fail
  have HS : Aside0 (IsBlk (w.alloc (.cells #[.slice A L.length c, .int .i64 rev] 47)) w.heap.size #[.slice A L.length c, .int .i64 rev] 47) := ⟨IsBlk.new _ _ rfl⟩
  have HK2 : Aside0 (Kv (w.alloc (.cells #[.slice A L.length c, .int .i64 rev] 47)) g q rev L) := ⟨HK.out.alloc _⟩
  have HC2 : Aside0 (Kd.C k72 (w.alloc (.cells #[.slice A L.length c, .int .i64 rev] 47)) A L.length L) := ⟨Kd.C_alloc HC.out _⟩
  have HB2 : Aside0 (Below w.heap.size w (w.alloc (.cells #[.slice A L.length c, .int .i64 rev] 47))) := ⟨by repeat (first | (with_reducible first | exact HB.out | apply below_alloc | apply pw_below_drewN | apply below_drew1) | refine below_set ?_ (by omega))⟩
  clear HK HB HC
  have HK := HK2
  have HB := HB2
  have HC := HC2
  clear HK2 HB2 HC2
  generalize (w.alloc (.cells #[.slice A L.length c, .int .i64 rev] 47)) = w1 at *
  have S_0 := blk_cell HS.out 0
  have S_1 := blk_cell HS.out 1
  simp only [List.getElem?_toArray, List.getElem?_cons_zero, List.getElem?_cons_succ] at S_0 S_1
  have S_z0 := blk_frozen HS.out 0
  have S_z1 := blk_frozen HS.out 1
  refine start_ (n := 21) (S := fun w' => w'.cell? ⟨w.heap.size, 0, none⟩ = some (.slice A L.length c) ∧ w'.cell? ⟨w.heap.size, 1, none⟩ = some (.int .i64 rev)) (ds := []) #[false, false, false, false, false, false, false, false, false, false, false, false, false, false, false, false, false, false, false, false, false] (by kernel_rfl) rfl rfl ⟨S_0, S_1⟩ (fun hHeld => ?_)
  refine pure_ (i := 0) (N := some 8) (v := ?_) (a' := ?_) #[true, false, false, false, false, false, false, false, false, false, false, false, false, false, false, false, false, false, false, false, false] rfl rfl (by kernel_rfl) (fun _ _ _ h => h) (Or.inl ⟨by rfl, ?_⟩) ?_ ?_
  rotate_left
  · intro w'
    go_simp
    with_reducible rfl
  rotate_left
  · simp only [Act.put, List.setIfInBounds_toArray, List.set_cons_zero, List.set_cons_succ, i64_w, i32_w]
    rfl
  refine pure_ (i := 2) (N := some 10) (v := ?_) (a' := ?_) #[true, false, true, false, false, false, false, false, false, false, false, false, false, false, false, false, false, false, false, false, false] rfl rfl (by kernel_rfl) (fun _ _ _ h => h) (Or.inl ⟨by rfl, ?_⟩) ?_ ?_
  rotate_left
  · intro w'
    go_simp
    with_reducible rfl
  rotate_left
  · simp only [Act.put, List.setIfInBounds_toArray, List.set_cons_zero, List.set_cons_succ, i64_w, i32_w]
    rfl
  refine take_ (i := 3) (N := some 11) (v := ?_) (a' := ?_) #[true, false, true, true, false, false, false, false, false, false, false, false, false, false, false, false, false, false, false, false, false] rfl rfl (by kernel_rfl) (fun _ _ _ h => h) (Or.inl ⟨by rfl, ?_⟩) hHeld ?_ ?_
  rotate_left
  · rintro w' ⟨s0, s1⟩
    go_simp
    with_reducible rfl
  rotate_left
  · simp only [Act.put, List.setIfInBounds_toArray, List.set_cons_zero, List.set_cons_succ, i64_w, i32_w]
    rfl
  refine one_ (i := 1) (N := some 9) #[true, true, true, true, false, false, false, false, false, false, false, false, false, false, false, false, false, false, false, false, false] rfl rfl (by kernel_rfl) (by simp) (fun K hK => ?_)
  refine goes_ Try.func17 (by kernel_rfl) rfl #[.pointer (some ⟨g, 0, none⟩)] (by rfl) rfl rfl (by simp only [List.map_toArray, List.map_cons, List.map_nil]; rfl) ?_
  with_reducible refine (rev_q g q rev L _ ?side1).mono ?_
  (case side1 => exact (by repeat (with_reducible first | exact HK.out | apply Kv.alloc | apply Kv.drew | apply Kv.drewN)))
  rintro e z1 ⟨rfl, hb1⟩
  have n_HK : Aside0 (Kv z1 g q rev L) := ⟨Kv.below (by repeat (with_reducible first | exact HK.out | apply Kv.alloc | apply Kv.drew | apply Kv.drewN)) hb1⟩
  have n_HS : Aside0 (IsBlk z1 w.heap.size #[.slice A L.length c, .int .i64 rev] 47) := ⟨IsBlk.below (by repeat (with_reducible first | exact HS.out | apply IsBlk.alloc | apply IsBlk.drew | apply IsBlk.drewN)) hb1⟩
  have n_HC : Aside0 (Kd.C k72 z1 A L.length L) := ⟨Kd.C_below (by repeat (first | exact HC.out | refine Kd.C_alloc ?_ _ | refine Kd.C_drewN ?_ _ | refine Kd.C_drew ?_)) hb1⟩
  have n0 := Aside0.mk (below_step (by repeat (with_reducible first | exact HB.out | apply below_alloc | apply pw_below_drewN | apply below_drew1)) hb1)
  clear HB HK HS HC
  have HB := n0
  clear n0
  have HK := n_HK
  clear n_HK
  have HS := n_HS
  clear n_HS
  have HC := n_HC
  clear n_HC
  refine ⟨_, rfl, ?_⟩
  refine hK.out _ _ ⟨cell_keep hb1 hHeld.1, cell_keep hb1 hHeld.2⟩ (fun hHeld => ?_)
  clear hK K
  refine norm_ (a' := ?_) ?_ ?_
  rotate_left
  · show Act.put _ (some 9) _ = _
    simp only [Act.put, List.setIfInBounds_toArray, List.set_cons_zero, List.set_cons_succ, i64_w, i32_w]
    rfl
  refine pure_ (i := 4) (N := some 12) (v := ?_) (a' := ?_) #[true, true, true, true, true, false, false, false, false, false, false, false, false, false, false, false, false, false, false, false, false] rfl rfl (by kernel_rfl) (fun _ _ _ h => h) (Or.inl ⟨by rfl, ?_⟩) ?_ ?_
  rotate_left
  · intro w'
    go_simp
    with_reducible rfl
  rotate_left
  · simp only [Act.put, List.setIfInBounds_toArray, List.set_cons_zero, List.set_cons_succ, i64_w, i32_w]
    rfl
  refine pure_ (i := 5) (N := some 13) (v := ?_) (a' := ?_) #[true, true, true, true, true, true, false, false, false, false, false, false, false, false, false, false, false, false, false, false, false] rfl rfl (by kernel_rfl) (fun _ _ _ h => h) (Or.inl ⟨by rfl, ?_⟩) ?_ ?_
  rotate_left
  · intro w'
    go_simp
    with_reducible rfl
  rotate_left
  · simp only [Act.put, List.setIfInBounds_toArray, List.set_cons_zero, List.set_cons_succ, i64_w, i32_w]
    rfl
  refine pure_ (i := 6) (N := some 14) (v := ?_) (a' := ?_) #[true, true, true, true, true, true, true, false, false, false, false, false, false, false, false, false, false, false, false, false, false] rfl rfl (by kernel_rfl) (fun _ _ _ h => h) (Or.inl ⟨by rfl, ?_⟩) ?_ ?_
  rotate_left
  · intro w'
    go_simp
    with_reducible rfl
  rotate_left
  · simp only [Act.put, List.setIfInBounds_toArray, List.set_cons_zero, List.set_cons_succ, i64_w, i32_w]
    rfl
  refine pure_ (i := 8) (N := some 16) (v := ?_) (a' := ?_) #[true, true, true, true, true, true, true, false, true, false, false, false, false, false, false, false, false, false, false, false, false] rfl rfl (by kernel_rfl) (fun _ _ _ h => h) (Or.inl ⟨by rfl, ?_⟩) ?_ ?_
  rotate_left
  · intro w'
    go_simp
    with_reducible rfl
  rotate_left
  · simp only [Act.put, List.setIfInBounds_toArray, List.set_cons_zero, List.set_cons_succ, i64_w, i32_w]
    rfl
  refine take_ (i := 9) (N := some 17) (v := ?_) (a' := ?_) #[true, true, true, true, true, true, true, false, true, true, false, false, false, false, false, false, false, false, false, false, false] rfl rfl (by kernel_rfl) (fun _ _ _ h => h) (Or.inl ⟨by rfl, ?_⟩) hHeld ?_ ?_
  rotate_left
  · rintro w' ⟨s0, s1⟩
    go_simp
    with_reducible rfl
  rotate_left
  · simp only [Act.put, List.setIfInBounds_toArray, List.set_cons_zero, List.set_cons_succ, i64_w, i32_w]
    rfl
  refine pure_ (i := 10) (N := some 18) (v := ?_) (a' := ?_) #[true, true, true, true, true, true, true, false, true, true, true, false, false, false, false, false, false, false, false, false, false] rfl rfl (by kernel_rfl) (fun _ _ _ h => h) (Or.inl ⟨by rfl, ?_⟩) ?_ ?_
  rotate_left
  · intro w'
    go_simp
    with_reducible rfl
  rotate_left
  · simp only [Act.put, List.setIfInBounds_toArray, List.set_cons_zero, List.set_cons_succ, i64_w, i32_w]
    rfl
  refine one_ (i := 7) (N := some 15) #[true, true, true, true, true, true, true, true, true, true, true, false, false, false, false, false, false, false, false, false, false] rfl rfl (by kernel_rfl) (by simp) (fun K hK => ?_)
  refine goes_ Try.func24 (by kernel_rfl) rfl #[.pointer (some ⟨g, 0, none⟩)] (by rfl) rfl rfl (by simp only [List.map_toArray, List.map_cons, List.map_nil]; rfl) ?_
  with_reducible refine (HLN.out _ ?side1).mono ?_
  (case side1 => exact (by repeat (with_reducible first | exact HK.out | apply Kv.alloc | apply Kv.drew | apply Kv.drewN)))
  rintro e z2 ⟨rfl, hb1⟩
  have n_HK : Aside0 (Kv z2 g q rev L) := ⟨Kv.below (by repeat (with_reducible first | exact HK.out | apply Kv.alloc | apply Kv.drew | apply Kv.drewN)) hb1⟩
  have n_HS : Aside0 (IsBlk z2 w.heap.size #[.slice A L.length c, .int .i64 rev] 47) := ⟨IsBlk.below (by repeat (with_reducible first | exact HS.out | apply IsBlk.alloc | apply IsBlk.drew | apply IsBlk.drewN)) hb1⟩
  have n_HC : Aside0 (Kd.C k72 z2 A L.length L) := ⟨Kd.C_below (by repeat (first | exact HC.out | refine Kd.C_alloc ?_ _ | refine Kd.C_drewN ?_ _ | refine Kd.C_drew ?_)) hb1⟩
  have n0 := Aside0.mk (below_step (by repeat (with_reducible first | exact HB.out | apply below_alloc | apply pw_below_drewN | apply below_drew1)) hb1)
  clear HB HK HS HC
  have HB := n0
  clear n0
  have HK := n_HK
  clear n_HK
  have HS := n_HS
  clear n_HS
  have HC := n_HC
  clear n_HC
  refine ⟨_, rfl, ?_⟩
  refine hK.out _ _ ⟨cell_keep hb1 hHeld.1, cell_keep hb1 hHeld.2⟩ (fun hHeld => ?_)
  clear hK K
  refine norm_ (a' := ?_) ?_ ?_
  rotate_left
  · show Act.put _ (some 15) _ = _
    simp only [Act.put, List.setIfInBounds_toArray, List.set_cons_zero, List.set_cons_succ, i64_w, i32_w]
    rfl
  refine pure_ (i := 11) (N := some 19) (v := ?_) (a' := ?_) #[true, true, true, true, true, true, true, true, true, true, true, true, false, false, false, false, false, false, false, false, false] rfl rfl (by kernel_rfl) (fun _ _ _ h => h) (Or.inl ⟨by rfl, ?_⟩) ?_ ?_
  rotate_left
  · intro w'
    go_simp
    with_reducible rfl
  rotate_left
  · simp only [Act.put, List.setIfInBounds_toArray, List.set_cons_zero, List.set_cons_succ, i64_w, i32_w]
    rfl
  refine pure_ (i := 12) (N := some 20) (v := ?_) (a' := ?_) #[true, true, true, true, true, true, true, true, true, true, true, true, true, false, false, false, false, false, false, false, false] rfl rfl (by kernel_rfl) (fun _ _ _ h => h) (Or.inl ⟨by rfl, ?_⟩) ?_ ?_
  rotate_left
  · intro w'
    go_simp
    with_reducible rfl
  rotate_left
  · simp only [Act.put, List.setIfInBounds_toArray, List.set_cons_zero, List.set_cons_succ, i64_w, i32_w]
    rfl
  refine pure_ (i := 13) (N := some 21) (v := ?_) (a' := ?_) #[true, true, true, true, true, true, true, true, true, true, true, true, true, true, false, false, false, false, false, false, false] rfl rfl (by kernel_rfl) (fun _ _ _ h => h) (Or.inl ⟨by rfl, ?_⟩) ?_ ?_
  rotate_left
  · intro w'
    go_simp
    with_reducible rfl
  rotate_left
  · simp only [Act.put, List.setIfInBounds_toArray, List.set_cons_zero, List.set_cons_succ, i64_w, i32_w]
    rfl
  refine pure_ (i := 14) (N := some 22) (v := ?_) (a' := ?_) #[true, true, true, true, true, true, true, true, true, true, true, true, true, true, true, false, false, false, false, false, false] rfl rfl (by kernel_rfl) (fun _ _ _ h => h) (Or.inl ⟨by rfl, ?_⟩) ?_ ?_
  rotate_left
  · intro w'
    go_simp
    with_reducible rfl
  rotate_left
  · simp only [Act.put, List.setIfInBounds_toArray, List.set_cons_zero, List.set_cons_succ, i64_w, i32_w]
    rfl
  refine take_ (i := 16) (N := some 24) (v := ?_) (a' := ?_) #[true, true, true, true, true, true, true, true, true, true, true, true, true, true, true, false, true, false, false, false, false] rfl rfl (by kernel_rfl) (fun _ _ _ h => h) (Or.inl ⟨by rfl, ?_⟩) hHeld ?_ ?_
  rotate_left
  · rintro w' ⟨s0, s1⟩
    go_simp
    with_reducible rfl
  rotate_left
  · simp only [Act.put, List.setIfInBounds_toArray, List.set_cons_zero, List.set_cons_succ, i64_w, i32_w]
    rfl
  refine one_ (i := 15) (N := some 23) #[true, true, true, true, true, true, true, true, true, true, true, true, true, true, true, true, true, false, false, false, false] rfl rfl (by kernel_rfl) (by simp) (fun K hK => ?_)
  refine goes_ Try.func14 (by kernel_rfl) rfl #[.pointer (some ⟨g, 0, none⟩)] (by rfl) rfl rfl (by simp only [List.map_toArray, List.map_cons, List.map_nil]; rfl) ?_
  with_reducible refine (keys_q g q rev L _ ?side1 HL1.out).mono ?_
  (case side1 => exact (by repeat (with_reducible first | exact HK.out | apply Kv.alloc | apply Kv.drew | apply Kv.drewN)))
  rintro e z3 ⟨v, rfl, hGv, hb1⟩
  have n_HK : Aside0 (Kv z3 g q rev L) := ⟨Kv.below (by repeat (with_reducible first | exact HK.out | apply Kv.alloc | apply Kv.drew | apply Kv.drewN)) hb1⟩
  have n_HS : Aside0 (IsBlk z3 w.heap.size #[.slice A L.length c, .int .i64 rev] 47) := ⟨IsBlk.below (by repeat (with_reducible first | exact HS.out | apply IsBlk.alloc | apply IsBlk.drew | apply IsBlk.drewN)) hb1⟩
  have n_HC : Aside0 (Kd.C k72 z3 A L.length L) := ⟨Kd.C_below (by repeat (first | exact HC.out | refine Kd.C_alloc ?_ _ | refine Kd.C_drewN ?_ _ | refine Kd.C_drew ?_)) hb1⟩
  have n0 := Aside0.mk (below_step (by repeat (with_reducible first | exact HB.out | apply below_alloc | apply pw_below_drewN | apply below_drew1)) hb1)
  clear HB HK HS HC
  have HB := n0
  clear n0
  have HK := n_HK
  clear n_HK
  have HS := n_HS
  clear n_HS
  have HC := n_HC
  clear n_HC
  rw [HYE.out] at hGv
  obtain ⟨A2, c2, rfl, hkc, hks⟩ := gave_slice hGv
  have HKC := Aside0.mk hkc
  have HY := Aside0.mk hks
  clear hkc hks hGv
  refine ⟨_, rfl, ?_⟩
  refine hK.out _ _ ⟨cell_keep hb1 hHeld.1, cell_keep hb1 hHeld.2⟩ (fun hHeld => ?_)
  clear hK K
  refine norm_ (a' := ?_) ?_ ?_
  rotate_left
  · show Act.put _ (some 23) _ = _
    simp only [Act.put, List.setIfInBounds_toArray, List.set_cons_zero, List.set_cons_succ, i64_w, i32_w]
    rfl
  refine one_ (i := 17) (N := some 25) #[true, true, true, true, true, true, true, true, true, true, true, true, true, true, true, true, true, true, false, false, false] rfl rfl (by kernel_rfl) (by simp) (fun K hK => ?_)
  refine goes_ Try.func23 (by kernel_rfl) rfl #[.agg #[.slice A L.length c, .int .i64 rev], .int .i64 0] (by rfl) rfl rfl (by simp only [List.map_toArray, List.map_cons, List.map_nil]; rfl) ?_
  with_reducible refine (pacesetterref08_Since.calls (L.length + 1) A c L rev 0 Y _ ?side1 HLC.out HSF.out).mono ?_
  (case side1 => exact (by repeat (first | exact HC.out | refine Kd.C_alloc ?_ _ | refine Kd.C_drewN ?_ _ | refine Kd.C_drew ?_)))
  rintro e z4 ⟨v, rfl, hR, hb1⟩
  obtain ⟨A3, c3, rfl, hkc, hks⟩ := Kd.R_reads hR
  have n_HK : Aside0 (Kv z4 g q rev L) := ⟨Kv.below (by repeat (with_reducible first | exact HK.out | apply Kv.alloc | apply Kv.drew | apply Kv.drewN)) hb1⟩
  have n_HS : Aside0 (IsBlk z4 w.heap.size #[.slice A L.length c, .int .i64 rev] 47) := ⟨IsBlk.below (by repeat (with_reducible first | exact HS.out | apply IsBlk.alloc | apply IsBlk.drew | apply IsBlk.drewN)) hb1⟩
  have n_HC : Aside0 (Kd.C k72 z4 A L.length L) := ⟨Kd.C_below (by repeat (first | exact HC.out | refine Kd.C_alloc ?_ _ | refine Kd.C_drewN ?_ _ | refine Kd.C_drew ?_)) hb1⟩
  have n_HY : Aside0 (Kd.C Kd.string z4 A2 Y.length Y) := ⟨Kd.C_below (by repeat (first | exact HY.out | refine Kd.C_alloc ?_ _ | refine Kd.C_drewN ?_ _ | refine Kd.C_drew ?_)) hb1⟩
  have n0 := Aside0.mk (below_step (by repeat (with_reducible first | exact HB.out | apply below_alloc | apply pw_below_drewN | apply below_drew1)) hb1)
  clear HB HK HS HC HY
  have HB := n0
  clear n0
  have HK := n_HK
  clear n_HK
  have HS := n_HS
  clear n_HS
  have HC := n_HC
  clear n_HC
  have HY := n_HY
  clear n_HY
  have HKC3 := Aside0.mk hkc
  have HY3 := Aside0.mk hks
  clear hkc hks hR
  refine ⟨_, rfl, ?_⟩
  refine hK.out _ _ ⟨cell_keep hb1 hHeld.1, cell_keep hb1 hHeld.2⟩ (fun hHeld => ?_)
  clear hK K
  refine norm_ (a' := ?_) ?_ ?_
  rotate_left
  · show Act.put _ (some 25) _ = _
    simp only [Act.put, List.setIfInBounds_toArray, List.set_cons_zero, List.set_cons_succ, i64_w, i32_w]
    rfl
  refine one_ (i := 18) (N := some 26) #[true, true, true, true, true, true, true, true, true, true, true, true, true, true, true, true, true, true, true, false, false] rfl rfl (by kernel_rfl) (by simp) (fun K hK => ?_)
  refine goes_ Try.func18 (by kernel_rfl) rfl #[.slice A2 Y.length c2, .slice A3 Y.length c3] (by rfl) rfl rfl (by simp only [List.map_toArray, List.map_cons, List.map_nil]; rfl) ?_
  with_reducible refine (same_q A2 A3 c2 c3 Y _ HYL.out HY.out HKC.out HY3.out HKC3.out).mono ?_
  rintro e z5 ⟨rfl, hb1⟩
  have n_HK : Aside0 (Kv z5 g q rev L) := ⟨Kv.below (by repeat (with_reducible first | exact HK.out | apply Kv.alloc | apply Kv.drew | apply Kv.drewN)) hb1⟩
  have n_HS : Aside0 (IsBlk z5 w.heap.size #[.slice A L.length c, .int .i64 rev] 47) := ⟨IsBlk.below (by repeat (with_reducible first | exact HS.out | apply IsBlk.alloc | apply IsBlk.drew | apply IsBlk.drewN)) hb1⟩
  have n_HC : Aside0 (Kd.C k72 z5 A L.length L) := ⟨Kd.C_below (by repeat (first | exact HC.out | refine Kd.C_alloc ?_ _ | refine Kd.C_drewN ?_ _ | refine Kd.C_drew ?_)) hb1⟩
  have n0 := Aside0.mk (below_step (by repeat (with_reducible first | exact HB.out | apply below_alloc | apply pw_below_drewN | apply below_drew1)) hb1)
  clear HB HK HS HC
  have HB := n0
  clear n0
  have HK := n_HK
  clear n_HK
  have HS := n_HS
  clear n_HS
  have HC := n_HC
  clear n_HC
  refine ⟨_, rfl, ?_⟩
  refine hK.out _ _ ⟨cell_keep hb1 hHeld.1, cell_keep hb1 hHeld.2⟩ (fun hHeld => ?_)
  clear hK K
  refine norm_ (a' := ?_) ?_ ?_
  rotate_left
  · show Act.put _ (some 26) _ = _
    simp only [Act.put, List.setIfInBounds_toArray, List.set_cons_zero, List.set_cons_succ, i64_w, i32_w]
    rfl
  refine pure_ (i := 19) (N := some 27) (v := ?_) (a' := ?_) #[true, true, true, true, true, true, true, true, true, true, true, true, true, true, true, true, true, true, true, true, false] rfl rfl (by kernel_rfl) (fun _ _ _ h => h) (Or.inl ⟨by rfl, ?_⟩) ?_ ?_
  rotate_left
  · intro w'
    go_simp
    with_reducible rfl
  rotate_left
  · simp only [Act.put, List.setIfInBounds_toArray, List.set_cons_zero, List.set_cons_succ, i64_w, i32_w]
    rfl
  refine pure_ (i := 20) (N := some 28) (v := ?_) (a' := ?_) #[true, true, true, true, true, true, true, true, true, true, true, true, true, true, true, true, true, true, true, true, true] rfl rfl (by kernel_rfl) (fun _ _ _ h => h) (Or.inl ⟨by rfl, ?_⟩) ?_ ?_
  rotate_left
  · intro w'
    go_simp
    with_reducible rfl
  rotate_left
  · simp only [Act.put, List.setIfInBounds_toArray, List.set_cons_zero, List.set_cons_succ, i64_w, i32_w]
    rfl
  refine done_ (by kernel_rfl) ?_

  clear S_0 S_1 S_z0 S_z1 hn1 hn2 HY HY3 HKC HKC3
  go_wp2_with fail
  go_loopw [5] (fun v5 wr => ∃ (i : Int), v5 = .int .i64 i ∧ Aside0 (0 ≤ i ∧ i ≤ L.length) ∧ Aside0 (Kv wr g q rev L) ∧ Aside0 (IsBlk wr w.heap.size #[.slice A L.length c, .int .i64 rev] 47) ∧ Aside0 (Kd.C k72 wr A L.length L) ∧ Aside0 (Below w.heap.size w wr)) (fun v5 _ => (L.length + 5 - intOf v5).toNat)
  case atStart => exact ⟨0, rfl, ⟨by omega⟩, HK, HS, HC, ⟨by repeat (first | (with_reducible first | exact HB.out | apply below_alloc | apply pw_below_drewN | apply below_drew1) | refine below_set ?_ (by omega))⟩⟩
  case round =>
    clear HB HK HS HC
    obtain ⟨i, rfl, HI, HK, HS, HC, HB⟩ := hrel
    obtain ⟨wz, hwz⟩ : ∃ x, x = wr := ⟨_, rfl⟩
    subst hwz
    have S_0 := blk_cell HS.out 0
    have S_1 := blk_cell HS.out 1
    simp only [List.getElem?_toArray, List.getElem?_cons_zero, List.getElem?_cons_succ] at S_0 S_1
    have S_z0 := blk_frozen HS.out 0
    have S_z1 := blk_frozen HS.out 1
    by_cases hi : i < L.length
    · have t1 : decide (i < (L.length : Int)) = true := decide_eq_true hi
      have hi0 : 0 ≤ i := HI.out.1
      obtain ⟨kb, ko, rfl, hkb, ck0, ck1, ck2⟩ := el72 HC.out i hi0 hi
      obtain ⟨⟨kk, vv, rr⟩, he⟩ : ∃ e, L.getD i.toNat z72 = e := ⟨_, rfl⟩
      rw [he] at ck0 ck1 ck2
      dsimp only at ck0 ck1 ck2
      have hmem : (⟨kk, vv, rr⟩ : S72) ∈ L := by rw [← he, List.getD_eq_getElem?_getD, List.getElem?_eq_getElem (by omega)]; exact List.getElem_mem (by omega)
      have hlook := look_self HK.out.map.rise hmem
      have hgt := fun w h => get_q g q rev L kk (key_le HK.out.map _ hmem) w h
      dsimp only at hlook
      rw [hlook] at hgt
      clear he hmem hlook
      go_wp2_with fail
      refine (hgt _ HK.out).mono ?_
      rintro e w3 ⟨rfl, hb1⟩
      replace ck1 := (hb1.cell (World.block_lt_of_cell? _ _ ck1)).trans ck1
      replace ck2 := (hb1.cell (World.block_lt_of_cell? _ _ ck2)).trans ck2
      have HKn := Aside0.mk (HK.out.below hb1)
      have HSn := Aside0.mk (IsBlk.below HS.out hb1)
      have HCn := Aside0.mk (Kd.C_below HC.out hb1)
      have n0 := Aside0.mk (below_step (by repeat (first | (with_reducible first | exact HB.out | apply below_alloc | apply pw_below_drewN | apply below_drew1) | refine below_set ?_ (by omega))) hb1)
      clear HB hb1
      have HB := n0
      clear n0
      clear HK HS HC S_0 S_1 S_z0 S_z1 hgt ck0
      have HK := HKn
      have HS := HSn
      have HC := HCn
      clear HKn HSn HCn
      have S_0 := blk_cell HS.out 0
      have S_1 := blk_cell HS.out 1
      simp only [List.getElem?_toArray, List.getElem?_cons_zero, List.getElem?_cons_succ] at S_0 S_1
      have S_z0 := blk_frozen HS.out 0
      have S_z1 := blk_frozen HS.out 1
      go_wp2
      exact ⟨⟨i + 1, rfl, ⟨by omega⟩, HK, HS, HC, ⟨by repeat (first | (with_reducible first | exact HB.out | apply below_alloc | apply pw_below_drewN | apply below_drew1) | refine below_set ?_ (by omega))⟩⟩, by simp only [intOf]; omega⟩
    · have t1 : decide (i < (L.length : Int)) = false := decide_eq_false hi
      go_wp2
      go_ret
      exact ⟨rfl, by repeat (first | (with_reducible first | exact HB.out | apply below_alloc | apply pw_below_drewN | apply below_drew1) | refine below_set ?_ (by omega))⟩
end Go.Proofs.Ytnmnojapacflgaa.K19
