/-
  Proved here: what the reference's Do answers: the same as Do of the store. No condition but short lists and how the slices read.
-/
import Derived.Test.YtnmnojapacflgaaK17
namespace Go.Proofs.Ytnmnojapacflgaa.K18
open Go.Proofs.Ytnmnojapacflgaa.M Go.Proofs.Ytnmnojapacflgaa.K0 Go.RowKit Go.Maps Go.Sort Go.Proofs.YtnmnojapacflgaaW.PrintWords Go.Proofs.YtnmnojapacflgaaW.PrintLast Go.Proofs.YtnmnojapacflgaaW.PrintMore Go.Proofs.Ytnmnojapacflgaa.PKvPlays Go.Proofs.Ytnmnojapacflgaa.K1 Go.Proofs.Ytnmnojapacflgaa.K2 Go.Proofs.Ytnmnojapacflgaa.K3 Go.Proofs.Ytnmnojapacflgaa.K4 Go.Proofs.Ytnmnojapacflgaa.K5 Go.Proofs.Ytnmnojapacflgaa.K6 Go.Proofs.Ytnmnojapacflgaa.K9 Go.Proofs.Ytnmnojapacflgaa.K10 Go.Proofs.Ytnmnojapacflgaa.K12 Go.Proofs.Ytnmnojapacflgaa.K14 Go.Proofs.Ytnmnojapacflgaa.K15 Go.Proofs.Ytnmnojapacflgaa.K17 Go.Proofs.Ytnmnojapacflgaa.K7
set_option linter.unusedVariables false
set_option linter.unusedSimpArgs false
attribute [local go_sem] max2_int min2_int max_two min_two run_makeMap field_entry
theorem c72_far {w : World} {b : Nat} {r : Int} {A0 : Option Addr} {n0 c0 : Nat} {A : Option Addr} {n : Nat} {xs : List S72} (hk : IsBlk w b #[.slice A0 n0 c0, .int .i64 r] 47) (h : Kd.C k72 w A n xs) (j : Nat) (u : Value) : Kd.C k72 (w.setCell ⟨b, j, none⟩ u) A n xs := by
  refine ⟨h.1, h.2.1, fun hn => ?_⟩
  obtain ⟨ad, e, hc⟩ := h.2.2 hn
  refine ⟨ad, e, fun m p hj => ?_⟩
  obtain ⟨cs, h1, h2, h3⟩ := hc m p hj
  obtain rfl := k72_open h2
  refine ⟨_, h1, k72_mk _ p, fun i u' hu => ?_⟩
  have h4 := h3 i u' hu
  have h0 := h3 0 _ rfl
  have hbl : (ad.add (m * k72.sz + i)).block = (ad.add (m * k72.sz + 0)).block := by unfold Addr.add; split <;> split <;> rfl
  have hne : (ad.add (m * k72.sz + i)).block ≠ b := fun e2 => by
    rw [hbl] at e2
    have hsp := World.cell?_spot h0
    generalize ad.add (m * k72.sz + 0) = a at *
    obtain ⟨ab, ao, asp⟩ := a
    dsimp only at hsp e2
    subst hsp
    subst e2
    rw [blk_cell hk ao] at h0
    match ao, h0 with
    | 0, h0 => simp at h0
    | 1, h0 => simp at h0
    | o + 2, h0 => simp at h0
  exact (cell_far (by exact hne) u).trans h4
set_option maxHeartbeats 8000000 in
set_option maxRecDepth 100000 in
theorem do_r (A0 : Option Addr) (c0 : Nat) (L : List S72) (n rev : Int) (A1 : Option Addr) (c1 : Nat) (M : List S42) (w : World) (hg : K14.Good n rev L) (hn : n ≤ 100) (h0 : Kd.C k72 w A0 L.length L) (hc0 : L.length ≤ c0) (h1 : Kd.C k42 w A1 M.length M) (hc1 : M.length ≤ c1) (hM : M.length ≤ 70) :
    Calls Try.prog 20 #[.agg #[.slice A0 L.length c0, .int .i64 rev], .slice A1 M.length c1] w fun e w' => ∃ A c, e = .returned (.tuple #[.agg #[.slice A (doL rev L (asL M)).2.2.2.length c, .int .i64 (doL rev L (asL M)).2.2.1], .int .i64 (doL rev L (asL M)).1, .int .i64 (doL rev L (asL M)).2.1]) ∧ (doL rev L (asL M)).2.2.2.length ≤ c ∧ Kd.C k72 w' A (doL rev L (asL M)).2.2.2.length (doL rev L (asL M)).2.2.2 ∧ Below w.heap.size w w' := by
  have HB := Aside0.mk (Below.refl w.heap.size w)
  have HG := Aside0.mk hg
  have HN := Aside0.mk hn
  have HC0 := Aside0.mk h0
  have HC1 := Aside0.mk h1
  have HL0 := Aside0.mk hc0
  have HL1 := Aside0.mk hc1
  have hMM : M.length ≤ 70 := hM
  have hL64 := hg.len
  obtain ⟨kr, hkr⟩ := right_f M (by omega)
  have HRF := Aside0.mk hkr
  clear hg hn h0 h1 hc0 hc1 hkr hM
  go_enter Try.func20, Try.ntmps20
  go_upto_region 1 with fail
  have HS : Aside0 (IsBlk ((w.alloc (.cells #[.slice A0 L.length c0, .int .i64 rev] 47)).alloc (.cells #[.slice none 0 0, .int .i64 0] 47)) w.heap.size #[.slice A0 L.length c0, .int .i64 rev] 47) := ⟨(IsBlk.new _ _ rfl).alloc _⟩
  have HR : Aside0 (IsBlk ((w.alloc (.cells #[.slice A0 L.length c0, .int .i64 rev] 47)).alloc (.cells #[.slice none 0 0, .int .i64 0] 47)) (w.heap.size + 1) #[.slice none 0 0, .int .i64 0] 47) := ⟨IsBlk.new _ _ (by simp)⟩
  have HB1 : Aside0 (Below w.heap.size w ((w.alloc (.cells #[.slice A0 L.length c0, .int .i64 rev] 47)).alloc (.cells #[.slice none 0 0, .int .i64 0] 47))) := ⟨by repeat (first | (with_reducible first | exact HB.out | apply below_alloc | apply pw_below_drewN | apply below_drew1) | refine below_set ?_ (by omega))⟩
  clear HB
  have HB := HB1
  clear HB1
  generalize ((w.alloc (.cells #[.slice A0 L.length c0, .int .i64 rev] 47)).alloc (.cells #[.slice none 0 0, .int .i64 0] 47)) = w1 at *
  go_wp2_with fail
  refine (pacesetterref08_right.calls kr A1 c1 M (rightB (asL M)) _ (Kd.C_below HC1.out HB.out) HL1.out HRF.out).mono ?_
  rintro e w2 ⟨rfl, hd⟩
  have hb1 := hd.below
  clear hd HRF
  have n_HS := Aside0.mk (IsBlk.below HS.out hb1)
  have n_HR := Aside0.mk (IsBlk.below HR.out hb1)
  have n0 := Aside0.mk (below_step (by repeat (first | (with_reducible first | exact HB.out | apply below_alloc | apply pw_below_drewN | apply below_drew1) | refine below_set ?_ (by omega))) hb1)
  clear HB hb1 HS HR
  have HB := n0
  clear n0
  have HS := n_HS
  clear n_HS
  have HR := n_HR
  clear n_HR
  cases hrb : rightB (asL M)
  · skip
    have S_0 := blk_cell HS.out 0
    have S_1 := blk_cell HS.out 1
    simp only [List.getElem?_toArray, List.getElem?_cons_zero, List.getElem?_cons_succ] at S_0 S_1
    have S_z0 := blk_frozen HS.out 0
    have S_z1 := blk_frozen HS.out 1
    have R_0 := blk_cell HR.out 0
    have R_1 := blk_cell HR.out 1
    simp only [List.getElem?_toArray, List.getElem?_cons_zero, List.getElem?_cons_succ] at R_0 R_1
    have R_z0 := blk_frozen HR.out 0
    have R_z1 := blk_frozen HR.out 1
    have HD := Aside0.mk (do1 (rev := rev) (L := L) hrb)
    go_wp2
    refine bodyPost_ret (results_ctt rfl _ _ (w.heap.size + 1) 47 #[.slice A0 L.length c0, .int .i64 rev] (0, 0) _ rfl (by refine blk_put (cs := #[.slice A0 L.length c0, .int .i64 0]) ?_ 1 _ rfl; refine blk_put (cs := #[.slice none 0 0, .int .i64 0]) ?_ 0 _ rfl; exact HR.out) Try.underlying47 rfl (by kernel_rfl)) rfl ?_
    rw [HD.out]
    exact ⟨A0, c0, rfl, HL0.out, Kd.C_below HC0.out (by repeat (first | (with_reducible first | exact HB.out | apply below_alloc | apply pw_below_drewN | apply below_drew1) | refine below_set ?_ (by omega))), by repeat (first | (with_reducible first | exact HB.out | apply below_alloc | apply pw_below_drewN | apply below_drew1) | refine below_set ?_ (by omega))⟩
  · have HRB := Aside0.mk hrb
    clear hrb
    go_wp2_with fail
    go_loopw [8] (fun v_ wr => ∃ (i : Int), v_ = .int .i64 i ∧ Aside0 (0 ≤ i ∧ i ≤ M.length) ∧ Aside0 (∀ y : Nat, (y : Int) < i → bad7 L (M.getD y z42) = false) ∧ Aside0 (IsBlk wr w.heap.size #[.slice A0 L.length c0, .int .i64 rev] 47) ∧ Aside0 (IsBlk wr (w.heap.size + 1) #[.slice none 0 0, .int .i64 0] 47) ∧ Aside0 (Below w.heap.size w wr)) (fun v_ _ => (M.length + 5 - intOf v_).toNat)
    case atStart => exact ⟨0, rfl, ⟨by omega⟩, ⟨fun y hy => by omega⟩, HS, HR, ⟨by repeat (first | (with_reducible first | exact HB.out | apply below_alloc | apply pw_below_drewN | apply below_drew1) | refine below_set ?_ (by omega))⟩⟩
    case round =>
      clear HB HS HR
      obtain ⟨i, rfl, HI, H7, HS, HR, HB⟩ := hrel
      obtain ⟨wz, hwz⟩ : ∃ x, x = wr := ⟨_, rfl⟩
      subst hwz
      by_cases hi : i < M.length
      · have t1 : decide (i < (M.length : Int)) = true := decide_eq_true hi
        have hi0 : 0 ≤ i := HI.out.1
        obtain ⟨mb, mo, hA1, hmb, ck0, ck1, ck2, ck3⟩ := el42 (Kd.C_below HC1.out HB.out) i hi0 hi
        subst hA1
        obtain ⟨⟨kk, vv, rr, dd⟩, he⟩ : ∃ e, M.getD i.toNat z42 = e := ⟨_, rfl⟩
        rw [he] at ck0 ck1 ck2 ck3
        dsimp only at ck0 ck1 ck2 ck3
        have HEL := Aside0.mk he
        obtain ⟨⟨lv, lr⟩, hlk⟩ : ∃ p, K0.look L kk = p := ⟨_, rfl⟩
        have HGF : Aside0 (pacesetterref08_Get.f (L.length + 1) L rev kk = some (lv, lr)) := ⟨by rw [get_f L rev kk (by omega), hlk]⟩
        have HBD : Aside0 (bad7 L (M.getD i.toNat z42) = (decide (0 ≤ rr) && rr != lr)) := ⟨by rw [he]; unfold bad7; dsimp only; rw [hlk]⟩
        clear he hlk
        have S_0 := blk_cell HS.out 0
        have S_1 := blk_cell HS.out 1
        simp only [List.getElem?_toArray, List.getElem?_cons_zero, List.getElem?_cons_succ] at S_0 S_1
        have S_z0 := blk_frozen HS.out 0
        have S_z1 := blk_frozen HS.out 1
        go_upto_region 7 with fail
        refine start_ (n := 12) (S := fun w' => w'.cell? ⟨w.heap.size, 0, none⟩ = some (.slice A0 L.length c0) ∧ w'.cell? ⟨w.heap.size, 1, none⟩ = some (.int .i64 rev) ∧ w'.cell? ⟨mb, mo + i.toNat * 4, none⟩ = some (.string kk)) (ds := []) #[false, false, false, false, false, false, false, false, false, false, false, false] (by kernel_rfl) rfl rfl ⟨S_0, S_1, ck0⟩ (fun hHeld => ?_)
        refine pure_ (i := 1) (N := some 29) (v := ?_) (a' := ?_) #[false, true, false, false, false, false, false, false, false, false, false, false] rfl rfl (by kernel_rfl) (fun _ _ _ h => h) (Or.inl ⟨by rfl, ?_⟩) ?_ ?_
        rotate_left
        · intro w'
          go_simp
          with_reducible rfl
        rotate_left
        · simp only [Act.put, List.setIfInBounds_toArray, List.set_cons_zero, List.set_cons_succ, i64_w, i32_w]
          rfl
        refine pure_ (i := 2) (N := some 30) (v := ?_) (a' := ?_) #[false, true, true, false, false, false, false, false, false, false, false, false] rfl rfl (by kernel_rfl) (fun _ _ _ h => h) (Or.inl ⟨by rfl, ?_⟩) ?_ ?_
        rotate_left
        · intro w'
          go_simp
          with_reducible rfl
        rotate_left
        · simp only [Act.put, List.setIfInBounds_toArray, List.set_cons_zero, List.set_cons_succ, i64_w, i32_w]
          rfl
        refine pure_ (i := 3) (N := some 31) (v := ?_) (a' := ?_) #[false, true, true, true, false, false, false, false, false, false, false, false] rfl rfl (by kernel_rfl) (fun _ _ _ h => h) (Or.inl ⟨by rfl, ?_⟩) ?_ ?_
        rotate_left
        · intro w'
          go_simp
          with_reducible rfl
        rotate_left
        · simp only [Act.put, List.setIfInBounds_toArray, List.set_cons_zero, List.set_cons_succ, i64_w, i32_w]
          rfl
        refine pure_ (i := 4) (N := some 32) (v := ?_) (a' := ?_) #[false, true, true, true, true, false, false, false, false, false, false, false] rfl rfl (by kernel_rfl) (fun _ _ _ h => h) (Or.inl ⟨by rfl, ?_⟩) ?_ ?_
        rotate_left
        · intro w'
          go_simp
          with_reducible rfl
        rotate_left
        · simp only [Act.put, List.setIfInBounds_toArray, List.set_cons_zero, List.set_cons_succ, i64_w, i32_w]
          rfl
        refine take_ (i := 0) (N := some 28) (v := ?_) (a' := ?_) #[true, true, true, true, true, false, false, false, false, false, false, false] rfl rfl (by kernel_rfl) (fun _ _ _ h => h) (Or.inl ⟨by rfl, ?_⟩) hHeld ?_ ?_
        rotate_left
        · rintro w' ⟨s0, s1, s2⟩
          go_simp
          with_reducible rfl
        rotate_left
        · simp only [Act.put, List.setIfInBounds_toArray, List.set_cons_zero, List.set_cons_succ, i64_w, i32_w]
          rfl
        refine take_ (i := 5) (N := some 33) (v := ?_) (a' := ?_) #[true, true, true, true, true, true, false, false, false, false, false, false] rfl rfl (by kernel_rfl) (fun _ _ _ h => h) (Or.inl ⟨by rfl, ?_⟩) hHeld ?_ ?_
        rotate_left
        · rintro w' ⟨s0, s1, s2⟩
          go_simp
          with_reducible rfl
        rotate_left
        · simp only [Act.put, List.setIfInBounds_toArray, List.set_cons_zero, List.set_cons_succ, i64_w, i32_w]
          rfl
        refine one_ (i := 6) (N := some 34) #[true, true, true, true, true, true, true, false, false, false, false, false] rfl rfl (by kernel_rfl) (by simp) (fun K hK => ?_)
        refine goes_ Try.func22 (by kernel_rfl) rfl #[.agg #[.slice A0 L.length c0, .int .i64 rev], .string kk] (by rfl) rfl rfl (by simp only [List.map_toArray, List.map_cons, List.map_nil]; rfl) ?_
        with_reducible refine (pacesetterref08_Get.calls (L.length + 1) A0 c0 L rev kk lv lr _ ?side1 HL0.out HGF.out).mono ?_
        (case side1 => exact Kd.C_below HC0.out (by repeat (with_reducible first | exact HB.out | apply below_alloc | apply pw_below_drewN | apply below_drew1)))
        rintro e w3 ⟨rfl, hb1⟩
        have n_HS : Aside0 (IsBlk w3 w.heap.size #[.slice A0 L.length c0, .int .i64 rev] 47) := ⟨IsBlk.below (by repeat (with_reducible first | exact HS.out | apply IsBlk.alloc | apply IsBlk.drew | apply IsBlk.drewN)) hb1⟩
        have n_HR : Aside0 (IsBlk w3 (w.heap.size + 1) #[.slice none 0 0, .int .i64 0] 47) := ⟨IsBlk.below (by repeat (with_reducible first | exact HR.out | apply IsBlk.alloc | apply IsBlk.drew | apply IsBlk.drewN)) hb1⟩
        have n0 := Aside0.mk (below_step (by repeat (with_reducible first | exact HB.out | apply below_alloc | apply pw_below_drewN | apply below_drew1)) hb1)
        clear HB HS HR
        have HB := n0
        clear n0
        have HS := n_HS
        clear n_HS
        have HR := n_HR
        clear n_HR
        refine ⟨_, rfl, ?_⟩
        refine hK.out _ _ ⟨cell_keep hb1 hHeld.1, cell_keep hb1 hHeld.2.1, cell_keep hb1 hHeld.2.2⟩ (fun hHeld => ?_)
        clear hK K
        refine norm_ (a' := ?_) ?_ ?_
        rotate_left
        · show Act.put _ (some 34) _ = _
          simp only [Act.put, List.setIfInBounds_toArray, List.set_cons_zero, List.set_cons_succ, i64_w, i32_w]
          rfl
        refine pure_ (i := 7) (N := some 27) (v := ?_) (a' := ?_) #[true, true, true, true, true, true, true, true, false, false, false, false] rfl rfl (by kernel_rfl) (fun _ _ _ h => h) (Or.inl ⟨by rfl, ?_⟩) ?_ ?_
        rotate_left
        · intro w'
          go_simp
          with_reducible rfl
        rotate_left
        · simp only [Act.put, List.setIfInBounds_toArray, List.set_cons_zero, List.set_cons_succ, i64_w, i32_w]
          rfl
        refine pure_ (i := 8) (N := some 35) (v := ?_) (a' := ?_) #[true, true, true, true, true, true, true, true, true, false, false, false] rfl rfl (by kernel_rfl) (fun _ _ _ h => h) (Or.inl ⟨by rfl, ?_⟩) ?_ ?_
        rotate_left
        · intro w'
          go_simp
          with_reducible rfl
        rotate_left
        · simp only [Act.put, List.setIfInBounds_toArray, List.set_cons_zero, List.set_cons_succ, i64_w, i32_w]
          rfl
        refine pure_ (i := 9) (N := some 36) (v := ?_) (a' := ?_) #[true, true, true, true, true, true, true, true, true, true, false, false] rfl rfl (by kernel_rfl) (fun _ _ _ h => h) (Or.inl ⟨by rfl, ?_⟩) ?_ ?_
        rotate_left
        · intro w'
          go_simp
          with_reducible rfl
        rotate_left
        · simp only [Act.put, List.setIfInBounds_toArray, List.set_cons_zero, List.set_cons_succ, i64_w, i32_w]
          rfl
        refine pure_ (i := 10) (N := some 9) (v := ?_) (a' := ?_) #[true, true, true, true, true, true, true, true, true, true, true, false] rfl rfl (by kernel_rfl) (fun _ _ _ h => h) (Or.inl ⟨by rfl, ?_⟩) ?_ ?_
        rotate_left
        · intro w'
          go_simp
          with_reducible rfl
        rotate_left
        · simp only [Act.put, List.setIfInBounds_toArray, List.set_cons_zero, List.set_cons_succ, i64_w, i32_w]
          rfl
        refine pure_ (i := 11) (N := some 10) (v := ?_) (a' := ?_) #[true, true, true, true, true, true, true, true, true, true, true, true] rfl rfl (by kernel_rfl) (fun _ _ _ h => h) (Or.inl ⟨by rfl, ?_⟩) ?_ ?_
        rotate_left
        · intro w'
          go_simp
          with_reducible rfl
        rotate_left
        · simp only [Act.put, List.setIfInBounds_toArray, List.set_cons_zero, List.set_cons_succ, i64_w, i32_w]
          rfl
        refine done_ (by kernel_rfl) ?_

        clear S_0 S_1 S_z0 S_z1 ck0 ck1 ck2 ck3
        obtain ⟨mb2, mo2, hA1, hmb2, ck0, ck1, ck2, ck3⟩ := el42 (Kd.C_below HC1.out HB.out) i hi0 hi
        cases hA1
        rw [HEL.out] at ck0 ck1 ck2 ck3
        dsimp only at ck0 ck1 ck2 ck3
        cases x1 : decide (0 ≤ rr)
        · skip
          have HH : Aside0 (∀ y : Nat, (y : Int) < i + 1 → bad7 L (M.getD y z42) = false) := ⟨fun y hy => by
            rcases (by omega : (y : Int) < i ∨ y = i.toNat) with h | h
            · exact H7.out y h
            · rw [h, HBD.out]; simp [*]⟩
          go_wp2
          exact ⟨⟨i + 1, rfl, ⟨by omega⟩, HH, HS, HR, ⟨by repeat (first | (with_reducible first | exact HB.out | apply below_alloc | apply pw_below_drewN | apply below_drew1) | refine below_set ?_ (by omega))⟩⟩, by simp only [intOf]; omega⟩
        · cases x2 : (rr != lr)
          · skip
            have HH : Aside0 (∀ y : Nat, (y : Int) < i + 1 → bad7 L (M.getD y z42) = false) := ⟨fun y hy => by
              rcases (by omega : (y : Int) < i ∨ y = i.toNat) with h | h
              · exact H7.out y h
              · rw [h, HBD.out]; simp [*]⟩
            go_wp2
            exact ⟨⟨i + 1, rfl, ⟨by omega⟩, HH, HS, HR, ⟨by repeat (first | (with_reducible first | exact HB.out | apply below_alloc | apply pw_below_drewN | apply below_drew1) | refine below_set ?_ (by omega))⟩⟩, by simp only [intOf]; omega⟩
          · skip
            have hbad : bad7 L (M.getD i.toNat z42) = true := by rw [HBD.out]; simp [*]
            have hmem : M.getD i.toNat z42 ∈ M := (by rw [List.getD_eq_getElem?_getD, List.getElem?_eq_getElem (by omega)]; exact List.getElem_mem (by omega))
            have S_0 := blk_cell HS.out 0
            have S_1 := blk_cell HS.out 1
            simp only [List.getElem?_toArray, List.getElem?_cons_zero, List.getElem?_cons_succ] at S_0 S_1
            have S_z0 := blk_frozen HS.out 0
            have S_z1 := blk_frozen HS.out 1
            have R_0 := blk_cell HR.out 0
            have R_1 := blk_cell HR.out 1
            simp only [List.getElem?_toArray, List.getElem?_cons_zero, List.getElem?_cons_succ] at R_0 R_1
            have R_z0 := blk_frozen HR.out 0
            have R_z1 := blk_frozen HR.out 1
            have HD := Aside0.mk (do7 (rev := rev) HRB.out ⟨_, hmem, hbad⟩)
            go_wp2
            refine bodyPost_ret (results_ctt rfl _ _ (w.heap.size + 1) 47 #[.slice A0 L.length c0, .int .i64 rev] (0, 0) _ rfl (by refine blk_put (cs := #[.slice A0 L.length c0, .int .i64 0]) ?_ 1 _ rfl; refine blk_put (cs := #[.slice none 0 0, .int .i64 0]) ?_ 0 _ rfl; exact HR.out) Try.underlying47 rfl (by kernel_rfl)) rfl ?_
            rw [HD.out]
            exact ⟨A0, c0, rfl, HL0.out, Kd.C_below HC0.out (by repeat (first | (with_reducible first | exact HB.out | apply below_alloc | apply pw_below_drewN | apply below_drew1) | refine below_set ?_ (by omega))), by repeat (first | (with_reducible first | exact HB.out | apply below_alloc | apply pw_below_drewN | apply below_drew1) | refine below_set ?_ (by omega))⟩
      · have t1 : decide (i < (M.length : Int)) = false := decide_eq_false hi
        have HA7 : Aside0 (∀ e ∈ M, bad7 L e = false) := ⟨fun e he => by
          obtain ⟨y, hy, rfl⟩ := List.mem_iff_getElem.1 he
          have := H7.out y (by omega)
          simpa [hy] using this⟩
        clear H7 hi
        go_wp2_with fail
        go_loopw [11] (fun v_ wr => ∃ (i : Int), v_ = .int .i64 i ∧ Aside0 (0 ≤ i ∧ i ≤ M.length) ∧ Aside0 (∀ y : Nat, (y : Int) < i → bad5 L (M.getD y z42) = false) ∧ Aside0 (IsBlk wr w.heap.size #[.slice A0 L.length c0, .int .i64 rev] 47) ∧ Aside0 (IsBlk wr (w.heap.size + 1) #[.slice none 0 0, .int .i64 0] 47) ∧ Aside0 (Below w.heap.size w wr)) (fun v_ _ => (M.length + 5 - intOf v_).toNat)
        case atStart => exact ⟨0, rfl, ⟨by omega⟩, ⟨fun y hy => by omega⟩, HS, HR, ⟨by repeat (first | (with_reducible first | exact HB.out | apply below_alloc | apply pw_below_drewN | apply below_drew1) | refine below_set ?_ (by omega))⟩⟩
        case round =>
          clear HB HS HR
          obtain ⟨i, rfl, HI, H5, HS, HR, HB⟩ := hrel
          obtain ⟨wz, hwz⟩ : ∃ x, x = wr := ⟨_, rfl⟩
          subst hwz
          by_cases hi : i < M.length
          · have t1 : decide (i < (M.length : Int)) = true := decide_eq_true hi
            have hi0 : 0 ≤ i := HI.out.1
            obtain ⟨mb, mo, hA1, hmb, ck0, ck1, ck2, ck3⟩ := el42 (Kd.C_below HC1.out HB.out) i hi0 hi
            subst hA1
            obtain ⟨⟨kk, vv, rr, dd⟩, he⟩ : ∃ e, M.getD i.toNat z42 = e := ⟨_, rfl⟩
            rw [he] at ck0 ck1 ck2 ck3
            dsimp only at ck0 ck1 ck2 ck3
            have HEL := Aside0.mk he
            obtain ⟨⟨lv, lr⟩, hlk⟩ : ∃ p, K0.look L kk = p := ⟨_, rfl⟩
            have HGF : Aside0 (pacesetterref08_Get.f (L.length + 1) L rev kk = some (lv, lr)) := ⟨by rw [get_f L rev kk (by omega), hlk]⟩
            have HBD : Aside0 (bad5 L (M.getD i.toNat z42) = (dd && lr == 0)) := ⟨by rw [he]; unfold bad5; dsimp only; rw [hlk]⟩
            clear he hlk
            have S_0 := blk_cell HS.out 0
            have S_1 := blk_cell HS.out 1
            simp only [List.getElem?_toArray, List.getElem?_cons_zero, List.getElem?_cons_succ] at S_0 S_1
            have S_z0 := blk_frozen HS.out 0
            have S_z1 := blk_frozen HS.out 1
            go_upto_region 13 with fail
            refine start_ (n := 12) (S := fun w' => w'.cell? ⟨w.heap.size, 0, none⟩ = some (.slice A0 L.length c0) ∧ w'.cell? ⟨w.heap.size, 1, none⟩ = some (.int .i64 rev) ∧ w'.cell? ⟨mb, mo + i.toNat * 4, none⟩ = some (.string kk)) (ds := []) #[false, false, false, false, false, false, false, false, false, false, false, false] (by kernel_rfl) rfl rfl ⟨S_0, S_1, ck0⟩ (fun hHeld => ?_)
            refine pure_ (i := 1) (N := some 61) (v := ?_) (a' := ?_) #[false, true, false, false, false, false, false, false, false, false, false, false] rfl rfl (by kernel_rfl) (fun _ _ _ h => h) (Or.inl ⟨by rfl, ?_⟩) ?_ ?_
            rotate_left
            · intro w'
              go_simp
              with_reducible rfl
            rotate_left
            · simp only [Act.put, List.setIfInBounds_toArray, List.set_cons_zero, List.set_cons_succ, i64_w, i32_w]
              rfl
            refine pure_ (i := 2) (N := some 62) (v := ?_) (a' := ?_) #[false, true, true, false, false, false, false, false, false, false, false, false] rfl rfl (by kernel_rfl) (fun _ _ _ h => h) (Or.inl ⟨by rfl, ?_⟩) ?_ ?_
            rotate_left
            · intro w'
              go_simp
              with_reducible rfl
            rotate_left
            · simp only [Act.put, List.setIfInBounds_toArray, List.set_cons_zero, List.set_cons_succ, i64_w, i32_w]
              rfl
            refine pure_ (i := 3) (N := some 63) (v := ?_) (a' := ?_) #[false, true, true, true, false, false, false, false, false, false, false, false] rfl rfl (by kernel_rfl) (fun _ _ _ h => h) (Or.inl ⟨by rfl, ?_⟩) ?_ ?_
            rotate_left
            · intro w'
              go_simp
              with_reducible rfl
            rotate_left
            · simp only [Act.put, List.setIfInBounds_toArray, List.set_cons_zero, List.set_cons_succ, i64_w, i32_w]
              rfl
            refine pure_ (i := 4) (N := some 64) (v := ?_) (a' := ?_) #[false, true, true, true, true, false, false, false, false, false, false, false] rfl rfl (by kernel_rfl) (fun _ _ _ h => h) (Or.inl ⟨by rfl, ?_⟩) ?_ ?_
            rotate_left
            · intro w'
              go_simp
              with_reducible rfl
            rotate_left
            · simp only [Act.put, List.setIfInBounds_toArray, List.set_cons_zero, List.set_cons_succ, i64_w, i32_w]
              rfl
            refine take_ (i := 0) (N := some 60) (v := ?_) (a' := ?_) #[true, true, true, true, true, false, false, false, false, false, false, false] rfl rfl (by kernel_rfl) (fun _ _ _ h => h) (Or.inl ⟨by rfl, ?_⟩) hHeld ?_ ?_
            rotate_left
            · rintro w' ⟨s0, s1, s2⟩
              go_simp
              with_reducible rfl
            rotate_left
            · simp only [Act.put, List.setIfInBounds_toArray, List.set_cons_zero, List.set_cons_succ, i64_w, i32_w]
              rfl
            refine take_ (i := 5) (N := some 65) (v := ?_) (a' := ?_) #[true, true, true, true, true, true, false, false, false, false, false, false] rfl rfl (by kernel_rfl) (fun _ _ _ h => h) (Or.inl ⟨by rfl, ?_⟩) hHeld ?_ ?_
            rotate_left
            · rintro w' ⟨s0, s1, s2⟩
              go_simp
              with_reducible rfl
            rotate_left
            · simp only [Act.put, List.setIfInBounds_toArray, List.set_cons_zero, List.set_cons_succ, i64_w, i32_w]
              rfl
            refine one_ (i := 6) (N := some 66) #[true, true, true, true, true, true, true, false, false, false, false, false] rfl rfl (by kernel_rfl) (by simp) (fun K hK => ?_)
            refine goes_ Try.func22 (by kernel_rfl) rfl #[.agg #[.slice A0 L.length c0, .int .i64 rev], .string kk] (by rfl) rfl rfl (by simp only [List.map_toArray, List.map_cons, List.map_nil]; rfl) ?_
            with_reducible refine (pacesetterref08_Get.calls (L.length + 1) A0 c0 L rev kk lv lr _ ?side1 HL0.out HGF.out).mono ?_
            (case side1 => exact Kd.C_below HC0.out (by repeat (with_reducible first | exact HB.out | apply below_alloc | apply pw_below_drewN | apply below_drew1)))
            rintro e w3 ⟨rfl, hb1⟩
            have n_HS : Aside0 (IsBlk w3 w.heap.size #[.slice A0 L.length c0, .int .i64 rev] 47) := ⟨IsBlk.below (by repeat (with_reducible first | exact HS.out | apply IsBlk.alloc | apply IsBlk.drew | apply IsBlk.drewN)) hb1⟩
            have n_HR : Aside0 (IsBlk w3 (w.heap.size + 1) #[.slice none 0 0, .int .i64 0] 47) := ⟨IsBlk.below (by repeat (with_reducible first | exact HR.out | apply IsBlk.alloc | apply IsBlk.drew | apply IsBlk.drewN)) hb1⟩
            have n0 := Aside0.mk (below_step (by repeat (with_reducible first | exact HB.out | apply below_alloc | apply pw_below_drewN | apply below_drew1)) hb1)
            clear HB HS HR
            have HB := n0
            clear n0
            have HS := n_HS
            clear n_HS
            have HR := n_HR
            clear n_HR
            refine ⟨_, rfl, ?_⟩
            refine hK.out _ _ ⟨cell_keep hb1 hHeld.1, cell_keep hb1 hHeld.2.1, cell_keep hb1 hHeld.2.2⟩ (fun hHeld => ?_)
            clear hK K
            refine norm_ (a' := ?_) ?_ ?_
            rotate_left
            · show Act.put _ (some 66) _ = _
              simp only [Act.put, List.setIfInBounds_toArray, List.set_cons_zero, List.set_cons_succ, i64_w, i32_w]
              rfl
            refine pure_ (i := 7) (N := some 59) (v := ?_) (a' := ?_) #[true, true, true, true, true, true, true, true, false, false, false, false] rfl rfl (by kernel_rfl) (fun _ _ _ h => h) (Or.inl ⟨by rfl, ?_⟩) ?_ ?_
            rotate_left
            · intro w'
              go_simp
              with_reducible rfl
            rotate_left
            · simp only [Act.put, List.setIfInBounds_toArray, List.set_cons_zero, List.set_cons_succ, i64_w, i32_w]
              rfl
            refine pure_ (i := 8) (N := some 67) (v := ?_) (a' := ?_) #[true, true, true, true, true, true, true, true, true, false, false, false] rfl rfl (by kernel_rfl) (fun _ _ _ h => h) (Or.inl ⟨by rfl, ?_⟩) ?_ ?_
            rotate_left
            · intro w'
              go_simp
              with_reducible rfl
            rotate_left
            · simp only [Act.put, List.setIfInBounds_toArray, List.set_cons_zero, List.set_cons_succ, i64_w, i32_w]
              rfl
            refine pure_ (i := 9) (N := some 68) (v := ?_) (a' := ?_) #[true, true, true, true, true, true, true, true, true, true, false, false] rfl rfl (by kernel_rfl) (fun _ _ _ h => h) (Or.inl ⟨by rfl, ?_⟩) ?_ ?_
            rotate_left
            · intro w'
              go_simp
              with_reducible rfl
            rotate_left
            · simp only [Act.put, List.setIfInBounds_toArray, List.set_cons_zero, List.set_cons_succ, i64_w, i32_w]
              rfl
            refine pure_ (i := 10) (N := some 12) (v := ?_) (a' := ?_) #[true, true, true, true, true, true, true, true, true, true, true, false] rfl rfl (by kernel_rfl) (fun _ _ _ h => h) (Or.inl ⟨by rfl, ?_⟩) ?_ ?_
            rotate_left
            · intro w'
              go_simp
              with_reducible rfl
            rotate_left
            · simp only [Act.put, List.setIfInBounds_toArray, List.set_cons_zero, List.set_cons_succ, i64_w, i32_w]
              rfl
            refine pure_ (i := 11) (N := some 13) (v := ?_) (a' := ?_) #[true, true, true, true, true, true, true, true, true, true, true, true] rfl rfl (by kernel_rfl) (fun _ _ _ h => h) (Or.inl ⟨by rfl, ?_⟩) ?_ ?_
            rotate_left
            · intro w'
              go_simp
              with_reducible rfl
            rotate_left
            · simp only [Act.put, List.setIfInBounds_toArray, List.set_cons_zero, List.set_cons_succ, i64_w, i32_w]
              rfl
            refine done_ (by kernel_rfl) ?_

            clear S_0 S_1 S_z0 S_z1 ck0 ck1 ck2 ck3
            obtain ⟨mb2, mo2, hA1, hmb2, ck0, ck1, ck2, ck3⟩ := el42 (Kd.C_below HC1.out HB.out) i hi0 hi
            cases hA1
            rw [HEL.out] at ck0 ck1 ck2 ck3
            dsimp only at ck0 ck1 ck2 ck3
            cases dd
            · skip
              have HH : Aside0 (∀ y : Nat, (y : Int) < i + 1 → bad5 L (M.getD y z42) = false) := ⟨fun y hy => by
                rcases (by omega : (y : Int) < i ∨ y = i.toNat) with h | h
                · exact H5.out y h
                · rw [h, HBD.out]; simp [*]⟩
              go_wp2
              exact ⟨⟨i + 1, rfl, ⟨by omega⟩, HH, HS, HR, ⟨by repeat (first | (with_reducible first | exact HB.out | apply below_alloc | apply pw_below_drewN | apply below_drew1) | refine below_set ?_ (by omega))⟩⟩, by simp only [intOf]; omega⟩
            · cases x2 : (lr == 0)
              · skip
                have HH : Aside0 (∀ y : Nat, (y : Int) < i + 1 → bad5 L (M.getD y z42) = false) := ⟨fun y hy => by
                  rcases (by omega : (y : Int) < i ∨ y = i.toNat) with h | h
                  · exact H5.out y h
                  · rw [h, HBD.out]; simp [*]⟩
                go_wp2
                exact ⟨⟨i + 1, rfl, ⟨by omega⟩, HH, HS, HR, ⟨by repeat (first | (with_reducible first | exact HB.out | apply below_alloc | apply pw_below_drewN | apply below_drew1) | refine below_set ?_ (by omega))⟩⟩, by simp only [intOf]; omega⟩
              · skip
                have hbad : bad5 L (M.getD i.toNat z42) = true := by rw [HBD.out]; simp [*]
                have hmem : M.getD i.toNat z42 ∈ M := (by rw [List.getD_eq_getElem?_getD, List.getElem?_eq_getElem (by omega)]; exact List.getElem_mem (by omega))
                have S_0 := blk_cell HS.out 0
                have S_1 := blk_cell HS.out 1
                simp only [List.getElem?_toArray, List.getElem?_cons_zero, List.getElem?_cons_succ] at S_0 S_1
                have S_z0 := blk_frozen HS.out 0
                have S_z1 := blk_frozen HS.out 1
                have R_0 := blk_cell HR.out 0
                have R_1 := blk_cell HR.out 1
                simp only [List.getElem?_toArray, List.getElem?_cons_zero, List.getElem?_cons_succ] at R_0 R_1
                have R_z0 := blk_frozen HR.out 0
                have R_z1 := blk_frozen HR.out 1
                have HD := Aside0.mk (do5 (rev := rev) HRB.out HA7.out ⟨_, hmem, hbad⟩)
                go_wp2
                refine bodyPost_ret (results_ctt rfl _ _ (w.heap.size + 1) 47 #[.slice A0 L.length c0, .int .i64 rev] (0, 0) _ rfl (by refine blk_put (cs := #[.slice A0 L.length c0, .int .i64 0]) ?_ 1 _ rfl; refine blk_put (cs := #[.slice none 0 0, .int .i64 0]) ?_ 0 _ rfl; exact HR.out) Try.underlying47 rfl (by kernel_rfl)) rfl ?_
                rw [HD.out]
                exact ⟨A0, c0, rfl, HL0.out, Kd.C_below HC0.out (by repeat (first | (with_reducible first | exact HB.out | apply below_alloc | apply pw_below_drewN | apply below_drew1) | refine below_set ?_ (by omega))), by repeat (first | (with_reducible first | exact HB.out | apply below_alloc | apply pw_below_drewN | apply below_drew1) | refine below_set ?_ (by omega))⟩
          · have t1 : decide (i < (M.length : Int)) = false := decide_eq_false hi
            have HA5 : Aside0 (∀ e ∈ M, bad5 L e = false) := ⟨fun e he => by
              obtain ⟨y, hy, rfl⟩ := List.mem_iff_getElem.1 he
              have := H5.out y (by omega)
              simpa [hy] using this⟩
            clear H5 hi
            have S_0 := blk_cell HS.out 0
            have S_1 := blk_cell HS.out 1
            simp only [List.getElem?_toArray, List.getElem?_cons_zero, List.getElem?_cons_succ] at S_0 S_1
            have S_z0 := blk_frozen HS.out 0
            have S_z1 := blk_frozen HS.out 1
            have hr0 := HG.out.rev0
            have hr1 : rev ≤ 1000000 := by have := HG.out.revn; have := HN.out; omega
            go_upto_region 18 with fail
            have HO : Aside0 (IsBlk (wz.alloc (.cells #[.slice A0 L.length c0, .int .i64 (rev + 1)] 47)) wz.heap.size #[.slice A0 L.length c0, .int .i64 (rev + 1)] 47) := ⟨IsBlk.new _ _ rfl⟩
            have HS2 : Aside0 (IsBlk (wz.alloc (.cells #[.slice A0 L.length c0, .int .i64 (rev + 1)] 47)) w.heap.size #[.slice A0 L.length c0, .int .i64 rev] 47) := ⟨HS.out.alloc _⟩
            have HR2 : Aside0 (IsBlk (wz.alloc (.cells #[.slice A0 L.length c0, .int .i64 (rev + 1)] 47)) (w.heap.size + 1) #[.slice none 0 0, .int .i64 0] 47) := ⟨HR.out.alloc _⟩
            have HX : Aside0 (Kd.C k72 (wz.alloc (.cells #[.slice A0 L.length c0, .int .i64 (rev + 1)] 47)) A0 L.length L) := ⟨Kd.C_below HC0.out (by repeat (first | (with_reducible first | exact HB.out | apply below_alloc | apply pw_below_drewN | apply below_drew1) | refine below_set ?_ (by omega)))⟩
            have HB2 : Aside0 (Below w.heap.size w (wz.alloc (.cells #[.slice A0 L.length c0, .int .i64 (rev + 1)] 47))) := ⟨by repeat (first | (with_reducible first | exact HB.out | apply below_alloc | apply pw_below_drewN | apply below_drew1) | refine below_set ?_ (by omega))⟩
            have HGO : Aside0 (w.heap.size + 1 < wz.heap.size) := ⟨blk_lt HR.out⟩
            clear HS HR HB S_0 S_1 S_z0 S_z1
            have HS := HS2
            have HR := HR2
            have HB := HB2
            clear HS2 HR2 HB2
            generalize (wz.alloc (.cells #[.slice A0 L.length c0, .int .i64 (rev + 1)] 47)) = w5 at *
            generalize wz.heap.size = go at *
            go_wp2_with fail
            go_loopw [15] (fun v_ wr => ∃ (i : Int) (A : Option Addr) (c : Nat) (X : List S72), v_ = .int .i64 i ∧ Aside0 (0 ≤ i ∧ i ≤ M.length) ∧ Aside0 (X = ((asL M).take i.toNat).foldl (opL (rev + 1)) L) ∧ Aside0 (IsBlk wr go #[.slice A X.length c, .int .i64 (rev + 1)] 47) ∧ Aside0 (X.length ≤ c) ∧ Aside0 (Kd.C k72 wr A X.length X) ∧ Aside0 (IsBlk wr w.heap.size #[.slice A0 L.length c0, .int .i64 rev] 47) ∧ Aside0 (IsBlk wr (w.heap.size + 1) #[.slice none 0 0, .int .i64 0] 47) ∧ Aside0 (Below w.heap.size w wr)) (fun v_ _ => (M.length + 5 - intOf v_).toNat)
            case atStart => exact ⟨0, A0, c0, L, rfl, ⟨by omega⟩, ⟨rfl⟩, HO, HL0, HX, HS, HR, ⟨by repeat (first | (with_reducible first | exact HB.out | apply below_alloc | apply pw_below_drewN | apply below_drew1) | refine below_set ?_ (by omega))⟩⟩
            case round =>
              clear HB HS HR HO HX
              obtain ⟨i, A, c, X, rfl, HI, HXE, HO, HXC, HX, HS, HR, HB⟩ := hrel
              obtain ⟨wz, hwz⟩ : ∃ x, x = wr := ⟨_, rfl⟩
              subst hwz
              have hXL : X.length ≤ 134 := by
                rw [HXE.out]
                have h1 := fold_len (rev + 1) ((asL M).take i.toNat) L
                have h2 : ((asL M).take i.toNat).length ≤ M.length := by rw [List.length_take, asL_len]; omega
                omega
              by_cases hi : i < M.length
              · have t1 : decide (i < (M.length : Int)) = true := decide_eq_true hi
                have hi0 : 0 ≤ i := HI.out.1
                obtain ⟨mb, mo, hA1, hmb, ck0, ck1, ck2, ck3⟩ := el42 (Kd.C_below HC1.out HB.out) i hi0 hi
                subst hA1
                obtain ⟨⟨kk, vv, rr, dd⟩, he⟩ : ∃ e, M.getD i.toNat z42 = e := ⟨_, rfl⟩
                rw [he] at ck0 ck1 ck2 ck3
                dsimp only at ck0 ck1 ck2 ck3
                have HEL := Aside0.mk he
                have HNX : Aside0 (((asL M).take (i + 1).toNat).foldl (opL (rev + 1)) L = opL (rev + 1) X (to53 ⟨kk, vv, rr, dd⟩)) := ⟨by
                  have hk : i.toNat < (asL M).length := by rw [asL_len]; omega
                  have hk2 : i.toNat < M.length := by omega
                  rw [show (i + 1).toNat = i.toNat + 1 by omega, List.take_succ_eq_append_getElem hk, List.foldl_append, ← HXE.out, ← he]
                  simp [asL, hk2]⟩
                obtain ⟨D, hD⟩ : ∃ D, K0.del X kk = D := ⟨_, rfl⟩
                have HDD := Aside0.mk hD
                have HDF : Aside0 (pacesetterref08_drop.f (X.length + 1) X (rev + 1) kk = some (D, rev + 1)) := ⟨by rw [drop_f X (rev + 1) kk (by omega), hD]⟩
                have hDL : D.length ≤ 134 := by rw [← hD]; exact Nat.le_trans (K4.del_len X kk) hXL
                clear he hD
                have O_0 := blk_cell HO.out 0
                have O_1 := blk_cell HO.out 1
                simp only [List.getElem?_toArray, List.getElem?_cons_zero, List.getElem?_cons_succ] at O_0 O_1
                have O_z0 := blk_frozen HO.out 0
                have O_z1 := blk_frozen HO.out 1
                go_upto_region 21 with fail
                refine start_ (n := 8) (S := fun w' => w'.cell? ⟨go, 0, none⟩ = some (.slice A X.length c) ∧ w'.cell? ⟨go, 1, none⟩ = some (.int .i64 (rev + 1)) ∧ w'.cell? ⟨mb, mo + i.toNat * 4, none⟩ = some (.string kk)) (ds := [7]) #[false, false, false, false, false, false, false, false] (by kernel_rfl) rfl rfl ⟨O_0, O_1, ck0⟩ (fun hHeld => ?_)
                refine pure_ (i := 1) (N := some 91) (v := ?_) (a' := ?_) #[false, true, false, false, false, false, false, false] rfl rfl (by kernel_rfl) (fun _ _ _ h => h) (Or.inl ⟨by rfl, ?_⟩) ?_ ?_
                rotate_left
                · intro w'
                  go_simp
                  with_reducible rfl
                rotate_left
                · simp only [Act.put, List.setIfInBounds_toArray, List.set_cons_zero, List.set_cons_succ, i64_w, i32_w]
                  rfl
                refine pure_ (i := 2) (N := some 92) (v := ?_) (a' := ?_) #[false, true, true, false, false, false, false, false] rfl rfl (by kernel_rfl) (fun _ _ _ h => h) (Or.inl ⟨by rfl, ?_⟩) ?_ ?_
                rotate_left
                · intro w'
                  go_simp
                  with_reducible rfl
                rotate_left
                · simp only [Act.put, List.setIfInBounds_toArray, List.set_cons_zero, List.set_cons_succ, i64_w, i32_w]
                  rfl
                refine pure_ (i := 3) (N := some 93) (v := ?_) (a' := ?_) #[false, true, true, true, false, false, false, false] rfl rfl (by kernel_rfl) (fun _ _ _ h => h) (Or.inl ⟨by rfl, ?_⟩) ?_ ?_
                rotate_left
                · intro w'
                  go_simp
                  with_reducible rfl
                rotate_left
                · simp only [Act.put, List.setIfInBounds_toArray, List.set_cons_zero, List.set_cons_succ, i64_w, i32_w]
                  rfl
                refine pure_ (i := 4) (N := some 94) (v := ?_) (a' := ?_) #[false, true, true, true, true, false, false, false] rfl rfl (by kernel_rfl) (fun _ _ _ h => h) (Or.inl ⟨by rfl, ?_⟩) ?_ ?_
                rotate_left
                · intro w'
                  go_simp
                  with_reducible rfl
                rotate_left
                · simp only [Act.put, List.setIfInBounds_toArray, List.set_cons_zero, List.set_cons_succ, i64_w, i32_w]
                  rfl
                refine take_ (i := 0) (N := some 90) (v := ?_) (a' := ?_) #[true, true, true, true, true, false, false, false] rfl rfl (by kernel_rfl) (fun _ _ _ h => h) (Or.inl ⟨by rfl, ?_⟩) hHeld ?_ ?_
                rotate_left
                · rintro w' ⟨s0, s1, s2⟩
                  go_simp
                  with_reducible rfl
                rotate_left
                · simp only [Act.put, List.setIfInBounds_toArray, List.set_cons_zero, List.set_cons_succ, i64_w, i32_w]
                  rfl
                refine take_ (i := 5) (N := some 95) (v := ?_) (a' := ?_) #[true, true, true, true, true, true, false, false] rfl rfl (by kernel_rfl) (fun _ _ _ h => h) (Or.inl ⟨by rfl, ?_⟩) hHeld ?_ ?_
                rotate_left
                · rintro w' ⟨s0, s1, s2⟩
                  go_simp
                  with_reducible rfl
                rotate_left
                · simp only [Act.put, List.setIfInBounds_toArray, List.set_cons_zero, List.set_cons_succ, i64_w, i32_w]
                  rfl
                refine one_ (i := 6) (N := some 96) #[true, true, true, true, true, true, true, false] rfl rfl (by kernel_rfl) (by simp) (fun K hK => ?_)
                refine goes_ Try.func31 (by kernel_rfl) rfl #[.agg #[.slice A X.length c, .int .i64 (rev + 1)], .string kk] (by rfl) rfl rfl (by simp only [List.map_toArray, List.map_cons, List.map_nil]; rfl) ?_
                with_reducible refine (pacesetterref08_drop.calls (X.length + 1) A c X (rev + 1) kk D (rev + 1) _ ?side1 HXC.out HDF.out).mono ?_
                (case side1 => exact Kd.C_below HX.out (by repeat (with_reducible first | exact Below.refl _ _ | apply below_alloc | apply pw_below_drewN | apply below_drew1)))
                rintro e w3 ⟨v0, rfl, hR, hb1⟩
                obtain ⟨A2, c2, rfl, hc2, hC2⟩ := Kd.R_reads hR
                have n_HS : Aside0 (IsBlk w3 w.heap.size #[.slice A0 L.length c0, .int .i64 rev] 47) := ⟨IsBlk.below (by repeat (with_reducible first | exact HS.out | apply IsBlk.alloc | apply IsBlk.drew | apply IsBlk.drewN)) hb1⟩
                have n_HR : Aside0 (IsBlk w3 (w.heap.size + 1) #[.slice none 0 0, .int .i64 0] 47) := ⟨IsBlk.below (by repeat (with_reducible first | exact HR.out | apply IsBlk.alloc | apply IsBlk.drew | apply IsBlk.drewN)) hb1⟩
                have n_HO : Aside0 (IsBlk w3 go #[.slice A X.length c, .int .i64 (rev + 1)] 47) := ⟨IsBlk.below (by repeat (with_reducible first | exact HO.out | apply IsBlk.alloc | apply IsBlk.drew | apply IsBlk.drewN)) hb1⟩
                have n0 := Aside0.mk (below_step (by repeat (with_reducible first | exact HB.out | apply below_alloc | apply pw_below_drewN | apply below_drew1)) hb1)
                clear HB HS HR HO
                have HB := n0
                clear n0
                have HS := n_HS
                clear n_HS
                have HR := n_HR
                clear n_HR
                have HO := n_HO
                clear n_HO
                have HX2 := Aside0.mk hC2
                have HXC2 := Aside0.mk hc2
                clear hC2 hc2 hR
                have O_0 := blk_cell HO.out 0
                have O_1 := blk_cell HO.out 1
                simp only [List.getElem?_toArray, List.getElem?_cons_zero, List.getElem?_cons_succ] at O_0 O_1
                have O_z0 := blk_frozen HO.out 0
                have O_z1 := blk_frozen HO.out 1
                refine ⟨_, rfl, ?_⟩
                refine hK.out _ _ ⟨cell_keep hb1 hHeld.1, cell_keep hb1 hHeld.2.1, cell_keep hb1 hHeld.2.2⟩ (fun hHeld => ?_)
                clear hK K
                refine norm_ (a' := ?_) ?_ ?_
                rotate_left
                · show Act.put _ (some 96) _ = _
                  simp only [Act.put, List.setIfInBounds_toArray, List.set_cons_zero, List.set_cons_succ, i64_w, i32_w]
                  rfl
                refine last_ (i := 7) (N := none) #[true, true, true, true, true, true, true, true] rfl rfl (by kernel_rfl) (by simp) (fun K hK => ?_)
                refine skip_ (w1 := ?_) (by rfl) rfl ?_ ?_
                rotate_left
                · go_simp
                  rfl
                refine hK.out _ _ ?_
                clear hK K
                refine done_ (by kernel_rfl) ?_

                go_upto_region 22 with fail
                clear O_0 O_1 O_z0 O_z1
                have hgo := HGO.out
                have HO1 := Aside0.mk (blk_put (cs := #[.slice A X.length c, .int .i64 (rev + 1)]) (cs' := #[.slice A2 D.length c2, .int .i64 (rev + 1)]) HO.out 0 (.slice A2 D.length c2) rfl)
                have HOn : Aside0 (IsBlk ((w3.setCell ⟨go, 0, none⟩ (.slice A2 D.length c2)).setCell ⟨go, 1, none⟩ (.int .i64 (rev + 1))) go #[.slice A2 D.length c2, .int .i64 (rev + 1)] 47) := ⟨blk_put (cs := #[.slice A2 D.length c2, .int .i64 (rev + 1)]) HO1.out 1 _ rfl⟩
                have HXn : Aside0 (Kd.C k72 ((w3.setCell ⟨go, 0, none⟩ (.slice A2 D.length c2)).setCell ⟨go, 1, none⟩ (.int .i64 (rev + 1))) A2 D.length D) := ⟨c72_far HO1.out (c72_far HO.out HX2.out 0 _) 1 _⟩
                have HSn : Aside0 (IsBlk ((w3.setCell ⟨go, 0, none⟩ (.slice A2 D.length c2)).setCell ⟨go, 1, none⟩ (.int .i64 (rev + 1))) w.heap.size #[.slice A0 L.length c0, .int .i64 rev] 47) := ⟨IsBlk.far (IsBlk.far HS.out (by show _ ≠ go; omega) _) (by show _ ≠ go; omega) _⟩
                have HRn : Aside0 (IsBlk ((w3.setCell ⟨go, 0, none⟩ (.slice A2 D.length c2)).setCell ⟨go, 1, none⟩ (.int .i64 (rev + 1))) (w.heap.size + 1) #[.slice none 0 0, .int .i64 0] 47) := ⟨IsBlk.far (IsBlk.far HR.out (by show _ ≠ go; omega) _) (by show _ ≠ go; omega) _⟩
                have HBn : Aside0 (Below w.heap.size w ((w3.setCell ⟨go, 0, none⟩ (.slice A2 D.length c2)).setCell ⟨go, 1, none⟩ (.int .i64 (rev + 1)))) := ⟨by repeat (first | (with_reducible first | exact HB.out | apply below_alloc | apply pw_below_drewN | apply below_drew1) | refine below_set ?_ (by omega))⟩
                clear HO HO1 HX HX2 HS HR HB hgo
                have HO := HOn
                have HX := HXn
                have HS := HSn
                have HR := HRn
                have HB := HBn
                clear HOn HXn HSn HRn HBn
                generalize ((w3.setCell ⟨go, 0, none⟩ (.slice A2 D.length c2)).setCell ⟨go, 1, none⟩ (.int .i64 (rev + 1))) = w4 at *
                have HXC := HXC2
                clear HXC2 ck0 ck1 ck2 ck3
                obtain ⟨mb2, mo2, hA1, hmb2, ck0, ck1, ck2, ck3⟩ := el42 (Kd.C_below HC1.out HB.out) i hi0 hi
                cases hA1
                rw [HEL.out] at ck0 ck1 ck2 ck3
                dsimp only at ck0 ck1 ck2 ck3
                cases dd
                · obtain ⟨E, hE⟩ : ∃ E, K0.ins D ⟨kk, vv, rev + 1⟩ = E := ⟨_, rfl⟩
                  have HPF : Aside0 (pacesetterref08_put.f (D.length + 1) D (rev + 1) kk vv (rev + 1) = some (E, rev + 1)) := ⟨by rw [put_f D (rev + 1) kk vv (rev + 1) (by omega), hE]⟩
                  have HXE2 : Aside0 (E = ((asL M).take (i + 1).toNat).foldl (opL (rev + 1)) L) := ⟨by rw [HNX.out, ← hE, ← HDD.out]; rfl⟩
                  clear hE
                  have O_0 := blk_cell HO.out 0
                  have O_1 := blk_cell HO.out 1
                  simp only [List.getElem?_toArray, List.getElem?_cons_zero, List.getElem?_cons_succ] at O_0 O_1
                  have O_z0 := blk_frozen HO.out 0
                  have O_z1 := blk_frozen HO.out 1
                  go_upto_region 23 with fail
                  refine start_ (n := 16) (S := fun w' => w'.cell? ⟨go, 0, none⟩ = some (.slice A2 D.length c2) ∧ w'.cell? ⟨go, 1, none⟩ = some (.int .i64 (rev + 1)) ∧ w'.cell? ⟨mb, mo + i.toNat * 4, none⟩ = some (.string kk) ∧ w'.cell? ⟨mb, mo + i.toNat * 4 + 1, none⟩ = some (.string vv)) (ds := [15]) #[false, false, false, false, false, false, false, false, false, false, false, false, false, false, false, false] (by kernel_rfl) rfl rfl ⟨O_0, O_1, ck0, ck1⟩ (fun hHeld => ?_)
                  refine pure_ (i := 1) (N := some 104) (v := ?_) (a' := ?_) #[false, true, false, false, false, false, false, false, false, false, false, false, false, false, false, false] rfl rfl (by kernel_rfl) (fun _ _ _ h => h) (Or.inl ⟨by rfl, ?_⟩) ?_ ?_
                  rotate_left
                  · intro w'
                    go_simp
                    with_reducible rfl
                  rotate_left
                  · simp only [Act.put, List.setIfInBounds_toArray, List.set_cons_zero, List.set_cons_succ, i64_w, i32_w]
                    rfl
                  refine pure_ (i := 2) (N := some 105) (v := ?_) (a' := ?_) #[false, true, true, false, false, false, false, false, false, false, false, false, false, false, false, false] rfl rfl (by kernel_rfl) (fun _ _ _ h => h) (Or.inl ⟨by rfl, ?_⟩) ?_ ?_
                  rotate_left
                  · intro w'
                    go_simp
                    with_reducible rfl
                  rotate_left
                  · simp only [Act.put, List.setIfInBounds_toArray, List.set_cons_zero, List.set_cons_succ, i64_w, i32_w]
                    rfl
                  refine pure_ (i := 3) (N := some 106) (v := ?_) (a' := ?_) #[false, true, true, true, false, false, false, false, false, false, false, false, false, false, false, false] rfl rfl (by kernel_rfl) (fun _ _ _ h => h) (Or.inl ⟨by rfl, ?_⟩) ?_ ?_
                  rotate_left
                  · intro w'
                    go_simp
                    with_reducible rfl
                  rotate_left
                  · simp only [Act.put, List.setIfInBounds_toArray, List.set_cons_zero, List.set_cons_succ, i64_w, i32_w]
                    rfl
                  refine pure_ (i := 4) (N := some 107) (v := ?_) (a' := ?_) #[false, true, true, true, true, false, false, false, false, false, false, false, false, false, false, false] rfl rfl (by kernel_rfl) (fun _ _ _ h => h) (Or.inl ⟨by rfl, ?_⟩) ?_ ?_
                  rotate_left
                  · intro w'
                    go_simp
                    with_reducible rfl
                  rotate_left
                  · simp only [Act.put, List.setIfInBounds_toArray, List.set_cons_zero, List.set_cons_succ, i64_w, i32_w]
                    rfl
                  refine pure_ (i := 6) (N := some 109) (v := ?_) (a' := ?_) #[false, true, true, true, true, false, true, false, false, false, false, false, false, false, false, false] rfl rfl (by kernel_rfl) (fun _ _ _ h => h) (Or.inl ⟨by rfl, ?_⟩) ?_ ?_
                  rotate_left
                  · intro w'
                    go_simp
                    with_reducible rfl
                  rotate_left
                  · simp only [Act.put, List.setIfInBounds_toArray, List.set_cons_zero, List.set_cons_succ, i64_w, i32_w]
                    rfl
                  refine pure_ (i := 7) (N := some 110) (v := ?_) (a' := ?_) #[false, true, true, true, true, false, true, true, false, false, false, false, false, false, false, false] rfl rfl (by kernel_rfl) (fun _ _ _ h => h) (Or.inl ⟨by rfl, ?_⟩) ?_ ?_
                  rotate_left
                  · intro w'
                    go_simp
                    with_reducible rfl
                  rotate_left
                  · simp only [Act.put, List.setIfInBounds_toArray, List.set_cons_zero, List.set_cons_succ, i64_w, i32_w]
                    rfl
                  refine pure_ (i := 8) (N := some 111) (v := ?_) (a' := ?_) #[false, true, true, true, true, false, true, true, true, false, false, false, false, false, false, false] rfl rfl (by kernel_rfl) (fun _ _ _ h => h) (Or.inl ⟨by rfl, ?_⟩) ?_ ?_
                  rotate_left
                  · intro w'
                    go_simp
                    with_reducible rfl
                  rotate_left
                  · simp only [Act.put, List.setIfInBounds_toArray, List.set_cons_zero, List.set_cons_succ, i64_w, i32_w]
                    rfl
                  refine pure_ (i := 9) (N := some 112) (v := ?_) (a' := ?_) #[false, true, true, true, true, false, true, true, true, true, false, false, false, false, false, false] rfl rfl (by kernel_rfl) (fun _ _ _ h => h) (Or.inl ⟨by rfl, ?_⟩) ?_ ?_
                  rotate_left
                  · intro w'
                    go_simp
                    with_reducible rfl
                  rotate_left
                  · simp only [Act.put, List.setIfInBounds_toArray, List.set_cons_zero, List.set_cons_succ, i64_w, i32_w]
                    rfl
                  refine pure_ (i := 11) (N := some 114) (v := ?_) (a' := ?_) #[false, true, true, true, true, false, true, true, true, true, false, true, false, false, false, false] rfl rfl (by kernel_rfl) (fun _ _ _ h => h) (Or.inl ⟨by rfl, ?_⟩) ?_ ?_
                  rotate_left
                  · intro w'
                    go_simp
                    with_reducible rfl
                  rotate_left
                  · simp only [Act.put, List.setIfInBounds_toArray, List.set_cons_zero, List.set_cons_succ, i64_w, i32_w]
                    rfl
                  refine take_ (i := 0) (N := some 103) (v := ?_) (a' := ?_) #[true, true, true, true, true, false, true, true, true, true, false, true, false, false, false, false] rfl rfl (by kernel_rfl) (fun _ _ _ h => h) (Or.inl ⟨by rfl, ?_⟩) hHeld ?_ ?_
                  rotate_left
                  · rintro w' ⟨s0, s1, s2, s3⟩
                    go_simp
                    with_reducible rfl
                  rotate_left
                  · simp only [Act.put, List.setIfInBounds_toArray, List.set_cons_zero, List.set_cons_succ, i64_w, i32_w]
                    rfl
                  refine take_ (i := 5) (N := some 108) (v := ?_) (a' := ?_) #[true, true, true, true, true, true, true, true, true, true, false, true, false, false, false, false] rfl rfl (by kernel_rfl) (fun _ _ _ h => h) (Or.inl ⟨by rfl, ?_⟩) hHeld ?_ ?_
                  rotate_left
                  · rintro w' ⟨s0, s1, s2, s3⟩
                    go_simp
                    with_reducible rfl
                  rotate_left
                  · simp only [Act.put, List.setIfInBounds_toArray, List.set_cons_zero, List.set_cons_succ, i64_w, i32_w]
                    rfl
                  refine take_ (i := 10) (N := some 113) (v := ?_) (a' := ?_) #[true, true, true, true, true, true, true, true, true, true, true, true, false, false, false, false] rfl rfl (by kernel_rfl) (fun _ _ _ h => h) (Or.inl ⟨by rfl, ?_⟩) hHeld ?_ ?_
                  rotate_left
                  · rintro w' ⟨s0, s1, s2, s3⟩
                    go_simp
                    with_reducible rfl
                  rotate_left
                  · simp only [Act.put, List.setIfInBounds_toArray, List.set_cons_zero, List.set_cons_succ, i64_w, i32_w]
                    rfl
                  refine take_ (i := 12) (N := some 115) (v := ?_) (a' := ?_) #[true, true, true, true, true, true, true, true, true, true, true, true, true, false, false, false] rfl rfl (by kernel_rfl) (fun _ _ _ h => h) (Or.inl ⟨by rfl, ?_⟩) hHeld ?_ ?_
                  rotate_left
                  · rintro w' ⟨s0, s1, s2, s3⟩
                    go_simp
                    with_reducible rfl
                  rotate_left
                  · simp only [Act.put, List.setIfInBounds_toArray, List.set_cons_zero, List.set_cons_succ, i64_w, i32_w]
                    rfl
                  refine pure_ (i := 13) (N := some 116) (v := ?_) (a' := ?_) #[true, true, true, true, true, true, true, true, true, true, true, true, true, true, false, false] rfl rfl (by kernel_rfl) (fun _ _ _ h => h) (Or.inl ⟨by rfl, ?_⟩) ?_ ?_
                  rotate_left
                  · intro w'
                    go_simp
                    with_reducible rfl
                  rotate_left
                  · simp only [Act.put, List.setIfInBounds_toArray, List.set_cons_zero, List.set_cons_succ, i64_w, i32_w]
                    rfl
                  refine one_ (i := 14) (N := some 117) #[true, true, true, true, true, true, true, true, true, true, true, true, true, true, true, false] rfl rfl (by kernel_rfl) (by simp) (fun K hK => ?_)
                  refine goes_ Try.func32 (by kernel_rfl) rfl #[.agg #[.slice A2 D.length c2, .int .i64 (rev + 1)], .agg #[.string kk, .string vv, .int .i64 (rev + 1)]] (by rfl) rfl rfl (by simp only [List.map_toArray, List.map_cons, List.map_nil]; rfl) ?_
                  with_reducible refine (pacesetterref08_put.calls (D.length + 1) A2 c2 D (rev + 1) kk vv (rev + 1) E (rev + 1) _ ?side1 HXC.out HPF.out).mono ?_
                  (case side1 => exact Kd.C_below HX.out (by repeat (with_reducible first | exact Below.refl _ _ | apply below_alloc | apply pw_below_drewN | apply below_drew1)))
                  rintro e w6 ⟨v0, rfl, hR, hb1⟩
                  obtain ⟨A3, c3, rfl, hc2, hC2⟩ := Kd.R_reads hR
                  have n_HS : Aside0 (IsBlk w6 w.heap.size #[.slice A0 L.length c0, .int .i64 rev] 47) := ⟨IsBlk.below (by repeat (with_reducible first | exact HS.out | apply IsBlk.alloc | apply IsBlk.drew | apply IsBlk.drewN)) hb1⟩
                  have n_HR : Aside0 (IsBlk w6 (w.heap.size + 1) #[.slice none 0 0, .int .i64 0] 47) := ⟨IsBlk.below (by repeat (with_reducible first | exact HR.out | apply IsBlk.alloc | apply IsBlk.drew | apply IsBlk.drewN)) hb1⟩
                  have n_HO : Aside0 (IsBlk w6 go #[.slice A2 D.length c2, .int .i64 (rev + 1)] 47) := ⟨IsBlk.below (by repeat (with_reducible first | exact HO.out | apply IsBlk.alloc | apply IsBlk.drew | apply IsBlk.drewN)) hb1⟩
                  have n0 := Aside0.mk (below_step (by repeat (with_reducible first | exact HB.out | apply below_alloc | apply pw_below_drewN | apply below_drew1)) hb1)
                  clear HB HS HR HO
                  have HB := n0
                  clear n0
                  have HS := n_HS
                  clear n_HS
                  have HR := n_HR
                  clear n_HR
                  have HO := n_HO
                  clear n_HO
                  have HX2 := Aside0.mk hC2
                  have HXC2 := Aside0.mk hc2
                  clear hC2 hc2 hR
                  have O_0 := blk_cell HO.out 0
                  have O_1 := blk_cell HO.out 1
                  simp only [List.getElem?_toArray, List.getElem?_cons_zero, List.getElem?_cons_succ] at O_0 O_1
                  have O_z0 := blk_frozen HO.out 0
                  have O_z1 := blk_frozen HO.out 1
                  refine ⟨_, rfl, ?_⟩
                  refine hK.out _ _ ⟨cell_keep hb1 hHeld.1, cell_keep hb1 hHeld.2.1, cell_keep hb1 hHeld.2.2.1, cell_keep hb1 hHeld.2.2.2⟩ (fun hHeld => ?_)
                  clear hK K
                  refine norm_ (a' := ?_) ?_ ?_
                  rotate_left
                  · show Act.put _ (some 117) _ = _
                    simp only [Act.put, List.setIfInBounds_toArray, List.set_cons_zero, List.set_cons_succ, i64_w, i32_w]
                    rfl
                  refine last_ (i := 15) (N := none) #[true, true, true, true, true, true, true, true, true, true, true, true, true, true, true, true] rfl rfl (by kernel_rfl) (by simp) (fun K hK => ?_)
                  refine skip_ (w1 := ?_) (by rfl) rfl ?_ ?_
                  rotate_left
                  · go_simp
                    rfl
                  refine hK.out _ _ ?_
                  clear hK K
                  refine done_ (by kernel_rfl) ?_

                  clear O_0 O_1 O_z0 O_z1
                  have hgo := HGO.out
                  have HO1 := Aside0.mk (blk_put (cs := #[.slice A2 D.length c2, .int .i64 (rev + 1)]) (cs' := #[.slice A3 E.length c3, .int .i64 (rev + 1)]) HO.out 0 (.slice A3 E.length c3) rfl)
                  have HOn : Aside0 (IsBlk ((w6.setCell ⟨go, 0, none⟩ (.slice A3 E.length c3)).setCell ⟨go, 1, none⟩ (.int .i64 (rev + 1))) go #[.slice A3 E.length c3, .int .i64 (rev + 1)] 47) := ⟨blk_put (cs := #[.slice A3 E.length c3, .int .i64 (rev + 1)]) HO1.out 1 _ rfl⟩
                  have HXn : Aside0 (Kd.C k72 ((w6.setCell ⟨go, 0, none⟩ (.slice A3 E.length c3)).setCell ⟨go, 1, none⟩ (.int .i64 (rev + 1))) A3 E.length E) := ⟨c72_far HO1.out (c72_far HO.out HX2.out 0 _) 1 _⟩
                  have HSn : Aside0 (IsBlk ((w6.setCell ⟨go, 0, none⟩ (.slice A3 E.length c3)).setCell ⟨go, 1, none⟩ (.int .i64 (rev + 1))) w.heap.size #[.slice A0 L.length c0, .int .i64 rev] 47) := ⟨IsBlk.far (IsBlk.far HS.out (by show _ ≠ go; omega) _) (by show _ ≠ go; omega) _⟩
                  have HRn : Aside0 (IsBlk ((w6.setCell ⟨go, 0, none⟩ (.slice A3 E.length c3)).setCell ⟨go, 1, none⟩ (.int .i64 (rev + 1))) (w.heap.size + 1) #[.slice none 0 0, .int .i64 0] 47) := ⟨IsBlk.far (IsBlk.far HR.out (by show _ ≠ go; omega) _) (by show _ ≠ go; omega) _⟩
                  have HBn : Aside0 (Below w.heap.size w ((w6.setCell ⟨go, 0, none⟩ (.slice A3 E.length c3)).setCell ⟨go, 1, none⟩ (.int .i64 (rev + 1)))) := ⟨by repeat (first | (with_reducible first | exact HB.out | apply below_alloc | apply pw_below_drewN | apply below_drew1) | refine below_set ?_ (by omega))⟩
                  clear HO HO1 HX HX2 HS HR HB hgo
                  have HO := HOn
                  have HX := HXn
                  have HS := HSn
                  have HR := HRn
                  have HB := HBn
                  clear HOn HXn HSn HRn HBn
                  generalize ((w6.setCell ⟨go, 0, none⟩ (.slice A3 E.length c3)).setCell ⟨go, 1, none⟩ (.int .i64 (rev + 1))) = w7 at *
                  clear ck0 ck1 ck2 ck3
                  go_wp2
                  exact ⟨⟨i + 1, A3, c3, E, rfl, ⟨by omega⟩, HXE2, HO, HXC2, HX, HS, HR, ⟨by repeat (first | (with_reducible first | exact HB.out | apply below_alloc | apply pw_below_drewN | apply below_drew1) | refine below_set ?_ (by omega))⟩⟩, by simp only [intOf]; omega⟩
                · have HXE2 : Aside0 (D = ((asL M).take (i + 1).toNat).foldl (opL (rev + 1)) L) := ⟨by rw [HNX.out, ← HDD.out]; rfl⟩
                  go_wp2
                  exact ⟨⟨i + 1, A2, c2, D, rfl, ⟨by omega⟩, HXE2, HO, HXC, HX, HS, HR, ⟨by repeat (first | (with_reducible first | exact HB.out | apply below_alloc | apply pw_below_drewN | apply below_drew1) | refine below_set ?_ (by omega))⟩⟩, by simp only [intOf]; omega⟩
              · have t1 : decide (i < (M.length : Int)) = false := decide_eq_false hi
                have HXF : Aside0 ((asL M).foldl (opL (rev + 1)) L = X) := ⟨by rw [HXE.out, List.take_of_length_le (by rw [asL_len]; have := HI.out; omega)]⟩
                have HD4 := Aside0.mk (do40 HG.out HRB.out HA7.out HA5.out)
                rw [HXF.out] at HD4
                clear HXE HXF hi
                have O_0 := blk_cell HO.out 0
                have O_1 := blk_cell HO.out 1
                simp only [List.getElem?_toArray, List.getElem?_cons_zero, List.getElem?_cons_succ] at O_0 O_1
                have O_z0 := blk_frozen HO.out 0
                have O_z1 := blk_frozen HO.out 1
                by_cases h6 : 64 < X.length
                · have t2 : decide (64 < (X.length : Int)) = true := decide_eq_true (by omega)
                  have S_0 := blk_cell HS.out 0
                  have S_1 := blk_cell HS.out 1
                  simp only [List.getElem?_toArray, List.getElem?_cons_zero, List.getElem?_cons_succ] at S_0 S_1
                  have S_z0 := blk_frozen HS.out 0
                  have S_z1 := blk_frozen HS.out 1
                  have R_0 := blk_cell HR.out 0
                  have R_1 := blk_cell HR.out 1
                  simp only [List.getElem?_toArray, List.getElem?_cons_zero, List.getElem?_cons_succ] at R_0 R_1
                  have R_z0 := blk_frozen HR.out 0
                  have R_z1 := blk_frozen HR.out 1
                  have HD := Aside0.mk ((HD4.out.trans (if_pos h6)))
                  go_wp2
                  refine bodyPost_ret (results_ctt rfl _ _ (w.heap.size + 1) 47 #[.slice A0 L.length c0, .int .i64 rev] (0, 0) _ rfl (by refine blk_put (cs := #[.slice A0 L.length c0, .int .i64 0]) ?_ 1 _ rfl; refine blk_put (cs := #[.slice none 0 0, .int .i64 0]) ?_ 0 _ rfl; exact HR.out) Try.underlying47 rfl (by kernel_rfl)) rfl ?_
                  rw [HD.out]
                  exact ⟨A0, c0, rfl, HL0.out, Kd.C_below HC0.out (by repeat (first | (with_reducible first | exact HB.out | apply below_alloc | apply pw_below_drewN | apply below_drew1) | refine below_set ?_ (by omega))), by repeat (first | (with_reducible first | exact HB.out | apply below_alloc | apply pw_below_drewN | apply below_drew1) | refine below_set ?_ (by omega))⟩
                · have t2 : decide (64 < (X.length : Int)) = false := decide_eq_false (by omega)
                  have HD := Aside0.mk (HD4.out.trans (if_neg h6))
                  clear HD4
                  have R_0 := blk_cell HR.out 0
                  have R_1 := blk_cell HR.out 1
                  simp only [List.getElem?_toArray, List.getElem?_cons_zero, List.getElem?_cons_succ] at R_0 R_1
                  have R_z0 := blk_frozen HR.out 0
                  have R_z1 := blk_frozen HR.out 1
                  have hgo := HGO.out
                  go_upto_region 26 with fail
                  refine start_ (n := 6) (S := fun w' => w'.cell? ⟨go, 0, none⟩ = some (.slice A X.length c) ∧ w'.cell? ⟨go, 1, none⟩ = some (.int .i64 (rev + 1))) (ds := []) #[false, false, false, false, false, false] (by kernel_rfl) rfl rfl ⟨O_0, O_1⟩ (fun hHeld => ?_)
                  refine pure_ (i := 1) (N := some 124) (v := ?_) (a' := ?_) #[false, true, false, false, false, false] rfl rfl (by kernel_rfl) (fun _ _ _ h => h) (Or.inl ⟨by rfl, ?_⟩) ?_ ?_
                  rotate_left
                  · intro w'
                    go_simp
                    with_reducible rfl
                  rotate_left
                  · simp only [Act.put, List.setIfInBounds_toArray, List.set_cons_zero, List.set_cons_succ, i64_w, i32_w]
                    rfl
                  refine take_ (i := 0) (N := some 123) (v := ?_) (a' := ?_) #[true, true, false, false, false, false] rfl rfl (by kernel_rfl) (fun _ _ _ h => h) (Or.inl ⟨by rfl, ?_⟩) hHeld ?_ ?_
                  rotate_left
                  · rintro w' ⟨s0, s1⟩
                    go_simp
                    with_reducible rfl
                  rotate_left
                  · simp only [Act.put, List.setIfInBounds_toArray, List.set_cons_zero, List.set_cons_succ, i64_w, i32_w]
                    rfl
                  refine take_ (i := 2) (N := some 125) (v := ?_) (a' := ?_) #[true, true, true, false, false, false] rfl rfl (by kernel_rfl) (fun _ _ _ h => h) (Or.inl ⟨by rfl, ?_⟩) hHeld ?_ ?_
                  rotate_left
                  · rintro w' ⟨s0, s1⟩
                    go_simp
                    with_reducible rfl
                  rotate_left
                  · simp only [Act.put, List.setIfInBounds_toArray, List.set_cons_zero, List.set_cons_succ, i64_w, i32_w]
                    rfl
                  refine one_ (i := 3) (N := none) #[true, true, true, true, false, false] rfl rfl (by kernel_rfl) (by simp) (fun K hK => ?_)
                  refine skip_ (w1 := ?_) (by rfl) rfl ?_ ?_
                  rotate_left
                  · go_simp
                    rfl
                  refine hK.out _ _ ⟨((cell_far (W := wz.setCell ⟨(w.heap.size + 1), 0, none⟩ (.slice A X.length c)) (p := ⟨(w.heap.size + 1), 1, none⟩) (a := ⟨go, 0, none⟩) (by show go ≠ (w.heap.size + 1); omega) (.int .i64 (rev + 1))).trans ((cell_far (W := wz) (p := ⟨(w.heap.size + 1), 0, none⟩) (a := ⟨go, 0, none⟩) (by show go ≠ (w.heap.size + 1); omega) (.slice A X.length c)).trans O_0)), ((cell_far (W := wz.setCell ⟨(w.heap.size + 1), 0, none⟩ (.slice A X.length c)) (p := ⟨(w.heap.size + 1), 1, none⟩) (a := ⟨go, 1, none⟩) (by show go ≠ (w.heap.size + 1); omega) (.int .i64 (rev + 1))).trans ((cell_far (W := wz) (p := ⟨(w.heap.size + 1), 0, none⟩) (a := ⟨go, 1, none⟩) (by show go ≠ (w.heap.size + 1); omega) (.slice A X.length c)).trans O_1))⟩ (fun hHeld => ?_)
                  clear hK K
                  refine pure_ (i := 4) (N := some 5) (v := ?_) (a' := ?_) #[true, true, true, true, true, false] rfl rfl (by kernel_rfl) (fun _ _ _ h => h) (Or.inl ⟨by rfl, ?_⟩) ?_ ?_
                  rotate_left
                  · intro w'
                    go_simp
                    with_reducible rfl
                  rotate_left
                  · simp only [Act.put, List.setIfInBounds_toArray, List.set_cons_zero, List.set_cons_succ, i64_w, i32_w]
                    rfl
                  refine pure_ (i := 5) (N := some 6) (v := ?_) (a' := ?_) #[true, true, true, true, true, true] rfl rfl (by kernel_rfl) (fun _ _ _ h => h) (Or.inl ⟨by rfl, ?_⟩) ?_ ?_
                  rotate_left
                  · intro w'
                    go_simp
                    with_reducible rfl
                  rotate_left
                  · simp only [Act.put, List.setIfInBounds_toArray, List.set_cons_zero, List.set_cons_succ, i64_w, i32_w]
                    rfl
                  refine done_ (by kernel_rfl) ?_

                  go_wp2
                  have HR1 := Aside0.mk (blk_put (cs := #[.slice none 0 0, .int .i64 0]) (cs' := #[.slice A X.length c, .int .i64 0]) HR.out 0 (.slice A X.length c) rfl)
                  refine bodyPost_ret (results_ctt rfl _ _ (w.heap.size + 1) 47 #[.slice A X.length c, .int .i64 (rev + 1)] (0, 0) _ rfl (by refine blk_drew ?_; refine blk_put (cs := #[.slice A X.length c, .int .i64 0]) ?_ 1 _ rfl; exact HR1.out) Try.underlying47 rfl (by kernel_rfl)) rfl ?_
                  rw [HD.out]
                  exact ⟨A, c, rfl, HXC.out, Kd.C_drew (c72_far HR1.out (c72_far HR.out HX.out 0 _) 1 _), by repeat (first | (with_reducible first | exact HB.out | apply below_alloc | apply pw_below_drewN | apply below_drew1) | refine below_set ?_ (by omega))⟩
end Go.Proofs.Ytnmnojapacflgaa.K18
