/-
  Proved here: KvSince answers true and leaves the memory that was there. No condition but how the rows read.
-/
import Derived.Test.YtnmnojapacflgaaK15
import Derived.Sort.Walk0
namespace Go.Proofs.Ytnmnojapacflgaa.WalkKvSince
open Go.Proofs.Ytnmnojapacflgaa.M Go.Proofs.Ytnmnojapacflgaa.K0 Go.RowKit Go.Maps Go.Sort Go.Proofs.YtnmnojapacflgaaW.PrintWords Go.Proofs.YtnmnojapacflgaaW.PrintLast Go.Proofs.YtnmnojapacflgaaW.PrintMore Go.Proofs.Ytnmnojapacflgaa.PKvPlays Go.Proofs.Ytnmnojapacflgaa.K1 Go.Proofs.Ytnmnojapacflgaa.K2 Go.Proofs.Ytnmnojapacflgaa.K3 Go.Proofs.Ytnmnojapacflgaa.K4 Go.Proofs.Ytnmnojapacflgaa.K5 Go.Proofs.Ytnmnojapacflgaa.K6 Go.Proofs.Ytnmnojapacflgaa.K9 Go.Proofs.Ytnmnojapacflgaa.K10 Go.Proofs.Ytnmnojapacflgaa.K12 Go.Proofs.Ytnmnojapacflgaa.K14 Go.Proofs.Ytnmnojapacflgaa.K15
set_option linter.unusedVariables false
set_option linter.unusedSimpArgs false
attribute [local go_sem] max2_int min2_int max_two min_two run_makeMap field_entry
theorem less_flip : ∀ (a b : List UInt8), (!(Op.bytesLess a b || a == b)) = Op.bytesLess b a
  | [], [] => by simp [Op.bytesLess]
  | [], b :: y => by simp [Op.bytesLess]
  | a :: x, [] => by simp [Op.bytesLess]
  | a :: x, b :: y => by
    have ih := less_flip x y
    unfold Op.bytesLess
    rw [← ih]
    have h1 : (a < b) ↔ a.toNat < b.toNat := Iff.rfl
    have h2 : (b < a) ↔ b.toNat < a.toNat := Iff.rfl
    have h3 : (a = b) ↔ a.toNat = b.toNat := ⟨fun e => by rw [e], fun e => UInt8.toNat.inj e⟩
    rcases Nat.lt_trichotomy a.toNat b.toNat with h | h | h
    · have e1 : a < b := h
      have e2 : ¬ b < a := fun e => by have := h2.1 e; omega
      have e3 : ¬ a = b := fun e => by have := h3.1 e; omega
      have e4 : ¬ b = a := fun e => e3 e.symm
      simp [e1, e2, e3, e4]
    · have e3 : a = b := h3.2 h
      subst e3
      have e1 : ¬ a < a := fun e => by have := h1.1 e; omega
      simp [e1]
    · have e1 : ¬ a < b := fun e => by have := h1.1 e; omega
      have e2 : b < a := h
      have e3 : ¬ a = b := fun e => by have := h3.1 e; omega
      have e4 : ¬ b = a := fun e => e3 e.symm
      simp [e1, e2, e3, e4]
theorem binOp_string_leq' (t : TypeId) (a b : ByteArray) : binOp .leq t (.string a) (.string b) = pure (.bool (!Op.bytesLess b.toList a.toList)) := by rw [← less_flip]; simp [binOp, Op.stringOp]
attribute [local go_sem] binOp_string_leq'
theorem i64_wrap64 (n : Int) : IntKind.i64.wrap n = wrap64 n := by
  simp [IntKind.wrap, IntKind.signed, IntKind.bits, wrap64]
  split <;> omega
theorem getD_drop {α : Type} (L : List α) (i : Nat) (hi : i < L.length) (d e : α) (he : L.getD i d = e) : L.drop i = e :: L.drop (i + 1) ∧ L.take (i + 1) = L.take i ++ [e] := by
  have : L[i] = e := by rw [← he]; simp [hi]
  rw [List.drop_eq_getElem_cons hi, List.take_succ_eq_append_getElem hi, this]
  exact ⟨rfl, rfl⟩
theorem since_next (L : List S72) (r : Int) (i : Nat) (hi : i < L.length) (e : S72) (he : L.getD i z72 = e) : (since (L.take (i + 1)) r).length = (since (L.take i) r).length + (if decide (r < e.f2) = true then 1 else 0) := by
  rw [(getD_drop L i hi z72 e he).2]
  unfold since
  rw [List.filter_append, List.map_append, List.length_append]
  congr 1
  by_cases h : decide (r < e.f2) = true
  · rw [if_pos h]
    rw [show [e].filter (fun x => decide (r < x.f2)) = [e] from by simpa using h]
    rfl
  · rw [if_neg h]
    rw [show [e].filter (fun x => decide (r < x.f2)) = [] from by simpa using h]
    rfl
theorem since_at (L : List S72) (r : Int) (i : Nat) (hi : i < L.length) (e : S72) (he : L.getD i z72 = e) (h : decide (r < e.f2) = true) : (since (L.take i) r).length < (since L r).length ∧ (since L r).getD (since (L.take i) r).length ze = e.f0 := by
  have hs : since L r = since (L.take i) r ++ e.f0 :: since (L.drop (i + 1)) r := by
    conv => lhs; rw [← List.take_append_drop i L, (getD_drop L i hi z72 e he).1]
    unfold since
    rw [List.filter_append, List.map_append, List.filter_cons, if_pos h]
    rfl
  rw [hs]
  refine ⟨by simp, ?_⟩
  simp
theorem rise_le (L : List S72) (hr : Rise L) (i : Nat) (h0 : 0 < i) (hi : i < L.length) : (L.getD (i - 1) z72).f0.data.toList < (L.getD i z72).f0.data.toList := by
  have := List.pairwise_iff_getElem.1 hr (i - 1) i (by omega) hi (by omega)
  simpa [hi, show i - 1 < L.length by omega] using this
set_option maxHeartbeats 8000000 in
set_option maxRecDepth 100000 in
theorem since_w (A0 : Option Addr) (c0 : Nat) (P : List (List S42)) (r : Int) (W : World) (hr : K15.Rows W A0 P) (hc : P.length ≤ c0) : Calls Try.prog 3 #[.slice A0 P.length c0, .int .i64 r] W fun e w' => e = .returned (.bool true) ∧ Below W.heap.size W w' := by
  have HB := Aside0.mk (Below.refl W.heap.size W)
  have HR := Aside0.mk hr
  have hPm := hr.max
  clear hr hc
  go_enter Try.func3, Try.ntmps3
  go_wp2_with fail
  refine (K10.lives_q _).mono ?_
  rintro e w1 ⟨rfl, hb1⟩
  have n0 := Aside0.mk (below_step (by repeat (first | (with_reducible first | exact HB.out | apply below_alloc | apply pw_below_drewN | apply below_drew1) | refine below_set ?_ (by omega))) hb1)
  clear HB hb1
  have HB := n0
  clear n0
  go_wp2_with fail
  refine (new_q _).mono ?_
  rintro e w2 ⟨rfl, hk1, hb1⟩
  have HGQ : Aside0 (W.heap.size ≤ w1.heap.size + 1 ∧ W.heap.size ≤ w1.heap.size) := ⟨by have := HB.out.size; omega⟩
  have n0 := Aside0.mk (below_step (by repeat (first | (with_reducible first | exact HB.out | apply below_alloc | apply pw_below_drewN | apply below_drew1) | refine below_set ?_ (by omega))) hb1)
  clear HB hb1
  have HB := n0
  clear n0
  obtain ⟨g, hg⟩ : ∃ g, w1.heap.size + 1 = g := ⟨_, rfl⟩
  obtain ⟨q, hq⟩ : ∃ g, w1.heap.size = g := ⟨_, rfl⟩
  rw [hg, hq] at HGQ hk1
  rw [hg]
  have HK := Aside0.mk hk1
  clear hg hq hk1
  go_wp2_with fail
  go_loopw [6] (fun v6 wr => ∃ (i rev : Int) (L : List S72), v6 = .int .i64 i ∧ Aside0 (0 ≤ i ∧ i ≤ 30) ∧ Aside0 (Kv wr g q rev L) ∧ Aside0 (K14.Good i rev L) ∧ Aside0 (Below W.heap.size W wr)) (fun v6 _ => (35 - intOf v6).toNat)
  case atStart => exact ⟨0, 0, [], rfl, ⟨by omega⟩, HK, ⟨K14.Good.nil⟩, ⟨by repeat (first | (with_reducible first | exact HB.out | apply below_alloc | apply pw_below_drewN | apply below_drew1) | refine below_set ?_ (by omega))⟩⟩
  case round =>
    clear HB HK
    obtain ⟨i, rev, L, rfl, HI, HK, HG, HB⟩ := hrel
    obtain ⟨wq, hwq⟩ : ∃ x, x = wr := ⟨_, rfl⟩
    subst hwq
    by_cases hd : i < P.length ∧ i < 30
    · obtain ⟨hi, hi4⟩ := hd
      have t1 : decide (i < (P.length : Int)) = true := decide_eq_true hi
      · have t2 : decide (i < 30) = true := decide_eq_true hi4
        have hi0 : 0 ≤ i := HI.out.1
        have HIL := Aside0.mk (And.intro hi0 hi4)
        obtain ⟨kb, ko, B1, cb, rfl, hkb, ck, hcb, hCb⟩ := HR.out.at_ i HI.out.1 hi
        obtain ⟨E, hE⟩ : ∃ E, P.getD i.toNat [] = E := ⟨_, rfl⟩
        rw [hE] at ck hcb hCb
        replace ck := (HB.out.cell (World.block_lt_of_cell? W _ ck)).trans ck
        have HCb := Aside0.mk (Kd.C_below hCb HB.out)
        have HCc := Aside0.mk hcb
        clear hCb hcb hE
        go_wp2_with fail
        refine (K11.ops_c B1 cb E _ HCb.out HCc.out).mono ?_
        rintro e y1 ⟨A1, c1, rfl, h1, h2, hb1⟩
        have HO := Aside0.mk (opsL_len E)
        have HSH := Aside0.mk (ops_short E)
        obtain ⟨M, hM⟩ : ∃ M, opsL E = M := ⟨_, rfl⟩
        rw [hM] at h1 h2 HO HSH
        rw [hM]
        have HMC := Aside0.mk h1
        have HM0 := Aside0.mk h2
        clear h1 h2 hM HCb HCc
        have n_HK := Aside0.mk (HK.out.below hb1)
        have n0 := Aside0.mk (below_step (by repeat (first | (with_reducible first | exact HB.out | apply below_alloc | apply pw_below_drewN | apply below_drew1) | refine below_set ?_ (by omega))) hb1)
        clear HB hb1
        have HB := n0
        clear n0
        clear HK
        have HK := n_HK
        clear n_HK
        have HM := Aside0.mk (show Kd.C k42 _ A1 M.length M from HM0.out)
        clear HM0 ck hkb
        go_wp2_with fail
        refine (K11.as_c A1 c1 M _ HM.out HMC.out (by have := HO.out; omega)).mono ?_
        rintro e y2 ⟨A3, c3, rfl, h1, h2, hb1⟩
        have HAL : Aside0 ((asL M).length ≤ 70) := ⟨by rw [asL_len]; exact HO.out⟩
        have HAC := Aside0.mk h1
        have HA := Aside0.mk h2
        clear h1 h2
        have n_HK := Aside0.mk (HK.out.below hb1)
        have n_HM := Aside0.mk (Kd.C_below HM.out hb1)
        have n0 := Aside0.mk (below_step (by repeat (first | (with_reducible first | exact HB.out | apply below_alloc | apply pw_below_drewN | apply below_drew1) | refine below_set ?_ (by omega))) hb1)
        clear HB hb1
        have HB := n0
        clear n0
        clear HK
        have HK := n_HK
        clear n_HK
        clear HM
        have HM := n_HM
        clear n_HM
        go_wp2_with fail
        refine (do_q g q rev L A3 c3 (asL M) _ HK.out HA.out HAC.out (by have := HAL.out; have := HG.out.len; omega) (by have := HG.out.rev0; have := HG.out.revn; have := HIL.out; omega)).mono ?_
        obtain ⟨⟨nn, er, rv, L2⟩, hd⟩ : ∃ x, doL rev L (asL M) = x := ⟨_, rfl⟩
        have HG2 := Aside0.mk (do_good (asL M) HG.out)
        rw [hd] at HG2 ⊢
        rintro e y3 ⟨rfl, hk1, hb1⟩
        have n_HK := Aside0.mk hk1
        have n_HM := Aside0.mk (c42_but HK.out HM.out hb1)
        have n0 := Aside0.mk (HB.out.trans (hb1.far HB.out.size HGQ.out.1 HGQ.out.2))
        clear HB hb1 hk1
        have HB := n0
        clear n0
        clear HK
        have HK := n_HK
        clear n_HK
        clear HM
        have HM := n_HM
        clear n_HM
        clear hd HM HA HAC HAL
        go_wp2
        exact ⟨⟨i + 1, rv, L2, rfl, ⟨by have := HIL.out; omega⟩, HK, HG2, ⟨by repeat (first | (with_reducible first | exact HB.out | apply below_alloc | apply pw_below_drewN | apply below_drew1) | refine below_set ?_ (by omega))⟩⟩, by have := HIL.out; simp only [intOf]; omega⟩
    · have HDI := Aside0.mk (And.intro hd HI.out)
      clear hd HI
      have t0 : (decide (i < (P.length : Int)) = true ∧ decide (i < 30) = false) ∨ decide (i < (P.length : Int)) = false := by
        have := HDI.out.1
        by_cases h1 : i < P.length
        · exact .inl ⟨decide_eq_true h1, decide_eq_false fun h2 => this ⟨h1, h2⟩⟩
        · exact .inr (decide_eq_false h1)
      rcases t0 with ⟨t5, t6⟩ | t5
      · skip
        have HM := Aside0.mk HG.out.len
        go_wp2_with fail
        refine (keys_q g q rev L _ HK.out (by have := HM.out; omega)).mono ?_
        rintro e y41 ⟨v, rfl, hGv, hb1⟩
        obtain ⟨A2, c2, rfl, hkc, hks⟩ := gave_slice hGv
        have HKC := Aside0.mk hkc
        have HS := Aside0.mk hks
        clear hkc hks hGv
        have n_HK := Aside0.mk (HK.out.below hb1)
        have n0 := Aside0.mk (below_step (by repeat (first | (with_reducible first | exact HB.out | apply below_alloc | apply pw_below_drewN | apply below_drew1) | refine below_set ?_ (by omega))) hb1)
        clear HB hb1
        have HB := n0
        clear n0
        clear HK
        have HK := n_HK
        clear n_HK
        go_wp2_with fail
        refine (since_q g q rev L r _ HK.out (by have := HM.out; omega)).mono ?_
        rintro e y42 ⟨v, rfl, hGv, hb1⟩
        obtain ⟨A4, c4, rfl, hkc, hks⟩ := gave_slice hGv
        have HKC4 := Aside0.mk hkc
        have HO := Aside0.mk hks
        clear hkc hks hGv
        have n_HK := Aside0.mk (HK.out.below hb1)
        have n_HS := Aside0.mk (Kd.C_below HS.out hb1)
        have n0 := Aside0.mk (below_step (by repeat (first | (with_reducible first | exact HB.out | apply below_alloc | apply pw_below_drewN | apply below_drew1) | refine below_set ?_ (by omega))) hb1)
        clear HB hb1
        have HB := n0
        clear n0
        clear HK
        have HK := n_HK
        clear n_HK
        clear HS
        have HS := n_HS
        clear n_HS
        obtain ⟨X, hX⟩ : ∃ X, since L 0 = X := ⟨_, rfl⟩
        obtain ⟨Y, hY⟩ : ∃ X, since L r = X := ⟨_, rfl⟩
        have hXL : X = L.map (·.f0) := by rw [← hX]; exact since_all HG.out
        have hXn : X.length = L.length := by rw [hXL, List.length_map]
        have hYn : Y.length ≤ L.length := by rw [← hY]; exact since_len L r
        rw [hX] at HS HKC ⊢
        rw [hY] at HO HKC4 ⊢
        have HX := Aside0.mk hXL
        have HXN := Aside0.mk hXn
        have HYN := Aside0.mk hYn
        have HY := Aside0.mk hY
        clear hX hY hXL hXn hYn
        go_wp2_with fail
        go_loopw [9, 10] (fun v9 v10 wr => ∃ (i k : Int), v10 = .int .i64 i ∧ v9 = .int .i64 k ∧ Aside0 (k = ((since (L.take i.toNat) r).length : Nat)) ∧ Aside0 (0 ≤ i ∧ i ≤ X.length) ∧ Aside0 (Kv wr g q rev L) ∧ Aside0 (Kd.C Kd.string wr A2 X.length X) ∧ Aside0 (Kd.C Kd.string wr A4 Y.length Y) ∧ Aside0 (Below W.heap.size W wr)) (fun _ v10 _ => (X.length + 5 - intOf v10).toNat)
        case atStart => exact ⟨0, 0, rfl, rfl, ⟨rfl⟩, ⟨by omega⟩, HK, HS, HO, ⟨by repeat (first | (with_reducible first | exact HB.out | apply below_alloc | apply pw_below_drewN | apply below_drew1) | refine below_set ?_ (by omega))⟩⟩
        case round =>
          clear HB HK HS HO
          obtain ⟨i, k, rfl, rfl, HKN, HI, HK, HS, HO, HB⟩ := hrel
          obtain ⟨wz, hwz⟩ : ∃ x, x = wr := ⟨_, rfl⟩
          subst hwz
          by_cases hi : i < X.length
          · have t1 : decide (i < (X.length : Int)) = true := decide_eq_true hi
            have hi0 : 0 ≤ i := HI.out.1
            have hiL : i.toNat < L.length := by have := HXN.out; omega
            obtain ⟨kb, ko, rfl, hkb, ck⟩ := elS HS.out i hi0 hi
            obtain ⟨⟨kk, vv, rr⟩, he⟩ : ∃ e, L.getD i.toNat z72 = e := ⟨_, rfl⟩
            have hmem : (⟨kk, vv, rr⟩ : S72) ∈ L := by rw [← he, List.getD_eq_getElem?_getD, List.getElem?_eq_getElem hiL]; exact List.getElem_mem hiL
            have hXi : X.getD i.toNat ze = kk := by rw [HX.out]; simp [hiL] at he ⊢; rw [he]
            rw [hXi] at ck
            have hsn := since_next L r i.toNat hiL ⟨kk, vv, rr⟩ he
            have hsy := since_at L r i.toNat hiL ⟨kk, vv, rr⟩ he
            rw [HY.out] at hsy
            rw [show i.toNat + 1 = (i + 1).toNat by omega] at hsn
            have HKN1 := HKN.out
            obtain ⟨sn, hsn0⟩ : ∃ n, (since (L.take i.toNat) r).length = n := ⟨_, rfl⟩
            rw [hsn0] at hsn hsy HKN1
            have HKS := Aside0.mk HKN1
            clear hsn0 HKN HKN1
            have hlook := look_self HK.out.map.rise hmem
            have hlo := HG.out.lo _ hmem
            have hhi := HG.out.hi _ hmem
            dsimp only at hsn hsy hlook hlo hhi
            have HSN := Aside0.mk hsn
            have HSY := Aside0.mk hsy
            have HLK := Aside0.mk hlook
            have t2 : decide (rr < 1) = false := decide_eq_false (by omega)
            have t3 : decide (rev < rr) = false := decide_eq_false (by omega)
            have HMM := Aside0.mk hmem
            have HE0 := Aside0.mk he
            clear hsn hsy hlook hlo hhi he
            have hXm : X.length ≤ 64 := by have := HXN.out; have := HM.out; omega
            have HKK := Aside0.mk (key_le HK.out.map _ hmem)
            dsimp only at HKK
            go_upto_region 13 with fail
            by_cases h0 : 0 < i
            · have t4 : decide (0 < i) = true := decide_eq_true h0
              have hle := rise_le L HK.out.map.rise i.toNat (by omega) hiL
              obtain ⟨j, hj⟩ : ∃ j, i - 1 = j := ⟨_, rfl⟩
              have hw : IntKind.i64.wrap (i - 1) = j := by rw [← hj, i64_wrap64]; exact K1.wrap64_eq (by omega) (by omega)
              have hj0 : 0 ≤ j := by omega
              have hj1 : j < X.length := by omega
              obtain ⟨kb1, ko1, hA1, hkb1, ck1⟩ := elS HS.out j hj0 hj1
              cases hA1
              have hXj : X.getD j.toNat ze = (L.getD (i.toNat - 1) z72).f0 := by
                have hjL : i.toNat - 1 < L.length := by omega
                rw [show j.toNat = i.toNat - 1 by omega, HX.out]; simp [hjL]
              rw [hXj] at ck1
              obtain ⟨pp, hpp⟩ : ∃ p, (L.getD (i.toNat - 1) z72).f0 = p := ⟨_, rfl⟩
              rw [hpp] at ck1 hle
              have hle2 : pp.data.toList < kk.data.toList := by rw [HE0.out] at hle; exact hle
              have t5 : Op.bytesLess pp.toList kk.toList = true := by rw [Go.Proofs.bytesLess_eq, ByteArray.toList_eq, ByteArray.toList_eq]; exact decide_eq_true hle2
              clear hj hXj hpp hle hle2
              go_quiet (fail)
              clear hw hj0 hj1 ck1 hkb1 t5
              have hb1 : Below wz.heap.size wz (wz.drewN nq) := by apply pw_below_drewN; exact Below.refl _ _
              replace ck := (hb1.cell (World.block_lt_of_cell? _ _ ck)).trans ck
              have n_HK := Aside0.mk (HK.out.below hb1)
              have n_HS := Aside0.mk (Kd.C_below HS.out hb1)
              have n_HO := Aside0.mk (Kd.C_below HO.out hb1)
              have n0 := Aside0.mk (below_step (by repeat (first | (with_reducible first | exact HB.out | apply below_alloc | apply pw_below_drewN | apply below_drew1) | refine below_set ?_ (by omega))) hb1)
              clear HB hb1
              have HB := n0
              clear n0
              clear HK
              have HK := n_HK
              clear n_HK
              clear HS
              have HS := n_HS
              clear n_HS
              clear HO
              have HO := n_HO
              clear n_HO
              generalize wz.drewN nq = wy at *
              have hg := fun w h => get_q g q rev L kk HKK.out w h
              rw [HLK.out] at hg
              go_wp2_with fail
              refine (hg _ HK.out).mono ?_
              rintro e y51 ⟨rfl, hb1⟩
              replace ck := (hb1.cell (World.block_lt_of_cell? _ _ ck)).trans ck
              have n_HK := Aside0.mk (HK.out.below hb1)
              have n_HS := Aside0.mk (Kd.C_below HS.out hb1)
              have n_HO := Aside0.mk (Kd.C_below HO.out hb1)
              have n0 := Aside0.mk (below_step (by repeat (first | (with_reducible first | exact HB.out | apply below_alloc | apply pw_below_drewN | apply below_drew1) | refine below_set ?_ (by omega))) hb1)
              clear HB hb1
              have HB := n0
              clear n0
              clear HK
              have HK := n_HK
              clear n_HK
              clear HS
              have HS := n_HS
              clear n_HS
              clear HO
              have HO := n_HO
              clear n_HO
              go_wp2_with fail
              refine (rev_q g q rev L _ HK.out).mono ?_
              rintro e y52 ⟨rfl, hb1⟩
              replace ck := (hb1.cell (World.block_lt_of_cell? _ _ ck)).trans ck
              have n_HK := Aside0.mk (HK.out.below hb1)
              have n_HS := Aside0.mk (Kd.C_below HS.out hb1)
              have n_HO := Aside0.mk (Kd.C_below HO.out hb1)
              have n0 := Aside0.mk (below_step (by repeat (first | (with_reducible first | exact HB.out | apply below_alloc | apply pw_below_drewN | apply below_drew1) | refine below_set ?_ (by omega))) hb1)
              clear HB hb1
              have HB := n0
              clear n0
              clear HK
              have HK := n_HK
              clear n_HK
              clear HS
              have HS := n_HS
              clear n_HS
              clear HO
              have HO := n_HO
              clear n_HO
              by_cases h6 : r < rr
              · have t6 : decide (r < rr) = true := decide_eq_true h6
                obtain ⟨hy1, hy2⟩ := HSY.out t6
                have hk0 : 0 ≤ k := by have := HKS.out; omega
                have hky : k < Y.length := by have := HKS.out; omega
                obtain ⟨kb2, ko2, rfl, hkb2, ck2⟩ := elS HO.out k hk0 hky
                rw [show k.toNat = sn by have := HKS.out; omega, hy2, show sn = k.toNat by have := HKS.out; omega] at ck2
                have t7 : decide ((Y.length : Int) ≤ k) = false := decide_eq_false (by omega)
                have HSN2 : Aside0 (k + 1 = ((since (L.take (i + 1).toNat) r).length : Nat)) := ⟨by rw [HSN.out, if_pos t6]; have := HKS.out; omega⟩
                have hYm : Y.length ≤ 64 := by have := HYN.out; have := HM.out; omega
                clear hy1 hy2
                go_upto_region 19 with fail
                obtain ⟨wv, hwv⟩ : ∃ x, x = y52 := ⟨_, rfl⟩
                rw [← hwv] at HK HS HO HB ck ck2 ⊢
                clear hwv
                go_quiet (fail)
                have hb1 : Below wv.heap.size wv (wv.drewN nq) := by apply pw_below_drewN; exact Below.refl _ _
                have n_HK := Aside0.mk (HK.out.below hb1)
                have n_HS := Aside0.mk (Kd.C_below HS.out hb1)
                have n_HO := Aside0.mk (Kd.C_below HO.out hb1)
                have n0 := Aside0.mk (below_step (by repeat (first | (with_reducible first | exact HB.out | apply below_alloc | apply pw_below_drewN | apply below_drew1) | refine below_set ?_ (by omega))) hb1)
                clear HB hb1
                have HB := n0
                clear n0
                clear HK
                have HK := n_HK
                clear n_HK
                clear HS
                have HS := n_HS
                clear n_HS
                clear HO
                have HO := n_HO
                clear n_HO
                generalize wv.drewN nq = wu at *
                clear t6 t7 ck ck2
                go_wp2
                exact ⟨⟨i + 1, k + 1, rfl, rfl, HSN2, ⟨by omega⟩, HK, HS, HO, ⟨by repeat (first | (with_reducible first | exact HB.out | apply below_alloc | apply pw_below_drewN | apply below_drew1) | refine below_set ?_ (by omega))⟩⟩, by simp only [intOf]; omega⟩
              · have t6 : decide (r < rr) = false := decide_eq_false h6
                have HSN2 : Aside0 (k = ((since (L.take (i + 1).toNat) r).length : Nat)) := ⟨by rw [HSN.out, if_neg (by rw [t6]; decide)]; exact HKS.out⟩
                go_wp2
                exact ⟨⟨i + 1, k, rfl, rfl, HSN2, ⟨by omega⟩, HK, HS, HO, ⟨by repeat (first | (with_reducible first | exact HB.out | apply below_alloc | apply pw_below_drewN | apply below_drew1) | refine below_set ?_ (by omega))⟩⟩, by simp only [intOf]; omega⟩
            · have t4 : decide (0 < i) = false := decide_eq_false h0
              go_quiet (fail)
              have hb1 : Below wz.heap.size wz (wz.drewN nq) := by apply pw_below_drewN; exact Below.refl _ _
              replace ck := (hb1.cell (World.block_lt_of_cell? _ _ ck)).trans ck
              have n_HK := Aside0.mk (HK.out.below hb1)
              have n_HS := Aside0.mk (Kd.C_below HS.out hb1)
              have n_HO := Aside0.mk (Kd.C_below HO.out hb1)
              have n0 := Aside0.mk (below_step (by repeat (first | (with_reducible first | exact HB.out | apply below_alloc | apply pw_below_drewN | apply below_drew1) | refine below_set ?_ (by omega))) hb1)
              clear HB hb1
              have HB := n0
              clear n0
              clear HK
              have HK := n_HK
              clear n_HK
              clear HS
              have HS := n_HS
              clear n_HS
              clear HO
              have HO := n_HO
              clear n_HO
              generalize wz.drewN nq = wy at *
              have hg := fun w h => get_q g q rev L kk HKK.out w h
              rw [HLK.out] at hg
              go_wp2_with fail
              refine (hg _ HK.out).mono ?_
              rintro e y51 ⟨rfl, hb1⟩
              replace ck := (hb1.cell (World.block_lt_of_cell? _ _ ck)).trans ck
              have n_HK := Aside0.mk (HK.out.below hb1)
              have n_HS := Aside0.mk (Kd.C_below HS.out hb1)
              have n_HO := Aside0.mk (Kd.C_below HO.out hb1)
              have n0 := Aside0.mk (below_step (by repeat (first | (with_reducible first | exact HB.out | apply below_alloc | apply pw_below_drewN | apply below_drew1) | refine below_set ?_ (by omega))) hb1)
              clear HB hb1
              have HB := n0
              clear n0
              clear HK
              have HK := n_HK
              clear n_HK
              clear HS
              have HS := n_HS
              clear n_HS
              clear HO
              have HO := n_HO
              clear n_HO
              go_wp2_with fail
              refine (rev_q g q rev L _ HK.out).mono ?_
              rintro e y52 ⟨rfl, hb1⟩
              replace ck := (hb1.cell (World.block_lt_of_cell? _ _ ck)).trans ck
              have n_HK := Aside0.mk (HK.out.below hb1)
              have n_HS := Aside0.mk (Kd.C_below HS.out hb1)
              have n_HO := Aside0.mk (Kd.C_below HO.out hb1)
              have n0 := Aside0.mk (below_step (by repeat (first | (with_reducible first | exact HB.out | apply below_alloc | apply pw_below_drewN | apply below_drew1) | refine below_set ?_ (by omega))) hb1)
              clear HB hb1
              have HB := n0
              clear n0
              clear HK
              have HK := n_HK
              clear n_HK
              clear HS
              have HS := n_HS
              clear n_HS
              clear HO
              have HO := n_HO
              clear n_HO
              by_cases h6 : r < rr
              · have t6 : decide (r < rr) = true := decide_eq_true h6
                obtain ⟨hy1, hy2⟩ := HSY.out t6
                have hk0 : 0 ≤ k := by have := HKS.out; omega
                have hky : k < Y.length := by have := HKS.out; omega
                obtain ⟨kb2, ko2, rfl, hkb2, ck2⟩ := elS HO.out k hk0 hky
                rw [show k.toNat = sn by have := HKS.out; omega, hy2, show sn = k.toNat by have := HKS.out; omega] at ck2
                have t7 : decide ((Y.length : Int) ≤ k) = false := decide_eq_false (by omega)
                have HSN2 : Aside0 (k + 1 = ((since (L.take (i + 1).toNat) r).length : Nat)) := ⟨by rw [HSN.out, if_pos t6]; have := HKS.out; omega⟩
                have hYm : Y.length ≤ 64 := by have := HYN.out; have := HM.out; omega
                clear hy1 hy2
                go_upto_region 19 with fail
                obtain ⟨wv, hwv⟩ : ∃ x, x = y52 := ⟨_, rfl⟩
                rw [← hwv] at HK HS HO HB ck ck2 ⊢
                clear hwv
                go_quiet (fail)
                have hb1 : Below wv.heap.size wv (wv.drewN nq) := by apply pw_below_drewN; exact Below.refl _ _
                have n_HK := Aside0.mk (HK.out.below hb1)
                have n_HS := Aside0.mk (Kd.C_below HS.out hb1)
                have n_HO := Aside0.mk (Kd.C_below HO.out hb1)
                have n0 := Aside0.mk (below_step (by repeat (first | (with_reducible first | exact HB.out | apply below_alloc | apply pw_below_drewN | apply below_drew1) | refine below_set ?_ (by omega))) hb1)
                clear HB hb1
                have HB := n0
                clear n0
                clear HK
                have HK := n_HK
                clear n_HK
                clear HS
                have HS := n_HS
                clear n_HS
                clear HO
                have HO := n_HO
                clear n_HO
                generalize wv.drewN nq = wu at *
                clear t6 t7 ck ck2
                go_wp2
                exact ⟨⟨i + 1, k + 1, rfl, rfl, HSN2, ⟨by omega⟩, HK, HS, HO, ⟨by repeat (first | (with_reducible first | exact HB.out | apply below_alloc | apply pw_below_drewN | apply below_drew1) | refine below_set ?_ (by omega))⟩⟩, by simp only [intOf]; omega⟩
              · have t6 : decide (r < rr) = false := decide_eq_false h6
                have HSN2 : Aside0 (k = ((since (L.take (i + 1).toNat) r).length : Nat)) := ⟨by rw [HSN.out, if_neg (by rw [t6]; decide)]; exact HKS.out⟩
                go_wp2
                exact ⟨⟨i + 1, k, rfl, rfl, HSN2, ⟨by omega⟩, HK, HS, HO, ⟨by repeat (first | (with_reducible first | exact HB.out | apply below_alloc | apply pw_below_drewN | apply below_drew1) | refine below_set ?_ (by omega))⟩⟩, by simp only [intOf]; omega⟩
          · have t1 : decide (i < (X.length : Int)) = false := decide_eq_false hi
            have hke : k = (Y.length : Nat) := by rw [HKN.out, ← HY.out, List.take_of_length_le (by have := HXN.out; have := HI.out; omega)]
            subst hke
            clear hi
            have hrr : ((Y.length : Int) == (Y.length : Int)) = true := by simp
            go_wp2_with fail
            refine (rev_q g q rev L _ HK.out).mono ?_
            rintro e y61 ⟨rfl, hb1⟩
            have n_HK := Aside0.mk (HK.out.below hb1)
            have n0 := Aside0.mk (below_step (by repeat (first | (with_reducible first | exact HB.out | apply below_alloc | apply pw_below_drewN | apply below_drew1) | refine below_set ?_ (by omega))) hb1)
            clear HB hb1
            have HB := n0
            clear n0
            clear HK
            have HK := n_HK
            clear n_HK
            go_wp2_with fail
            refine (since_q g q rev L rev _ HK.out (by have := HM.out; omega)).mono ?_
            rintro e y62 ⟨v, rfl, hGv, hb1⟩
            rw [since_top HG.out] at hGv
            obtain ⟨A5, c5, rfl⟩ := gave_nil hGv
            clear hGv
            have n_HK := Aside0.mk (HK.out.below hb1)
            have n0 := Aside0.mk (below_step (by repeat (first | (with_reducible first | exact HB.out | apply below_alloc | apply pw_below_drewN | apply below_drew1) | refine below_set ?_ (by omega))) hb1)
            clear HB hb1
            have HB := n0
            clear n0
            clear HK
            have HK := n_HK
            clear n_HK
            go_wp2
            go_ret
            exact ⟨rfl, by repeat (first | (with_reducible first | exact HB.out | apply below_alloc | apply pw_below_drewN | apply below_drew1) | refine below_set ?_ (by omega))⟩

      · skip
        have HM := Aside0.mk HG.out.len
        go_wp2_with fail
        refine (keys_q g q rev L _ HK.out (by have := HM.out; omega)).mono ?_
        rintro e y41 ⟨v, rfl, hGv, hb1⟩
        obtain ⟨A2, c2, rfl, hkc, hks⟩ := gave_slice hGv
        have HKC := Aside0.mk hkc
        have HS := Aside0.mk hks
        clear hkc hks hGv
        have n_HK := Aside0.mk (HK.out.below hb1)
        have n0 := Aside0.mk (below_step (by repeat (first | (with_reducible first | exact HB.out | apply below_alloc | apply pw_below_drewN | apply below_drew1) | refine below_set ?_ (by omega))) hb1)
        clear HB hb1
        have HB := n0
        clear n0
        clear HK
        have HK := n_HK
        clear n_HK
        go_wp2_with fail
        refine (since_q g q rev L r _ HK.out (by have := HM.out; omega)).mono ?_
        rintro e y42 ⟨v, rfl, hGv, hb1⟩
        obtain ⟨A4, c4, rfl, hkc, hks⟩ := gave_slice hGv
        have HKC4 := Aside0.mk hkc
        have HO := Aside0.mk hks
        clear hkc hks hGv
        have n_HK := Aside0.mk (HK.out.below hb1)
        have n_HS := Aside0.mk (Kd.C_below HS.out hb1)
        have n0 := Aside0.mk (below_step (by repeat (first | (with_reducible first | exact HB.out | apply below_alloc | apply pw_below_drewN | apply below_drew1) | refine below_set ?_ (by omega))) hb1)
        clear HB hb1
        have HB := n0
        clear n0
        clear HK
        have HK := n_HK
        clear n_HK
        clear HS
        have HS := n_HS
        clear n_HS
        obtain ⟨X, hX⟩ : ∃ X, since L 0 = X := ⟨_, rfl⟩
        obtain ⟨Y, hY⟩ : ∃ X, since L r = X := ⟨_, rfl⟩
        have hXL : X = L.map (·.f0) := by rw [← hX]; exact since_all HG.out
        have hXn : X.length = L.length := by rw [hXL, List.length_map]
        have hYn : Y.length ≤ L.length := by rw [← hY]; exact since_len L r
        rw [hX] at HS HKC ⊢
        rw [hY] at HO HKC4 ⊢
        have HX := Aside0.mk hXL
        have HXN := Aside0.mk hXn
        have HYN := Aside0.mk hYn
        have HY := Aside0.mk hY
        clear hX hY hXL hXn hYn
        go_wp2_with fail
        go_loopw [9, 10] (fun v9 v10 wr => ∃ (i k : Int), v10 = .int .i64 i ∧ v9 = .int .i64 k ∧ Aside0 (k = ((since (L.take i.toNat) r).length : Nat)) ∧ Aside0 (0 ≤ i ∧ i ≤ X.length) ∧ Aside0 (Kv wr g q rev L) ∧ Aside0 (Kd.C Kd.string wr A2 X.length X) ∧ Aside0 (Kd.C Kd.string wr A4 Y.length Y) ∧ Aside0 (Below W.heap.size W wr)) (fun _ v10 _ => (X.length + 5 - intOf v10).toNat)
        case atStart => exact ⟨0, 0, rfl, rfl, ⟨rfl⟩, ⟨by omega⟩, HK, HS, HO, ⟨by repeat (first | (with_reducible first | exact HB.out | apply below_alloc | apply pw_below_drewN | apply below_drew1) | refine below_set ?_ (by omega))⟩⟩
        case round =>
          clear HB HK HS HO
          obtain ⟨i, k, rfl, rfl, HKN, HI, HK, HS, HO, HB⟩ := hrel
          obtain ⟨wz, hwz⟩ : ∃ x, x = wr := ⟨_, rfl⟩
          subst hwz
          by_cases hi : i < X.length
          · have t1 : decide (i < (X.length : Int)) = true := decide_eq_true hi
            have hi0 : 0 ≤ i := HI.out.1
            have hiL : i.toNat < L.length := by have := HXN.out; omega
            obtain ⟨kb, ko, rfl, hkb, ck⟩ := elS HS.out i hi0 hi
            obtain ⟨⟨kk, vv, rr⟩, he⟩ : ∃ e, L.getD i.toNat z72 = e := ⟨_, rfl⟩
            have hmem : (⟨kk, vv, rr⟩ : S72) ∈ L := by rw [← he, List.getD_eq_getElem?_getD, List.getElem?_eq_getElem hiL]; exact List.getElem_mem hiL
            have hXi : X.getD i.toNat ze = kk := by rw [HX.out]; simp [hiL] at he ⊢; rw [he]
            rw [hXi] at ck
            have hsn := since_next L r i.toNat hiL ⟨kk, vv, rr⟩ he
            have hsy := since_at L r i.toNat hiL ⟨kk, vv, rr⟩ he
            rw [HY.out] at hsy
            rw [show i.toNat + 1 = (i + 1).toNat by omega] at hsn
            have HKN1 := HKN.out
            obtain ⟨sn, hsn0⟩ : ∃ n, (since (L.take i.toNat) r).length = n := ⟨_, rfl⟩
            rw [hsn0] at hsn hsy HKN1
            have HKS := Aside0.mk HKN1
            clear hsn0 HKN HKN1
            have hlook := look_self HK.out.map.rise hmem
            have hlo := HG.out.lo _ hmem
            have hhi := HG.out.hi _ hmem
            dsimp only at hsn hsy hlook hlo hhi
            have HSN := Aside0.mk hsn
            have HSY := Aside0.mk hsy
            have HLK := Aside0.mk hlook
            have t2 : decide (rr < 1) = false := decide_eq_false (by omega)
            have t3 : decide (rev < rr) = false := decide_eq_false (by omega)
            have HMM := Aside0.mk hmem
            have HE0 := Aside0.mk he
            clear hsn hsy hlook hlo hhi he
            have hXm : X.length ≤ 64 := by have := HXN.out; have := HM.out; omega
            have HKK := Aside0.mk (key_le HK.out.map _ hmem)
            dsimp only at HKK
            go_upto_region 13 with fail
            by_cases h0 : 0 < i
            · have t4 : decide (0 < i) = true := decide_eq_true h0
              have hle := rise_le L HK.out.map.rise i.toNat (by omega) hiL
              obtain ⟨j, hj⟩ : ∃ j, i - 1 = j := ⟨_, rfl⟩
              have hw : IntKind.i64.wrap (i - 1) = j := by rw [← hj, i64_wrap64]; exact K1.wrap64_eq (by omega) (by omega)
              have hj0 : 0 ≤ j := by omega
              have hj1 : j < X.length := by omega
              obtain ⟨kb1, ko1, hA1, hkb1, ck1⟩ := elS HS.out j hj0 hj1
              cases hA1
              have hXj : X.getD j.toNat ze = (L.getD (i.toNat - 1) z72).f0 := by
                have hjL : i.toNat - 1 < L.length := by omega
                rw [show j.toNat = i.toNat - 1 by omega, HX.out]; simp [hjL]
              rw [hXj] at ck1
              obtain ⟨pp, hpp⟩ : ∃ p, (L.getD (i.toNat - 1) z72).f0 = p := ⟨_, rfl⟩
              rw [hpp] at ck1 hle
              have hle2 : pp.data.toList < kk.data.toList := by rw [HE0.out] at hle; exact hle
              have t5 : Op.bytesLess pp.toList kk.toList = true := by rw [Go.Proofs.bytesLess_eq, ByteArray.toList_eq, ByteArray.toList_eq]; exact decide_eq_true hle2
              clear hj hXj hpp hle hle2
              go_quiet (fail)
              clear hw hj0 hj1 ck1 hkb1 t5
              have hb1 : Below wz.heap.size wz (wz.drewN nq) := by apply pw_below_drewN; exact Below.refl _ _
              replace ck := (hb1.cell (World.block_lt_of_cell? _ _ ck)).trans ck
              have n_HK := Aside0.mk (HK.out.below hb1)
              have n_HS := Aside0.mk (Kd.C_below HS.out hb1)
              have n_HO := Aside0.mk (Kd.C_below HO.out hb1)
              have n0 := Aside0.mk (below_step (by repeat (first | (with_reducible first | exact HB.out | apply below_alloc | apply pw_below_drewN | apply below_drew1) | refine below_set ?_ (by omega))) hb1)
              clear HB hb1
              have HB := n0
              clear n0
              clear HK
              have HK := n_HK
              clear n_HK
              clear HS
              have HS := n_HS
              clear n_HS
              clear HO
              have HO := n_HO
              clear n_HO
              generalize wz.drewN nq = wy at *
              have hg := fun w h => get_q g q rev L kk HKK.out w h
              rw [HLK.out] at hg
              go_wp2_with fail
              refine (hg _ HK.out).mono ?_
              rintro e y51 ⟨rfl, hb1⟩
              replace ck := (hb1.cell (World.block_lt_of_cell? _ _ ck)).trans ck
              have n_HK := Aside0.mk (HK.out.below hb1)
              have n_HS := Aside0.mk (Kd.C_below HS.out hb1)
              have n_HO := Aside0.mk (Kd.C_below HO.out hb1)
              have n0 := Aside0.mk (below_step (by repeat (first | (with_reducible first | exact HB.out | apply below_alloc | apply pw_below_drewN | apply below_drew1) | refine below_set ?_ (by omega))) hb1)
              clear HB hb1
              have HB := n0
              clear n0
              clear HK
              have HK := n_HK
              clear n_HK
              clear HS
              have HS := n_HS
              clear n_HS
              clear HO
              have HO := n_HO
              clear n_HO
              go_wp2_with fail
              refine (rev_q g q rev L _ HK.out).mono ?_
              rintro e y52 ⟨rfl, hb1⟩
              replace ck := (hb1.cell (World.block_lt_of_cell? _ _ ck)).trans ck
              have n_HK := Aside0.mk (HK.out.below hb1)
              have n_HS := Aside0.mk (Kd.C_below HS.out hb1)
              have n_HO := Aside0.mk (Kd.C_below HO.out hb1)
              have n0 := Aside0.mk (below_step (by repeat (first | (with_reducible first | exact HB.out | apply below_alloc | apply pw_below_drewN | apply below_drew1) | refine below_set ?_ (by omega))) hb1)
              clear HB hb1
              have HB := n0
              clear n0
              clear HK
              have HK := n_HK
              clear n_HK
              clear HS
              have HS := n_HS
              clear n_HS
              clear HO
              have HO := n_HO
              clear n_HO
              by_cases h6 : r < rr
              · have t6 : decide (r < rr) = true := decide_eq_true h6
                obtain ⟨hy1, hy2⟩ := HSY.out t6
                have hk0 : 0 ≤ k := by have := HKS.out; omega
                have hky : k < Y.length := by have := HKS.out; omega
                obtain ⟨kb2, ko2, rfl, hkb2, ck2⟩ := elS HO.out k hk0 hky
                rw [show k.toNat = sn by have := HKS.out; omega, hy2, show sn = k.toNat by have := HKS.out; omega] at ck2
                have t7 : decide ((Y.length : Int) ≤ k) = false := decide_eq_false (by omega)
                have HSN2 : Aside0 (k + 1 = ((since (L.take (i + 1).toNat) r).length : Nat)) := ⟨by rw [HSN.out, if_pos t6]; have := HKS.out; omega⟩
                have hYm : Y.length ≤ 64 := by have := HYN.out; have := HM.out; omega
                clear hy1 hy2
                go_upto_region 19 with fail
                obtain ⟨wv, hwv⟩ : ∃ x, x = y52 := ⟨_, rfl⟩
                rw [← hwv] at HK HS HO HB ck ck2 ⊢
                clear hwv
                go_quiet (fail)
                have hb1 : Below wv.heap.size wv (wv.drewN nq) := by apply pw_below_drewN; exact Below.refl _ _
                have n_HK := Aside0.mk (HK.out.below hb1)
                have n_HS := Aside0.mk (Kd.C_below HS.out hb1)
                have n_HO := Aside0.mk (Kd.C_below HO.out hb1)
                have n0 := Aside0.mk (below_step (by repeat (first | (with_reducible first | exact HB.out | apply below_alloc | apply pw_below_drewN | apply below_drew1) | refine below_set ?_ (by omega))) hb1)
                clear HB hb1
                have HB := n0
                clear n0
                clear HK
                have HK := n_HK
                clear n_HK
                clear HS
                have HS := n_HS
                clear n_HS
                clear HO
                have HO := n_HO
                clear n_HO
                generalize wv.drewN nq = wu at *
                clear t6 t7 ck ck2
                go_wp2
                exact ⟨⟨i + 1, k + 1, rfl, rfl, HSN2, ⟨by omega⟩, HK, HS, HO, ⟨by repeat (first | (with_reducible first | exact HB.out | apply below_alloc | apply pw_below_drewN | apply below_drew1) | refine below_set ?_ (by omega))⟩⟩, by simp only [intOf]; omega⟩
              · have t6 : decide (r < rr) = false := decide_eq_false h6
                have HSN2 : Aside0 (k = ((since (L.take (i + 1).toNat) r).length : Nat)) := ⟨by rw [HSN.out, if_neg (by rw [t6]; decide)]; exact HKS.out⟩
                go_wp2
                exact ⟨⟨i + 1, k, rfl, rfl, HSN2, ⟨by omega⟩, HK, HS, HO, ⟨by repeat (first | (with_reducible first | exact HB.out | apply below_alloc | apply pw_below_drewN | apply below_drew1) | refine below_set ?_ (by omega))⟩⟩, by simp only [intOf]; omega⟩
            · have t4 : decide (0 < i) = false := decide_eq_false h0
              go_quiet (fail)
              have hb1 : Below wz.heap.size wz (wz.drewN nq) := by apply pw_below_drewN; exact Below.refl _ _
              replace ck := (hb1.cell (World.block_lt_of_cell? _ _ ck)).trans ck
              have n_HK := Aside0.mk (HK.out.below hb1)
              have n_HS := Aside0.mk (Kd.C_below HS.out hb1)
              have n_HO := Aside0.mk (Kd.C_below HO.out hb1)
              have n0 := Aside0.mk (below_step (by repeat (first | (with_reducible first | exact HB.out | apply below_alloc | apply pw_below_drewN | apply below_drew1) | refine below_set ?_ (by omega))) hb1)
              clear HB hb1
              have HB := n0
              clear n0
              clear HK
              have HK := n_HK
              clear n_HK
              clear HS
              have HS := n_HS
              clear n_HS
              clear HO
              have HO := n_HO
              clear n_HO
              generalize wz.drewN nq = wy at *
              have hg := fun w h => get_q g q rev L kk HKK.out w h
              rw [HLK.out] at hg
              go_wp2_with fail
              refine (hg _ HK.out).mono ?_
              rintro e y51 ⟨rfl, hb1⟩
              replace ck := (hb1.cell (World.block_lt_of_cell? _ _ ck)).trans ck
              have n_HK := Aside0.mk (HK.out.below hb1)
              have n_HS := Aside0.mk (Kd.C_below HS.out hb1)
              have n_HO := Aside0.mk (Kd.C_below HO.out hb1)
              have n0 := Aside0.mk (below_step (by repeat (first | (with_reducible first | exact HB.out | apply below_alloc | apply pw_below_drewN | apply below_drew1) | refine below_set ?_ (by omega))) hb1)
              clear HB hb1
              have HB := n0
              clear n0
              clear HK
              have HK := n_HK
              clear n_HK
              clear HS
              have HS := n_HS
              clear n_HS
              clear HO
              have HO := n_HO
              clear n_HO
              go_wp2_with fail
              refine (rev_q g q rev L _ HK.out).mono ?_
              rintro e y52 ⟨rfl, hb1⟩
              replace ck := (hb1.cell (World.block_lt_of_cell? _ _ ck)).trans ck
              have n_HK := Aside0.mk (HK.out.below hb1)
              have n_HS := Aside0.mk (Kd.C_below HS.out hb1)
              have n_HO := Aside0.mk (Kd.C_below HO.out hb1)
              have n0 := Aside0.mk (below_step (by repeat (first | (with_reducible first | exact HB.out | apply below_alloc | apply pw_below_drewN | apply below_drew1) | refine below_set ?_ (by omega))) hb1)
              clear HB hb1
              have HB := n0
              clear n0
              clear HK
              have HK := n_HK
              clear n_HK
              clear HS
              have HS := n_HS
              clear n_HS
              clear HO
              have HO := n_HO
              clear n_HO
              by_cases h6 : r < rr
              · have t6 : decide (r < rr) = true := decide_eq_true h6
                obtain ⟨hy1, hy2⟩ := HSY.out t6
                have hk0 : 0 ≤ k := by have := HKS.out; omega
                have hky : k < Y.length := by have := HKS.out; omega
                obtain ⟨kb2, ko2, rfl, hkb2, ck2⟩ := elS HO.out k hk0 hky
                rw [show k.toNat = sn by have := HKS.out; omega, hy2, show sn = k.toNat by have := HKS.out; omega] at ck2
                have t7 : decide ((Y.length : Int) ≤ k) = false := decide_eq_false (by omega)
                have HSN2 : Aside0 (k + 1 = ((since (L.take (i + 1).toNat) r).length : Nat)) := ⟨by rw [HSN.out, if_pos t6]; have := HKS.out; omega⟩
                have hYm : Y.length ≤ 64 := by have := HYN.out; have := HM.out; omega
                clear hy1 hy2
                go_upto_region 19 with fail
                obtain ⟨wv, hwv⟩ : ∃ x, x = y52 := ⟨_, rfl⟩
                rw [← hwv] at HK HS HO HB ck ck2 ⊢
                clear hwv
                go_quiet (fail)
                have hb1 : Below wv.heap.size wv (wv.drewN nq) := by apply pw_below_drewN; exact Below.refl _ _
                have n_HK := Aside0.mk (HK.out.below hb1)
                have n_HS := Aside0.mk (Kd.C_below HS.out hb1)
                have n_HO := Aside0.mk (Kd.C_below HO.out hb1)
                have n0 := Aside0.mk (below_step (by repeat (first | (with_reducible first | exact HB.out | apply below_alloc | apply pw_below_drewN | apply below_drew1) | refine below_set ?_ (by omega))) hb1)
                clear HB hb1
                have HB := n0
                clear n0
                clear HK
                have HK := n_HK
                clear n_HK
                clear HS
                have HS := n_HS
                clear n_HS
                clear HO
                have HO := n_HO
                clear n_HO
                generalize wv.drewN nq = wu at *
                clear t6 t7 ck ck2
                go_wp2
                exact ⟨⟨i + 1, k + 1, rfl, rfl, HSN2, ⟨by omega⟩, HK, HS, HO, ⟨by repeat (first | (with_reducible first | exact HB.out | apply below_alloc | apply pw_below_drewN | apply below_drew1) | refine below_set ?_ (by omega))⟩⟩, by simp only [intOf]; omega⟩
              · have t6 : decide (r < rr) = false := decide_eq_false h6
                have HSN2 : Aside0 (k = ((since (L.take (i + 1).toNat) r).length : Nat)) := ⟨by rw [HSN.out, if_neg (by rw [t6]; decide)]; exact HKS.out⟩
                go_wp2
                exact ⟨⟨i + 1, k, rfl, rfl, HSN2, ⟨by omega⟩, HK, HS, HO, ⟨by repeat (first | (with_reducible first | exact HB.out | apply below_alloc | apply pw_below_drewN | apply below_drew1) | refine below_set ?_ (by omega))⟩⟩, by simp only [intOf]; omega⟩
          · have t1 : decide (i < (X.length : Int)) = false := decide_eq_false hi
            have hke : k = (Y.length : Nat) := by rw [HKN.out, ← HY.out, List.take_of_length_le (by have := HXN.out; have := HI.out; omega)]
            subst hke
            clear hi
            have hrr : ((Y.length : Int) == (Y.length : Int)) = true := by simp
            go_wp2_with fail
            refine (rev_q g q rev L _ HK.out).mono ?_
            rintro e y61 ⟨rfl, hb1⟩
            have n_HK := Aside0.mk (HK.out.below hb1)
            have n0 := Aside0.mk (below_step (by repeat (first | (with_reducible first | exact HB.out | apply below_alloc | apply pw_below_drewN | apply below_drew1) | refine below_set ?_ (by omega))) hb1)
            clear HB hb1
            have HB := n0
            clear n0
            clear HK
            have HK := n_HK
            clear n_HK
            go_wp2_with fail
            refine (since_q g q rev L rev _ HK.out (by have := HM.out; omega)).mono ?_
            rintro e y62 ⟨v, rfl, hGv, hb1⟩
            rw [since_top HG.out] at hGv
            obtain ⟨A5, c5, rfl⟩ := gave_nil hGv
            clear hGv
            have n_HK := Aside0.mk (HK.out.below hb1)
            have n0 := Aside0.mk (below_step (by repeat (first | (with_reducible first | exact HB.out | apply below_alloc | apply pw_below_drewN | apply below_drew1) | refine below_set ?_ (by omega))) hb1)
            clear HB hb1
            have HB := n0
            clear n0
            clear HK
            have HK := n_HK
            clear n_HK
            go_wp2
            go_ret
            exact ⟨rfl, by repeat (first | (with_reducible first | exact HB.out | apply below_alloc | apply pw_below_drewN | apply below_drew1) | refine below_set ?_ (by omega))⟩

theorem walk (A0 : Option Addr) (c0 : Nat) (l : List (List K15.Tup)) (r : Int) (W : World) (hr : O.Rowz (K15.Is31 W) 1 W A0 l) (hc : l.length ≤ c0) (hw : (Lit.int .i64 r).wf = true) :
    Calls Try.prog 3 #[.slice A0 l.length c0, .int .i64 r] W fun e w' => e = .returned (.bool true) ∧ Below W.heap.size W w' := by
  have h := K15.rows_of hr
  have hn : (l.map fun p => p.map K12.mk42).length = l.length := List.length_map _
  have := since_w A0 c0 (l.map fun p => p.map K12.mk42) r W h (by rw [hn]; exact hc)
  rw [hn] at this
  exact this
end Go.Proofs.Ytnmnojapacflgaa.WalkKvSince
