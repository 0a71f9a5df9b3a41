/-
  Proved here: KvRaces answers true and leaves the memory that was there. No condition.
-/
import Derived.Test.YtnmnojapacflgaaK10
import Derived.Test.YtnmnojapacflgaaK13
namespace Go.Proofs.Ytnmnojapacflgaa.WalkKvRaces
open Go.Proofs.Ytnmnojapacflgaa.M Go.Proofs.Ytnmnojapacflgaa.K0 Go.RowKit Go.Maps Go.Sort Go.Proofs.YtnmnojapacflgaaW.PrintWords Go.Proofs.YtnmnojapacflgaaW.PrintLast Go.Proofs.YtnmnojapacflgaaW.PrintMore Go.Proofs.Ytnmnojapacflgaa.PKvPlays Go.Proofs.Ytnmnojapacflgaa.K1 Go.Proofs.Ytnmnojapacflgaa.K2 Go.Proofs.Ytnmnojapacflgaa.K3 Go.Proofs.Ytnmnojapacflgaa.K4 Go.Proofs.Ytnmnojapacflgaa.K5 Go.Proofs.Ytnmnojapacflgaa.K13
set_option linter.unusedVariables false
set_option linter.unusedSimpArgs false
attribute [local go_sem] max2_int min2_int max_two min_two run_makeMap field_entry
set_option maxHeartbeats 4000000 in
theorem walk (a b c : ByteArray) (w : World) : Calls Try.prog 7 #[.string a, .string b, .string c] w fun e w' => e = .returned (.bool true) ∧ Below w.heap.size w w' := by
  have HB := Aside0.mk (Below.refl w.heap.size w)
  go_enter Try.func7, Try.ntmps7
  obtain ⟨ja, hja⟩ : ∃ j : Int, (if (60 : Int) < (a.size : Int) then 60 else (a.size : Int)) = j := ⟨_, rfl⟩
  have pa : 0 ≤ ja := by rw [← hja]; split <;> omega
  have qa : ja ≤ (a.size : Int) := by rw [← hja]; split <;> omega
  have Ea : Aside0 (cutN 60 a = a.extract 0 ja.toNat) := ⟨by unfold cutN mn; rw [hja]⟩
  have pab := decide_eq_true pa
  have qab := decide_eq_true qa
  replace pa := eq_true pa
  replace qa := eq_true qa
  obtain ⟨jb, hjb⟩ : ∃ j : Int, (if (60 : Int) < (b.size : Int) then 60 else (b.size : Int)) = j := ⟨_, rfl⟩
  have pb : 0 ≤ jb := by rw [← hjb]; split <;> omega
  have qb : jb ≤ (b.size : Int) := by rw [← hjb]; split <;> omega
  have Eb : Aside0 (cutN 60 b = b.extract 0 jb.toNat) := ⟨by unfold cutN mn; rw [hjb]⟩
  have pbb := decide_eq_true pb
  have qbb := decide_eq_true qb
  replace pb := eq_true pb
  replace qb := eq_true qb
  obtain ⟨jc, hjc⟩ : ∃ j : Int, (if (60 : Int) < (c.size : Int) then 60 else (c.size : Int)) = j := ⟨_, rfl⟩
  have pc : 0 ≤ jc := by rw [← hjc]; split <;> omega
  have qc : jc ≤ (c.size : Int) := by rw [← hjc]; split <;> omega
  have Ec : Aside0 (cutN 60 c = c.extract 0 jc.toNat) := ⟨by unfold cutN mn; rw [hjc]⟩
  have pcb := decide_eq_true pc
  have qcb := decide_eq_true qc
  replace pc := eq_true pc
  replace qc := eq_true qc
  go_wp2_with fail
  refine (K10.lives_q _).mono ?_
  rintro e w1 ⟨rfl, hb1⟩
  have n0 := Aside0.mk (below_step (by repeat (first | (with_reducible first | exact HB.out | apply below_alloc | apply pw_below_drewN | apply below_drew1) | refine below_set ?_ (by omega))) hb1)
  clear HB hb1
  have HB := n0
  clear n0
  go_upto_region 4 with fail
  go_quiet (fail)
  go_upto_region 5 with fail
  obtain ⟨K, hK⟩ : ∃ K, ({ data := #[107] } ++ a.extract 0 ja.toNat : ByteArray) = K := ⟨_, rfl⟩
  obtain ⟨U, hU⟩ : ∃ K, b.extract 0 jb.toNat = K := ⟨_, rfl⟩
  obtain ⟨V, hV⟩ : ∃ K, c.extract 0 jc.toNat = K := ⟨_, rfl⟩
  rw [hK, hU, hV]
  have HS : Aside0 ((K.size : Int) ≤ 61 ∧ (U.size : Int) ≤ 60 ∧ (V.size : Int) ≤ 60) := ⟨by
    have s1 := keyN_size 107 60 (by decide) a
    have s2 := cutN_size 60 (by decide) b
    have s3 := cutN_size 60 (by decide) c
    unfold keyN at s1
    rw [Ea.out, hK] at s1
    rw [Eb.out, hU] at s2
    rw [Ec.out, hV] at s3
    exact ⟨s1, s2, s3⟩⟩
  have HE : Aside0 (K.toList.isEmpty = false) := ⟨by rw [← hK]; exact pre_empty 107 _⟩
  have HO : Aside0 (∀ (v : ByteArray) (r : Int) (d : Bool), (v.size : Int) ≤ 64 → okOp ⟨K, v, r, d⟩ = true) := ⟨fun v r d h => okOp_of K v r d HE.out (by have := HS.out; omega) h⟩
  clear hK hU hV Ea Eb Ec hja hjb hjc pa pb pc qa qb qc pab pbb pcb qab qbb qcb
  have HB0 : Aside0 (Below w.heap.size w (w1.drewN nq)) := ⟨by repeat (first | (with_reducible first | exact HB.out | apply below_alloc | apply pw_below_drewN | apply below_drew1) | refine below_set ?_ (by omega))⟩
  clear HB
  generalize w1.drewN nq = w0 at *
  go_wp2_with fail
  refine (new_q w0).mono ?_
  rintro e y0 ⟨rfl, hk1, hb1⟩
  have HB := Aside0.mk hb1
  have HK := Aside0.mk hk1
  clear hb1 hk1
  go_wp2_with fail
  have hg := get_q (w0.heap.size + 1) w0.heap.size 0 [] K (by have := HS.out; have : maxLen = 9223372036854775807 := rfl; omega) _ HK.out
  rw [K13.look_nil] at hg
  refine hg.mono ?_
  rintro e y1 ⟨rfl, hb1⟩
  have n1 := Aside0.mk (HK.out.below hb1)
  have n0 := Aside0.mk (below_step (by repeat (first | (with_reducible first | exact HB.out | apply below_alloc | apply pw_below_drewN | apply below_drew1) | refine below_set ?_ (by omega))) hb1)
  clear HB hb1
  have HB := n0
  clear n0
  clear HK hg
  have HK := n1
  clear n1
  go_wp2_with fail
  have HKa := Aside0.mk (HK.out.alloc (.cells #[.string ((⟨K, U, 0, false⟩ : S53)).f0, .string ((⟨K, U, 0, false⟩ : S53)).f1, .int .i64 ((⟨K, U, 0, false⟩ : S53)).f2, .bool ((⟨K, U, 0, false⟩ : S53)).f3] 53))
  have h2 := do_q (w0.heap.size + 1) w0.heap.size 0 ([] : List S72) _ 1 [(⟨K, U, 0, false⟩ : S53)] _ HKa.out (K10.one53 _ (⟨K, U, 0, false⟩ : S53)) (Nat.le_refl _) (by simp) (by decide)
  have d2 : doL 0 ([] : List S72) [(⟨K, U, 0, false⟩ : S53)] = (1, 0, 1, ([⟨K, U, 1⟩] : List S72)) := do_new 0 K U (HO.out U 0 false (by have := HS.out; first | omega | decide))
  rw [d2] at h2
  refine h2.mono ?_
  rintro e y2 ⟨rfl, hk1, hb1⟩
  have n0 := Aside0.mk ((below_alloc HB.out _).trans (hb1.far (by have := HB.out.size; simp; omega) (by omega) (by omega)))
  have n1 := Aside0.mk hk1
  clear HB HK HKa h2 d2 hk1 hb1
  have HB := n0
  have HK := n1
  clear n0 n1
  go_wp2_with fail
  have HKa := Aside0.mk (HK.out.alloc (.cells #[.string ((⟨K, V, 0, false⟩ : S53)).f0, .string ((⟨K, V, 0, false⟩ : S53)).f1, .int .i64 ((⟨K, V, 0, false⟩ : S53)).f2, .bool ((⟨K, V, 0, false⟩ : S53)).f3] 53))
  have h3 := do_q (w0.heap.size + 1) w0.heap.size 1 ([⟨K, U, 1⟩] : List S72) _ 1 [(⟨K, V, 0, false⟩ : S53)] _ HKa.out (K10.one53 _ (⟨K, V, 0, false⟩ : S53)) (Nat.le_refl _) (by simp) (by decide)
  have d3 : doL 1 ([⟨K, U, 1⟩] : List S72) [(⟨K, V, 0, false⟩ : S53)] = (0, 7, 1, ([⟨K, U, 1⟩] : List S72)) := do_late 1 K U V 1 rfl (HO.out V 0 false (by have := HS.out; first | omega | decide))
  rw [d3] at h3
  refine h3.mono ?_
  rintro e y3 ⟨rfl, hk1, hb1⟩
  have n0 := Aside0.mk ((below_alloc HB.out _).trans (hb1.far (by have := HB.out.size; simp; omega) (by omega) (by omega)))
  have n1 := Aside0.mk hk1
  clear HB HK HKa h3 d3 hk1 hb1
  have HB := n0
  have HK := n1
  clear n0 n1
  go_wp2_with fail
  have hg := get_q (w0.heap.size + 1) w0.heap.size 1 ([⟨K, U, 1⟩] : List S72) K (by have := HS.out; have : maxLen = 9223372036854775807 := rfl; omega) _ HK.out
  rw [look_one] at hg
  refine hg.mono ?_
  rintro e y4 ⟨rfl, hb1⟩
  have n1 := Aside0.mk (HK.out.below hb1)
  have n0 := Aside0.mk (below_step (by repeat (first | (with_reducible first | exact HB.out | apply below_alloc | apply pw_below_drewN | apply below_drew1) | refine below_set ?_ (by omega))) hb1)
  clear HB hb1
  have HB := n0
  clear n0
  clear HK hg
  have HK := n1
  clear n1
  go_wp2_with fail
  have HKa := Aside0.mk (HK.out.alloc (.cells #[.string ((⟨K, V, 1, false⟩ : S53)).f0, .string ((⟨K, V, 1, false⟩ : S53)).f1, .int .i64 ((⟨K, V, 1, false⟩ : S53)).f2, .bool ((⟨K, V, 1, false⟩ : S53)).f3] 53))
  have h5 := do_q (w0.heap.size + 1) w0.heap.size 1 ([⟨K, U, 1⟩] : List S72) _ 1 [(⟨K, V, 1, false⟩ : S53)] _ HKa.out (K10.one53 _ (⟨K, V, 1, false⟩ : S53)) (Nat.le_refl _) (by simp) (by decide)
  have d5 : doL 1 ([⟨K, U, 1⟩] : List S72) [(⟨K, V, 1, false⟩ : S53)] = (2, 0, 2, ([⟨K, V, 2⟩] : List S72)) := do_next 1 K U V 1 rfl (HO.out V 1 false (by have := HS.out; first | omega | decide))
  rw [d5] at h5
  refine h5.mono ?_
  rintro e y5 ⟨rfl, hk1, hb1⟩
  have n0 := Aside0.mk ((below_alloc HB.out _).trans (hb1.far (by have := HB.out.size; simp; omega) (by omega) (by omega)))
  have n1 := Aside0.mk hk1
  clear HB HK HKa h5 d5 hk1 hb1
  have HB := n0
  have HK := n1
  clear n0 n1
  go_wp2_with fail
  have hg := get_q (w0.heap.size + 1) w0.heap.size 2 ([⟨K, V, 2⟩] : List S72) K (by have := HS.out; have : maxLen = 9223372036854775807 := rfl; omega) _ HK.out
  rw [look_one] at hg
  refine hg.mono ?_
  rintro e y6 ⟨rfl, hb1⟩
  have n1 := Aside0.mk (HK.out.below hb1)
  have n0 := Aside0.mk (below_step (by repeat (first | (with_reducible first | exact HB.out | apply below_alloc | apply pw_below_drewN | apply below_drew1) | refine below_set ?_ (by omega))) hb1)
  clear HB hb1
  have HB := n0
  clear n0
  clear HK hg
  have HK := n1
  clear n1
  go_wp2_with fail
  have HKa := Aside0.mk (HK.out.alloc (.cells #[.string ((⟨K, ze, 2, true⟩ : S53)).f0, .string ((⟨K, ze, 2, true⟩ : S53)).f1, .int .i64 ((⟨K, ze, 2, true⟩ : S53)).f2, .bool ((⟨K, ze, 2, true⟩ : S53)).f3] 53))
  have h7 := do_q (w0.heap.size + 1) w0.heap.size 2 ([⟨K, V, 2⟩] : List S72) _ 1 [(⟨K, ze, 2, true⟩ : S53)] _ HKa.out (K10.one53 _ (⟨K, ze, 2, true⟩ : S53)) (Nat.le_refl _) (by simp) (by decide)
  have d7 : doL 2 ([⟨K, V, 2⟩] : List S72) [(⟨K, ze, 2, true⟩ : S53)] = (3, 0, 3, ([] : List S72)) := do_drop 2 K V 2 rfl (HO.out ze 2 true (by have := HS.out; first | omega | decide))
  rw [d7] at h7
  refine h7.mono ?_
  rintro e y7 ⟨rfl, hk1, hb1⟩
  have n0 := Aside0.mk ((below_alloc HB.out _).trans (hb1.far (by have := HB.out.size; simp; omega) (by omega) (by omega)))
  have n1 := Aside0.mk hk1
  clear HB HK HKa h7 d7 hk1 hb1
  have HB := n0
  have HK := n1
  clear n0 n1
  go_wp2_with fail
  have hg := get_q (w0.heap.size + 1) w0.heap.size 3 ([] : List S72) K (by have := HS.out; have : maxLen = 9223372036854775807 := rfl; omega) _ HK.out
  rw [K13.look_nil] at hg
  refine hg.mono ?_
  rintro e y8 ⟨rfl, hb1⟩
  have n1 := Aside0.mk (HK.out.below hb1)
  have n0 := Aside0.mk (below_step (by repeat (first | (with_reducible first | exact HB.out | apply below_alloc | apply pw_below_drewN | apply below_drew1) | refine below_set ?_ (by omega))) hb1)
  clear HB hb1
  have HB := n0
  clear n0
  clear HK hg
  have HK := n1
  clear n1
  go_wp2_with fail
  refine (rev_q _ _ 3 [] _ HK.out).mono ?_
  rintro e y9 ⟨rfl, hb1⟩
  have n1 := Aside0.mk (HK.out.below hb1)
  have n0 := Aside0.mk (below_step (by repeat (first | (with_reducible first | exact HB.out | apply below_alloc | apply pw_below_drewN | apply below_drew1) | refine below_set ?_ (by omega))) hb1)
  clear HB hb1
  have HB := n0
  clear n0
  clear HK
  have HK := n1
  clear n1
  go_wp2_with fail
  refine (len_q _ _ 3 [] _ HK.out (by decide)).mono ?_
  rintro e y10 ⟨rfl, hb1⟩
  have n0 := Aside0.mk (below_step (by repeat (first | (with_reducible first | exact HB.out | apply below_alloc | apply pw_below_drewN | apply below_drew1) | refine below_set ?_ (by omega))) hb1)
  clear HB hb1
  have HB := n0
  clear n0
  go_wp2
  go_ret
  exact ⟨by simp [since], HB0.out.trans ((show Below w0.heap.size w0 _ from by repeat (first | (with_reducible first | exact HB.out | apply below_alloc | apply pw_below_drewN | apply below_drew1) | refine below_set ?_ (by omega))).mono HB0.out.size)⟩
end Go.Proofs.Ytnmnojapacflgaa.WalkKvRaces
