/-
  Proved here: KvNil answers true. No condition but how the slice reads.
-/
import Derived.Test.YtnmnojapacflgaaK10
namespace Go.Proofs.Ytnmnojapacflgaa.K11
open Go.Proofs.Ytnmnojapacflgaa.M Go.Proofs.Ytnmnojapacflgaa.K0 Go.RowKit Go.Maps Go.Sort Go.Proofs.YtnmnojapacflgaaW.PrintWords Go.Proofs.YtnmnojapacflgaaW.PrintLast Go.Proofs.YtnmnojapacflgaaW.PrintMore Go.Proofs.Ytnmnojapacflgaa.PKvPlays Go.Proofs.Ytnmnojapacflgaa.K1 Go.Proofs.Ytnmnojapacflgaa.K2 Go.Proofs.Ytnmnojapacflgaa.K3 Go.Proofs.Ytnmnojapacflgaa.K4 Go.Proofs.Ytnmnojapacflgaa.K5 Go.Proofs.Ytnmnojapacflgaa.K6 Go.Proofs.Ytnmnojapacflgaa.K9 Go.Proofs.Ytnmnojapacflgaa.K10
set_option linter.unusedVariables false
set_option linter.unusedSimpArgs false
attribute [local go_sem] max2_int min2_int max_two min_two run_makeMap field_entry
theorem ops_c (A0 : Option Addr) (c0 : Nat) (l : List S42) (w : World) (h : Kd.C k42 w A0 l.length l) (hc : l.length ≤ c0) : Calls Try.prog 13 #[.slice A0 l.length c0] w fun e w' => ∃ A c, e = .returned (.slice A (opsL l).length c) ∧ (opsL l).length ≤ c ∧ Kd.C k42 w' A (opsL l).length (opsL l) ∧ Below w.heap.size w w' := by
  refine (pacesetterlaw08_ops.calls _ A0 c0 l _ w h hc (ops_f l)).mono ?_
  rintro e w' ⟨v, rfl, hR, hb⟩
  obtain ⟨A, c, rfl, h1, h2⟩ := Kd.R_reads hR
  exact ⟨A, c, rfl, h1, h2, hb⟩
theorem as_c (A0 : Option Addr) (c0 : Nat) (l : List S42) (w : World) (h : Kd.C k42 w A0 l.length l) (hc : l.length ≤ c0) (hl : l.length ≤ 1000) : Calls Try.prog 12 #[.slice A0 l.length c0] w fun e w' => ∃ A c, e = .returned (.slice A (asL l).length c) ∧ (asL l).length ≤ c ∧ Kd.C k53 w' A (asL l).length (asL l) ∧ Below w.heap.size w w' := by
  refine (pacesetterlaw08_as.calls _ A0 c0 l _ w h hc (as_f l hl)).mono ?_
  rintro e w' ⟨v, rfl, hR, hb⟩
  obtain ⟨A, c, rfl, h1, h2⟩ := Kd.R_reads hR
  exact ⟨A, c, rfl, h1, h2, hb⟩
set_option maxHeartbeats 4000000 in
theorem nil_q (A0 : Option Addr) (c0 : Nat) (l : List S42) (k : ByteArray) (w : World) (h : Kd.C k42 w A0 l.length l) (hc : l.length ≤ c0) : Calls Try.prog 8 #[.slice A0 l.length c0, .string k] w fun e w' => e = .returned (.bool true) ∧ Below w.heap.size w w' := by
  have HB := Aside0.mk (Below.refl w.heap.size w)
  have HC := Aside0.mk h
  have HLC := Aside0.mk hc
  clear h hc
  go_enter Try.func8, Try.ntmps8
  go_wp2_with fail
  refine (lives_q _).mono ?_
  rintro e w1 ⟨rfl, hb1⟩
  have HC1 := Aside0.mk (Kd.C_below HC.out hb1)
  clear HC
  have n0 := Aside0.mk (below_step (by repeat (first | (with_reducible first | exact HB.out | apply below_alloc | apply pw_below_drewN | apply below_drew1) | refine below_set ?_ (by omega))) hb1)
  clear HB hb1
  have HB := n0
  clear n0
  go_wp2_with fail
  refine (ops_c A0 c0 l _ HC1.out HLC.out).mono ?_
  rintro e w1 ⟨A1, c1, rfl, h1, h2, hb1⟩
  have HO := Aside0.mk (opsL_len l)
  obtain ⟨M, hM⟩ : ∃ M, opsL l = M := ⟨_, rfl⟩
  rw [hM] at h1 h2 HO
  rw [hM]
  have H1 := Aside0.mk h1
  have H2 := Aside0.mk h2
  clear h1 h2 hM HC1
  have n0 := Aside0.mk (below_step (by repeat (first | (with_reducible first | exact HB.out | apply below_alloc | apply pw_below_drewN | apply below_drew1) | refine below_set ?_ (by omega))) hb1)
  clear HB hb1
  have HB := n0
  clear n0
  go_wp2_with fail
  refine (as_c A1 c1 M _ H2.out H1.out (by have := HO.out; omega)).mono ?_
  rintro e w1 ⟨A2, c2, rfl, h1, h2, hb1⟩
  clear h1 h2
  have n0 := Aside0.mk (below_step (by repeat (first | (with_reducible first | exact HB.out | apply below_alloc | apply pw_below_drewN | apply below_drew1) | refine below_set ?_ (by omega))) hb1)
  clear HB hb1
  have HB := n0
  clear n0
  go_wp2_with fail
  refine (do_nil A2 c2 (asL M) _).mono ?_
  rintro e w1 ⟨rfl, hb1⟩
  have n0 := Aside0.mk (below_step (by repeat (first | (with_reducible first | exact HB.out | apply below_alloc | apply pw_below_drewN | apply below_drew1) | refine below_set ?_ (by omega))) hb1)
  clear HB hb1
  have HB := n0
  clear n0
  go_wp2_with fail
  refine (get_nil_q k _).mono ?_
  rintro e w1 ⟨rfl, hb1⟩
  have n0 := Aside0.mk (below_step (by repeat (first | (with_reducible first | exact HB.out | apply below_alloc | apply pw_below_drewN | apply below_drew1) | refine below_set ?_ (by omega))) hb1)
  clear HB hb1
  have HB := n0
  clear n0
  have hz : ze.toList.isEmpty = true := by kernel_rfl
  go_wp2_with fail
  refine (rev_nil _).mono ?_
  rintro e w1 ⟨rfl, hb1⟩
  have n0 := Aside0.mk (below_step (by repeat (first | (with_reducible first | exact HB.out | apply below_alloc | apply pw_below_drewN | apply below_drew1) | refine below_set ?_ (by omega))) hb1)
  clear HB hb1
  have HB := n0
  clear n0
  go_wp2_with fail
  refine (K5.len_nil _).mono ?_
  rintro e w1 ⟨rfl, hb1⟩
  have n0 := Aside0.mk (below_step (by repeat (first | (with_reducible first | exact HB.out | apply below_alloc | apply pw_below_drewN | apply below_drew1) | refine below_set ?_ (by omega))) hb1)
  clear HB hb1
  have HB := n0
  clear n0
  go_wp2_with fail
  refine (keys_nil _).mono ?_
  rintro e w1 ⟨rfl, hb1⟩
  have n0 := Aside0.mk (below_step (by repeat (first | (with_reducible first | exact HB.out | apply below_alloc | apply pw_below_drewN | apply below_drew1) | refine below_set ?_ (by omega))) hb1)
  clear HB hb1
  have HB := n0
  clear n0
  go_wp2_with fail
  refine (since_nil 0 _).mono ?_
  rintro e w1 ⟨rfl, hb1⟩
  have n0 := Aside0.mk (below_step (by repeat (first | (with_reducible first | exact HB.out | apply below_alloc | apply pw_below_drewN | apply below_drew1) | refine below_set ?_ (by omega))) hb1)
  clear HB hb1
  have HB := n0
  clear n0
  go_wp2
  go_ret
  exact ⟨rfl, by repeat (first | (with_reducible first | exact HB.out | apply below_alloc | apply pw_below_drewN | apply below_drew1) | refine below_set ?_ (by omega))⟩
end Go.Proofs.Ytnmnojapacflgaa.K11
