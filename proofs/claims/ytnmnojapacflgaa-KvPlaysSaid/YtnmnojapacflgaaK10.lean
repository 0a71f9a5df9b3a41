/-
  Proved here: the document's example answers true.
-/
import Derived.Test.YtnmnojapacflgaaK9
namespace Go.Proofs.Ytnmnojapacflgaa.K10
open Go.Proofs.Ytnmnojapacflgaa.M Go.Proofs.Ytnmnojapacflgaa.K0 Go.RowKit Go.Maps Go.Sort Go.Proofs.YtnmnojapacflgaaW.PrintWords Go.Proofs.YtnmnojapacflgaaW.PrintLast Go.Proofs.YtnmnojapacflgaaW.PrintMore Go.Proofs.Ytnmnojapacflgaa.PKvPlays Go.Proofs.Ytnmnojapacflgaa.K1 Go.Proofs.Ytnmnojapacflgaa.K2 Go.Proofs.Ytnmnojapacflgaa.K3 Go.Proofs.Ytnmnojapacflgaa.K4 Go.Proofs.Ytnmnojapacflgaa.K5 Go.Proofs.Ytnmnojapacflgaa.K6 Go.Proofs.Ytnmnojapacflgaa.K9
set_option linter.unusedVariables false
set_option linter.unusedSimpArgs false
attribute [local go_sem] max2_int min2_int max_two min_two run_makeMap field_entry
theorem one53 (w : World) (e : S53) : Kd.C k53 (w.alloc (.cells #[.string e.f0, .string e.f1, .int .i64 e.f2, .bool e.f3] 53)) (some ⟨w.heap.size, 0, none⟩) 1 [e] := by
  refine ⟨rfl, by decide, fun hn => ⟨_, rfl, fun j p hj => ?_⟩⟩
  cases j with
  | succ j => simp at hj
  | zero =>
    obtain rfl : e = p := by simpa using hj
    refine ⟨_, rfl, k53_mk _ e, fun i u hu => ?_⟩
    have hadd : (⟨w.heap.size, 0, none⟩ : Addr).add (0 * k53.sz + i) = ⟨w.heap.size, i, none⟩ := by
      unfold Addr.add; split <;> simp_all
    rw [hadd]
    have hb := blk_cell (IsBlk.new (W := w) 53 #[.string e.f0, .string e.f1, .int .i64 e.f2, .bool e.f3] rfl) i
    rw [hb, ← hu]
    simp
theorem lives_q (w : World) : Calls Try.prog 9 #[] w fun e w' => e = .returned (.bool true) ∧ Below w.heap.size w w' := by
  go_enter Try.func9, Try.ntmps9
  go_wp2_with fail
  refine (new_q _).mono ?_
  rintro e w1 ⟨rfl, hk1, hb1⟩
  have HB := Aside0.mk hb1
  have HK := Aside0.mk hk1
  clear hb1 hk1
  go_wp2_with fail
  have HKa := Aside0.mk (HK.out.alloc (.cells #[.string ((⟨⟨#[97]⟩, ⟨#[120]⟩, 0, false⟩ : S53)).f0, .string ((⟨⟨#[97]⟩, ⟨#[120]⟩, 0, false⟩ : S53)).f1, .int .i64 ((⟨⟨#[97]⟩, ⟨#[120]⟩, 0, false⟩ : S53)).f2, .bool ((⟨⟨#[97]⟩, ⟨#[120]⟩, 0, false⟩ : S53)).f3] 53))
  have h1 := do_q (w.heap.size + 1) w.heap.size 0 [] _ 1 [(⟨⟨#[97]⟩, ⟨#[120]⟩, 0, false⟩ : S53)] _ HKa.out (one53 _ (⟨⟨#[97]⟩, ⟨#[120]⟩, 0, false⟩ : S53)) (by decide) (by decide) (by decide)
  have d1 : doL 0 [] [(⟨⟨#[97]⟩, ⟨#[120]⟩, 0, false⟩ : S53)] = (1, 0, 1, ([⟨⟨#[97]⟩, ⟨#[120]⟩, 1⟩] : List S72)) := by kernel_rfl
  rw [d1] at h1
  refine h1.mono ?_
  rintro e y1 ⟨rfl, hk1, hb1⟩
  have n0 := Aside0.mk ((below_alloc HB.out _).trans (hb1.far (by have := HB.out.size; simp; omega) (by omega) (by omega)))
  have n1 := Aside0.mk hk1
  clear HB HK HKa h1 d1 hk1 hb1
  have HB := n0
  have HK := n1
  clear n0 n1
  go_wp2_with fail
  have HKa := Aside0.mk (HK.out.alloc (.cells #[.string ((⟨⟨#[97]⟩, ⟨#[]⟩, 0, false⟩ : S53)).f0, .string ((⟨⟨#[97]⟩, ⟨#[]⟩, 0, false⟩ : S53)).f1, .int .i64 ((⟨⟨#[97]⟩, ⟨#[]⟩, 0, false⟩ : S53)).f2, .bool ((⟨⟨#[97]⟩, ⟨#[]⟩, 0, false⟩ : S53)).f3] 53))
  have h2 := do_q (w.heap.size + 1) w.heap.size 1 ([⟨⟨#[97]⟩, ⟨#[120]⟩, 1⟩] : List S72) _ 1 [(⟨⟨#[97]⟩, ⟨#[]⟩, 0, false⟩ : S53)] _ HKa.out (one53 _ (⟨⟨#[97]⟩, ⟨#[]⟩, 0, false⟩ : S53)) (by decide) (by decide) (by decide)
  have d2 : doL 1 ([⟨⟨#[97]⟩, ⟨#[120]⟩, 1⟩] : List S72) [(⟨⟨#[97]⟩, ⟨#[]⟩, 0, false⟩ : S53)] = (0, 7, 1, ([⟨⟨#[97]⟩, ⟨#[120]⟩, 1⟩] : List S72)) := by kernel_rfl
  rw [d2] at h2
  refine h2.mono ?_
  rintro e y2 ⟨rfl, hk1, hb1⟩
  have n0 := Aside0.mk ((below_alloc HB.out _).trans (hb1.far (by have := HB.out.size; simp; omega) (by omega) (by omega)))
  have n1 := Aside0.mk hk1
  clear HB HK HKa h2 d2 hk1 hb1
  have HB := n0
  have HK := n1
  clear n0 n1
  go_wp2_with fail
  have HKa := Aside0.mk (HK.out.alloc (.cells #[.string ((⟨⟨#[97]⟩, ⟨#[121]⟩, 1, false⟩ : S53)).f0, .string ((⟨⟨#[97]⟩, ⟨#[121]⟩, 1, false⟩ : S53)).f1, .int .i64 ((⟨⟨#[97]⟩, ⟨#[121]⟩, 1, false⟩ : S53)).f2, .bool ((⟨⟨#[97]⟩, ⟨#[121]⟩, 1, false⟩ : S53)).f3] 53))
  have h3 := do_q (w.heap.size + 1) w.heap.size 1 ([⟨⟨#[97]⟩, ⟨#[120]⟩, 1⟩] : List S72) _ 1 [(⟨⟨#[97]⟩, ⟨#[121]⟩, 1, false⟩ : S53)] _ HKa.out (one53 _ (⟨⟨#[97]⟩, ⟨#[121]⟩, 1, false⟩ : S53)) (by decide) (by decide) (by decide)
  have d3 : doL 1 ([⟨⟨#[97]⟩, ⟨#[120]⟩, 1⟩] : List S72) [(⟨⟨#[97]⟩, ⟨#[121]⟩, 1, false⟩ : S53)] = (2, 0, 2, ([⟨⟨#[97]⟩, ⟨#[121]⟩, 2⟩] : List S72)) := by kernel_rfl
  rw [d3] at h3
  refine h3.mono ?_
  rintro e y3 ⟨rfl, hk1, hb1⟩
  have n0 := Aside0.mk ((below_alloc HB.out _).trans (hb1.far (by have := HB.out.size; simp; omega) (by omega) (by omega)))
  have n1 := Aside0.mk hk1
  clear HB HK HKa h3 d3 hk1 hb1
  have HB := n0
  have HK := n1
  clear n0 n1
  go_wp2_with fail
  have hg := get_q (w.heap.size + 1) w.heap.size 2 ([⟨⟨#[97]⟩, ⟨#[121]⟩, 2⟩] : List S72) ⟨#[97]⟩ (by decide) _ HK.out
  have d4 : K0.look ([⟨⟨#[97]⟩, ⟨#[121]⟩, 2⟩] : List S72) ⟨#[97]⟩ = (⟨#[121]⟩, 2) := by kernel_rfl
  rw [d4] at hg
  refine hg.mono ?_
  rintro e y4 ⟨rfl, hb1⟩
  have n0 := Aside0.mk (below_step HB.out hb1)
  clear HB HK hg d4 hb1
  have HB := n0
  clear n0
  go_wp2
  go_ret
  exact ⟨rfl, by repeat (first | (with_reducible first | exact HB.out | apply below_alloc | apply pw_below_drewN | apply below_drew1) | refine below_set ?_ (by omega))⟩
end Go.Proofs.Ytnmnojapacflgaa.K10
