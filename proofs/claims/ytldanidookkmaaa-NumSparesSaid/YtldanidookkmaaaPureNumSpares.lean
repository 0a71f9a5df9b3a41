/-
  Proved here: for all whole numbers of 64 bits the printed function of NumSpares answers true. No condition.
-/
import Derived.Test.YtldanidookkmaaaPNumSparesx1
namespace Go.Proofs.Ytldanidookkmaaa.Pure
open Go.RowKit Go.Proofs.Ytldanidookkmaaa.PNumSpares Go.Proofs.YtldanidookkmaaaW.PrintWords Go.Proofs.YtldanidookkmaaaW.PrintLast Go.Proofs.YtldanidookkmaaaW.PrintMore

theorem lives_true : pacesetterlaw02_lives.f 70 = some true := by decide +kernel

theorem mn_mx_bounds (n lo hi : Int) (h : lo ≤ hi) : lo ≤ mn (mx n lo) hi ∧ mn (mx n lo) hi ≤ hi := by
  unfold mn mx; constructor <;> (repeat' split) <;> omega

theorem wrap_in (x : Int) (h0 : -1048576000 ≤ x) (h1 : x ≤ 1048576000) : wrap64 x = x := by unfold wrap64; omega

def cut (x : Int) : Int := mn (mx x 0) 1048576
theorem cut_in (x : Int) (h0 : 0 ≤ x) (h1 : x ≤ 1048576) : cut x = x := by unfold cut mn mx; (repeat' split) <;> omega
theorem cut_bounds (x : Int) : 0 ≤ cut x ∧ cut x ≤ 1048576 := mn_mx_bounds x 0 1048576 (by omega)

theorem least_eq (d m : Int) : num_least.f d m = some (mx (cut d - cut m) 0) := by
  have hd := cut_bounds d
  have hm := cut_bounds m
  unfold num_least.f num_Cut.f
  simp only [Option.bind_some]
  show some (mx (wrap64 (cut d - cut m)) 0) = _
  rw [wrap_in _ (by omega) (by omega)]

theorem need_eq (r d m : Int) : num_Need.f r d m = some (mx (mx (cut d - cut m) 0 - cut r) 0) := by
  have hd := cut_bounds d
  have hm := cut_bounds m
  have hr := cut_bounds r
  unfold num_Need.f
  rw [least_eq]
  unfold num_Cut.f
  simp only [Option.bind_some]
  show some (mx (wrap64 (mx (cut d - cut m) 0 - cut r)) 0) = _
  have : 0 ≤ mx (cut d - cut m) 0 ∧ mx (cut d - cut m) 0 ≤ 1048576 := by unfold mx; (repeat' split) <;> omega
  rw [wrap_in _ (by omega) (by omega)]

theorem spare_eq (r d m : Int) : num_Spare.f r d m = some (mx (cut r - mx (cut d - cut m) 0) 0) := by
  have hd := cut_bounds d
  have hm := cut_bounds m
  have hr := cut_bounds r
  unfold num_Spare.f
  rw [least_eq]
  unfold num_Cut.f
  simp only [Option.bind_some]
  show some (mx (wrap64 (cut r - mx (cut d - cut m) 0)) 0) = _
  have : 0 ≤ mx (cut d - cut m) 0 ∧ mx (cut d - cut m) 0 ≤ 1048576 := by unfold mx; (repeat' split) <;> omega
  rw [wrap_in _ (by omega) (by omega)]

theorem NumSpares : pacesetterlaw02_NumSpares.Pure := by
  intro a b c _ _ _
  refine ⟨70, ?_⟩
  unfold pacesetterlaw02_NumSpares.f
  rw [lives_true]
  simp only [Option.bind_some, if_true, need_eq, spare_eq, num_Cut.f]
  rw [show mn (mx a 0) 1048576 = cut a from rfl]
  have hr := cut_bounds a
  have hl : 0 ≤ mx (cut b - cut c) 0 ∧ mx (cut b - cut c) 0 ≤ 1048576 := by
    have hd := cut_bounds b
    have hm := cut_bounds c
    unfold mx; (repeat' split) <;> omega
  simp only [pacesetterlaw02_NumSpares.j0, if_true, need_eq, Option.bind_some]
  generalize mx (cut b - cut c) 0 = l at *
  generalize cut a = r at *
  have hneed : 0 ≤ mx (l - r) 0 ∧ l - r ≤ mx (l - r) 0 ∧ (mx (l - r) 0 = 0 ∨ mx (l - r) 0 = l - r) := by unfold mx; (repeat' split) <;> omega
  have hspare : 0 ≤ mx (r - l) 0 ∧ r - l ≤ mx (r - l) 0 ∧ (mx (r - l) 0 = 0 ∨ mx (r - l) 0 = r - l) := by unfold mx; (repeat' split) <;> omega
  generalize mx (l - r) 0 = need at *
  generalize mx (r - l) 0 = spare at *
  obtain ⟨n1, n2, n3⟩ := hneed
  obtain ⟨s1, s2, s3⟩ := hspare
  have hs0 : decide (spare < 0) = false := by simp; omega
  by_cases hn : need > 0
  · rw [if_pos hn, if_neg (by omega), if_neg (by omega), if_neg (by omega), hs0, if_neg (by simp), if_pos hn,
      wrap_in (r + need) (by omega) (by omega), wrap_in (r + need - 1) (by omega) (by omega), cut_in (r + need) (by omega) (by omega), cut_in (r + need - 1) (by omega) (by omega)]
    have e1 : mx (l - (r + need)) 0 = 0 := by unfold mx; (repeat' split) <;> omega
    have e2 : mx (l - (r + need - 1)) 0 = 1 := by unfold mx; (repeat' split) <;> omega
    rw [e1, e2, if_pos rfl]
    rfl
  · rw [if_neg hn, if_neg (by omega), if_neg (by omega), hs0, if_neg (by simp), if_neg hn,
      wrap_in (r - spare) (by omega) (by omega), wrap_in (r - spare - 1) (by omega) (by omega), cut_in (r - spare) (by omega) (by omega)]
    have e1 : mx (l - (r - spare)) 0 = 0 := by unfold mx; (repeat' split) <;> omega
    rw [e1, if_pos rfl]
    by_cases he : r = spare
    · rw [if_pos he]
    · rw [if_neg he, cut_in (r - spare - 1) (by omega) (by omega)]
      have e2 : mx (l - (r - spare - 1)) 0 = 1 := by unfold mx; (repeat' split) <;> omega
      rw [e2]
      rfl

end Go.Proofs.Ytldanidookkmaaa.Pure
