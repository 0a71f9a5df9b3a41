/-
  Proved here: percents, rounded down and up, of any whole numbers: the plain law of NumRounds. No condition.
-/
import Derived.Test.YtldanidookkmaaaA1
namespace Go.Proofs.Ytldanidookkmaaa.Rounds
open Go.RowKit Go.Proofs.Ytldanidookkmaaa.A1 Go.Proofs.Ytldanidookkmaaa.PNumSums Go.Proofs.YtldanidookkmaaaW.PrintWords Go.Proofs.YtldanidookkmaaaW.PrintLast Go.Proofs.YtldanidookkmaaaW.PrintMore

def clip (p : Int) : Int := mn (mx p 0) 100
theorem clip_bounds (p : Int) : 0 ≤ clip p ∧ clip p ≤ 100 := by
  unfold clip mn mx; constructor <;> (repeat' split) <;> omega
theorem clip_mono (a b : Int) (h : a ≤ b) : clip a ≤ clip b := by
  unfold clip mn mx; (repeat' split) <;> omega

def perc (p n : Int) (up : Bool) : Int := if up = true then (clip p * cut n + 99) / 100 else (clip p * cut n) / 100

theorem prod_bounds (a b : Int) (ha : 0 ≤ a) (ha' : a ≤ 100) (hb : 0 ≤ b) (hb' : b ≤ 1048576) : 0 ≤ a * b ∧ a * b ≤ 100 * b ∧ a * b ≤ 104857600 := by
  have h1 := Int.mul_nonneg ha hb
  have h2 := Int.mul_le_mul_of_nonneg_right ha' hb
  exact ⟨h1, h2, by omega⟩

theorem percent_eq (p n : Int) (up : Bool) : num_Percent.f p n up = some (perc p n up) := by
  have hp := clip_bounds p
  have hn := cut_bounds n
  have hb := prod_bounds _ _ hp.1 hp.2 hn.1 hn.2
  unfold num_Percent.f num_Cut.f perc
  simp only [Option.bind_some]
  rw [show mn (mx p 0) 100 = clip p from rfl, show mn (mx n 0) 1048576 = cut n from rfl]
  generalize clip p * cut n = x at hb ⊢
  rw [wrap_in x (by omega) (by omega), wrap_in (x + 99) (by omega) (by omega), Int.tdiv_eq_ediv_of_nonneg (by omega : 0 ≤ x), Int.tdiv_eq_ediv_of_nonneg (by omega : 0 ≤ x + 99),
    wrap_in (x / 100) (by omega) (by omega), wrap_in ((x + 99) / 100) (by omega) (by omega)]
  split <;> rfl

theorem percent_any (p n : Int) (up : Bool) (w : World) : Calls Try.prog 15 #[.int .i64 p, .int .i64 n, .bool up] w fun e w' => e = .returned (.int .i64 (perc p n up)) ∧ Below w.heap.size w w' :=
  num_Percent.calls p n up (perc p n up) w (percent_eq p n up)

theorem perc_bounds (p n : Int) (up : Bool) : 0 ≤ perc p n up ∧ perc p n up ≤ cut n := by
  have hp := clip_bounds p
  have hn := cut_bounds n
  have hb := prod_bounds _ _ hp.1 hp.2 hn.1 hn.2
  unfold perc
  split <;> omega

theorem perc_up (p n : Int) : perc p n false ≤ perc p n true ∧ perc p n true - perc p n false ≤ 1 := by
  have hp := clip_bounds p
  have hn := cut_bounds n
  have hb := prod_bounds _ _ hp.1 hp.2 hn.1 hn.2
  simp only [perc, if_true, Bool.false_eq_true, if_false]
  omega

theorem perc_mono (a b n : Int) (h : a ≤ b) : perc a n true ≤ perc b n true := by
  have hn := cut_bounds n
  have h4 := Int.mul_le_mul_of_nonneg_right (clip_mono a b h) hn.1
  simp only [perc, if_true]
  omega

theorem perc_none (n : Int) : perc 0 n true = 0 := by
  have : clip 0 = 0 := by decide
  simp only [perc, if_true, this]
  omega

theorem perc_all (n : Int) : perc 100 n false = cut n := by
  have : clip 100 = 100 := by decide
  simp only [perc, Bool.false_eq_true, if_false, this]
  omega

theorem mn_le_mx (a b : Int) : mn a b ≤ mx a b := by unfold mn mx; (repeat' split) <;> omega
end Go.Proofs.Ytldanidookkmaaa.Rounds
