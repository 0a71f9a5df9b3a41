/-
  Proved here: for all whole numbers of 64 bits the printed function of NumRooms answers true. No condition.
-/
import Derived.Test.YtldanidookkmaaaPNumRoomsx1
namespace Go.Proofs.Ytldanidookkmaaa.Pure
open Go.RowKit Go.Proofs.Ytldanidookkmaaa.PNumRooms Go.Proofs.YtldanidookkmaaaW.PrintWords Go.Proofs.YtldanidookkmaaaW.PrintLast Go.Proofs.YtldanidookkmaaaW.PrintMore

theorem lives_true : pacesetterlaw02_lives.f 70 = some true := by decide +kernel

theorem mn_mx_bounds (n lo hi : Int) (h : lo ≤ hi) : lo ≤ mn (mx n lo) hi ∧ mn (mx n lo) hi ≤ hi := by
  unfold mn mx; constructor <;> (repeat' split) <;> omega

theorem wrap_in (x : Int) (h0 : -1048576000 ≤ x) (h1 : x ≤ 1048576000) : wrap64 x = x := by unfold wrap64; omega

theorem cut_in (x : Int) (h0 : 0 ≤ x) (h1 : x ≤ 1048576) : mn (mx x 0) 1048576 = x := by unfold mn mx; (repeat' split) <;> omega

theorem room_eq (t d m : Int) (ht : 0 ≤ t) (ht' : t ≤ 1048576) (hd : 0 ≤ d) (hd' : d ≤ 1048576) (hm : 0 ≤ m) (hm' : m ≤ 1048576) : num_Room.f t d m = some (mx (d + m - t) 0) := by
  unfold num_Room.f num_Cut.f
  simp only [Option.bind_some]
  rw [cut_in t ht ht', cut_in d hd hd', cut_in m hm hm', wrap_in (d + m) (by omega) (by omega), wrap_in (d + m - t) (by omega) (by omega)]

theorem NumRooms : pacesetterlaw02_NumRooms.Pure := by
  intro a b c _ _ _
  refine ⟨70, ?_⟩
  unfold pacesetterlaw02_NumRooms.f
  rw [lives_true]
  simp only [Option.bind_some, num_Cut.f, if_true]
  have ha := mn_mx_bounds a 0 1048576 (by omega)
  have hb := mn_mx_bounds b 0 1048576 (by omega)
  have hc := mn_mx_bounds c 0 1048576 (by omega)
  rw [Int.tmod_eq_emod_of_nonneg ha.1, Int.tmod_eq_emod_of_nonneg hb.1, Int.tmod_eq_emod_of_nonneg hc.1]
  generalize ht : mn (mx a 0) 1048576 % 262144 = t
  generalize hd : mn (mx b 0) 1048576 % 262144 = d
  generalize hm : mn (mx c 0) 1048576 % 262144 = m
  have t0 : 0 ≤ t ∧ t < 262144 := by omega
  have d0 : 0 ≤ d ∧ d < 262144 := by omega
  have m0 : 0 ≤ m ∧ m < 262144 := by omega
  clear ht hd hm ha hb hc
  rw [room_eq t d m (by omega) (by omega) (by omega) (by omega) (by omega) (by omega)]
  simp only [Option.bind_some]
  have hx : 0 ≤ mx (d + m - t) 0 ∧ d + m - t ≤ mx (d + m - t) 0 ∧ (mx (d + m - t) 0 = 0 ∨ mx (d + m - t) 0 = d + m - t) := by unfold mx; (repeat' split) <;> omega
  generalize mx (d + m - t) 0 = n at hx
  obtain ⟨h1, h2, h3⟩ := hx
  rw [if_pos (by omega), wrap_in (t + n) (by omega) (by omega), room_eq (t + n) d m (by omega) (by omega) (by omega) (by omega) (by omega) (by omega)]
  simp only [Option.bind_some]
  have e : mx (d + m - (t + n)) 0 = 0 := by unfold mx; (repeat' split) <;> omega
  rw [e, if_pos rfl, wrap_in (d + m) (by omega) (by omega)]
  by_cases hn : n = 0
  · rw [if_pos hn]
    subst hn
    congr 1
    have : t ≥ d + m := by omega
    simp [this]
  · rw [if_neg hn, wrap_in (t + n - 1) (by omega) (by omega), room_eq (t + n - 1) d m (by omega) (by omega) (by omega) (by omega) (by omega) (by omega)]
    simp only [Option.bind_some]
    have e2 : mx (d + m - (t + n - 1)) 0 = 1 := by unfold mx; (repeat' split) <;> omega
    rw [e2, if_pos rfl]
    congr 1
    have : ¬ t ≥ d + m := by omega
    simp [this, hn]

end Go.Proofs.Ytldanidookkmaaa.Pure
