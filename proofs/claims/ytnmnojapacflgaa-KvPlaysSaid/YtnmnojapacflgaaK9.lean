/-
  Proved here: the law's as copies a list, ops cuts it to 70 with texts cut to 70. No condition but how the slice reads.
-/
import Derived.Test.YtnmnojapacflgaaK5
import Derived.Test.YtnmnojapacflgaaK6
namespace Go.Proofs.Ytnmnojapacflgaa.K9
open Go.RowKit Go.Proofs.YtnmnojapacflgaaW.PrintWords Go.Proofs.YtnmnojapacflgaaW.PrintLast Go.Proofs.YtnmnojapacflgaaW.PrintMore Go.Proofs.Ytnmnojapacflgaa.PKvPlays Go.Proofs.Ytnmnojapacflgaa.K6
set_option linter.unusedVariables false
set_option linter.unusedSimpArgs false
def to53 (e : S42) : S53 := ⟨e.f0, e.f1, e.f2, e.f3⟩
def cutS (b : ByteArray) : ByteArray := b.extract 0 ((mn (b.size : Int) 70) : Int).toNat
def cut (e : S42) : S42 := ⟨cutS e.f0, cutS e.f1, e.f2, e.f3⟩
def asL (l : List S42) : List S53 := l.map to53
def opsL (l : List S42) : List S42 := (l.take 70).map cut
theorem wrap64_eq {n : Int} (h : -9223372036854775808 ≤ n) (h1 : n ≤ 9223372036854775807) : wrap64 n = n := by unfold wrap64; omega
theorem mn_le (n : Nat) : 0 ≤ mn (n : Int) 70 ∧ mn (n : Int) 70 ≤ n := by
  unfold mn
  split <;> omega
theorem ops_l0 (l : List S42) : ∀ (j i : Nat), i + j = min l.length 70 → pacesetterlaw08_ops.l0 (j + 1) l ((l.take i).map cut) (i : Int) = some (opsL l)
  | 0, i, h => by
    have ht : l.take i = l.take 70 := by
      rcases Nat.le_total l.length 70 with h1 | h1
      · rw [List.take_of_length_le (by omega), List.take_of_length_le h1]
      · rw [show i = 70 by omega]
    unfold pacesetterlaw08_ops.l0 opsL
    rw [ht]
    by_cases h1 : (i : Int) < l.length
    · rw [if_pos h1, if_neg (by omega)]
    · rw [if_neg h1]
  | j + 1, i, h => by
    have hi : i < l.length := by omega
    have ih := ops_l0 l j (i + 1) (by omega)
    unfold pacesetterlaw08_ops.l0
    have hrd : rd_T42 l (i : Int) = l[i] := by unfold rd_T42; simp [hi]
    rw [hrd, if_pos (by omega), if_pos (by omega), if_pos (by omega), if_pos (mn_le _).1, if_pos (mn_le _).2, if_pos (mn_le _).1, if_pos (mn_le _).2, if_pos (by rw [List.length_map, List.length_take]; omega), wrap64_eq (by omega) (by omega)]
    rw [List.take_succ_eq_append_getElem hi, List.map_append] at ih
    exact ih
theorem ops_f (l : List S42) : pacesetterlaw08_ops.f (min l.length 70 + 1) l = some (opsL l) := ops_l0 l (min l.length 70) 0 (by omega)
theorem as_l0 (l : List S42) (hl : l.length ≤ 1000) : ∀ (j i : Nat), i + j = l.length → pacesetterlaw08_as.l0 (j + 1) l ((l.take i).map to53) (i : Int) = some (asL l)
  | 0, i, h => by
    unfold pacesetterlaw08_as.l0 asL
    rw [List.take_of_length_le (by omega), if_neg (by omega)]
  | j + 1, i, h => by
    have hi : i < l.length := by omega
    have ih := as_l0 l hl j (i + 1) (by omega)
    unfold pacesetterlaw08_as.l0
    have hrd : rd_T42 l (i : Int) = l[i] := by unfold rd_T42; simp [hi]
    rw [hrd, if_pos (by omega), if_pos (by omega), if_pos (by rw [List.length_map, List.length_take]; omega), wrap64_eq (by omega) (by omega)]
    rw [List.take_succ_eq_append_getElem hi, List.map_append] at ih
    exact ih
theorem as_f (l : List S42) (hl : l.length ≤ 1000) : pacesetterlaw08_as.f (l.length + 1) l = some (asL l) := as_l0 l hl l.length 0 (by omega)
theorem opsL_len (l : List S42) : (opsL l).length ≤ 70 := by unfold opsL; rw [List.length_map, List.length_take]; omega
theorem asL_len (l : List S42) : (asL l).length = l.length := List.length_map _
end Go.Proofs.Ytnmnojapacflgaa.K9
