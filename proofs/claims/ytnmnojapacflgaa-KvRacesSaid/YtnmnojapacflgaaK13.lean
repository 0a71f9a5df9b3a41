/-
  Proved here: what four changes of one key answer. No condition but the key's length.
-/
import Derived.Test.YtnmnojapacflgaaK4
namespace Go.Proofs.Ytnmnojapacflgaa.K13
open Go.Proofs.Ytnmnojapacflgaa.M Go.Proofs.Ytnmnojapacflgaa.K0 Go.RowKit Go.Maps Go.Sort Go.Proofs.YtnmnojapacflgaaW.PrintWords Go.Proofs.YtnmnojapacflgaaW.PrintLast Go.Proofs.YtnmnojapacflgaaW.PrintMore Go.Proofs.Ytnmnojapacflgaa.PKvPlays Go.Proofs.Ytnmnojapacflgaa.K1 Go.Proofs.Ytnmnojapacflgaa.K2 Go.Proofs.Ytnmnojapacflgaa.K3 Go.Proofs.Ytnmnojapacflgaa.K4
set_option linter.unusedVariables false
set_option linter.unusedSimpArgs false
def cutN (n : Int) (b : ByteArray) : ByteArray := b.extract 0 ((mn (b.size : Int) n) : Int).toNat
def keyN (c : UInt8) (n : Int) (b : ByteArray) : ByteArray := ⟨#[c]⟩ ++ cutN n b
theorem cutN_size (n : Int) (hn : 0 ≤ n) (b : ByteArray) : ((cutN n b).size : Int) ≤ n := by
  unfold cutN
  rw [ByteArray.size_extract]
  have : mn (b.size : Int) n ≤ n := by unfold mn; split <;> omega
  omega
theorem keyN_size (c : UInt8) (n : Int) (hn : 0 ≤ n) (b : ByteArray) : ((keyN c n b).size : Int) ≤ n + 1 := by
  have := cutN_size n hn b
  unfold keyN
  rw [ByteArray.size_append]
  have h1 : (ByteArray.mk #[c]).size = 1 := rfl
  omega
theorem pre_empty (c : UInt8) (b : ByteArray) : (⟨#[c]⟩ ++ b : ByteArray).toList.isEmpty = false := by
  rw [ByteArray.toList_eq, ByteArray.data_append]
  simp
theorem keyN_empty (c : UInt8) (n : Int) (b : ByteArray) : (keyN c n b).toList.isEmpty = false := pre_empty c _
theorem okOp_of (k v : ByteArray) (r : Int) (d : Bool) (hk : k.toList.isEmpty = false) (hs : (k.size : Int) ≤ 64) (hv : (v.size : Int) ≤ 64) : okOp ⟨k, v, r, d⟩ = true := by
  unfold okOp
  dsimp only
  rw [hk, decide_eq_false (by omega), decide_eq_false (by omega)]
  rfl
theorem right_one (e : S53) (h : okOp e = true) : rightB [e] = true := by
  unfold rightB rightFrom rightFrom
  rw [h]
  rfl
theorem right_bad (e : S53) (l : List S53) (h : okOp e = false) : rightB (e :: l) = false := by
  unfold rightB rightFrom
  rw [h]
  rfl
theorem look_nil (k : ByteArray) : K0.look [] k = (ze, 0) := rfl
theorem look_one (k v : ByteArray) (r : Int) : K0.look [⟨k, v, r⟩] k = (v, r) := by
  unfold K0.look
  rw [get_cons, if_pos rfl]
  rfl
theorem del_one (k v : ByteArray) (r : Int) : del [⟨k, v, r⟩] k = [] := by simp [del]
theorem why_of (L : List S72) (e : S53) (h : okOp e = true) : whyL L [e] = whyFrom L [e] (L.length : Int) false := by
  unfold whyL
  rw [if_pos (right_one e h)]
theorem do_new (rev : Int) (k v : ByteArray) (h : okOp ⟨k, v, 0, false⟩ = true) : doL rev [] [⟨k, v, 0, false⟩] = (rev + 1, 0, rev + 1, [⟨k, v, rev + 1⟩]) := by
  have hy : whyL [] [⟨k, v, 0, false⟩] = 0 := by
    rw [why_of _ _ h, whyFrom_cons]
    rfl
  unfold doL
  rw [if_pos hy]
  rfl
theorem do_late (rev : Int) (k v u : ByteArray) (r : Int) (hr : (r == 0) = false) (h : okOp ⟨k, u, 0, false⟩ = true) : doL rev [⟨k, v, r⟩] [⟨k, u, 0, false⟩] = (0, 7, rev, [⟨k, v, r⟩]) := by
  have hne : ((0 : Int) != r) = true := by
    have : r ≠ 0 := by simpa using hr
    simp; omega
  have hy : whyL [⟨k, v, r⟩] [⟨k, u, 0, false⟩] = 7 := by
    rw [why_of _ _ h, whyFrom_cons, look_one]
    dsimp only
    rw [hne]
    rfl
  unfold doL
  rw [hy]
  rfl
theorem do_next (rev : Int) (k v u : ByteArray) (r : Int) (hr : (r == 0) = false) (h : okOp ⟨k, u, r, false⟩ = true) : doL rev [⟨k, v, r⟩] [⟨k, u, r, false⟩] = (rev + 1, 0, rev + 1, [⟨k, u, rev + 1⟩]) := by
  have hne : (r != r) = false := by simp
  have hy : whyL [⟨k, v, r⟩] [⟨k, u, r, false⟩] = 0 := by
    rw [why_of _ _ h, whyFrom_cons, look_one]
    dsimp only
    rw [hne, hr, Bool.and_false]
    rfl
  unfold doL
  rw [if_pos hy]
  have : opL (rev + 1) [⟨k, v, r⟩] ⟨k, u, r, false⟩ = [⟨k, u, rev + 1⟩] := by
    unfold opL
    dsimp only
    rw [del_one]
    rfl
  rw [List.foldl_cons, this]
  rfl
theorem do_drop (rev : Int) (k v : ByteArray) (r : Int) (hr : (r == 0) = false) (h : okOp ⟨k, ze, r, true⟩ = true) : doL rev [⟨k, v, r⟩] [⟨k, ze, r, true⟩] = (rev + 1, 0, rev + 1, []) := by
  have hne : (r != r) = false := by simp
  have hy : whyL [⟨k, v, r⟩] [⟨k, ze, r, true⟩] = 0 := by
    rw [why_of _ _ h, whyFrom_cons, look_one]
    dsimp only
    rw [hne, hr, Bool.and_false]
    rfl
  unfold doL
  rw [if_pos hy]
  have : opL (rev + 1) [⟨k, v, r⟩] ⟨k, ze, r, true⟩ = [] := by
    unfold opL
    dsimp only
    rw [del_one]
    rfl
  rw [List.foldl_cons, this]
  rfl
end Go.Proofs.Ytnmnojapacflgaa.K13
