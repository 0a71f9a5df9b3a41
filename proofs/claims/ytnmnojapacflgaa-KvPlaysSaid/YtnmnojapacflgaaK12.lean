/-
  Proved here: how an opened slice of changes reads in the words of the walks. No condition.
-/
import Derived.Test.YtnmnojapacflgaaK4
import Derived.Test.YtnmnojapacflgaaO
namespace Go.Proofs.Ytnmnojapacflgaa.K12
open Go.Proofs.Ytnmnojapacflgaa.M Go.Proofs.Ytnmnojapacflgaa.K0 Go.RowKit Go.Maps Go.Sort Go.Proofs.YtnmnojapacflgaaW.PrintWords Go.Proofs.YtnmnojapacflgaaW.PrintLast Go.Proofs.YtnmnojapacflgaaW.PrintMore Go.Proofs.Ytnmnojapacflgaa.PKvPlays
set_option linter.unusedVariables false
set_option linter.unusedSimpArgs false
def mk42 (p : ByteArray × ByteArray × Int × Bool) : S42 := ⟨p.1, p.2.1, p.2.2.1, p.2.2.2⟩
theorem c_of {w : World} {A : Option Addr} {ps : List (ByteArray × ByteArray × Int × Bool)} (h : O.Rowz O.Is42 4 w A ps) : Kd.C k42 w A (ps.map mk42).length (ps.map mk42) := by
  refine ⟨rfl, by rw [List.length_map]; exact h.1, fun hn => ?_⟩
  rw [List.length_map] at hn
  obtain ⟨b, off, c0, hA, _, _, _, _⟩ := O.Rowz.at' h (by decide) (ze, ze, 0, false) 0 hn
  refine ⟨_, hA, fun j p hj => ?_⟩
  rw [List.getElem?_map] at hj
  obtain ⟨x, hx, rfl⟩ := Option.map_eq_some_iff.1 hj
  have hjl : j < ps.length := (List.getElem?_eq_some_iff.1 hx).1
  obtain ⟨b', off', c, hA', hcl, ⟨hc, _⟩, _, hcell⟩ := O.Rowz.at' h (by decide) (ze, ze, 0, false) j hjl
  rw [hA] at hA'
  cases hA'
  have he : ps.getD j (ze, ze, 0, false) = x := by rw [List.getD_eq_getElem?_getD, hx]; rfl
  rw [he] at hc
  subst hc
  refine ⟨_, rfl, k42_mk _ (mk42 x), fun i u hu => ?_⟩
  rw [show k42.sz = 4 from rfl, O.add_at]
  exact hcell i u hu
end Go.Proofs.Ytnmnojapacflgaa.K12
