/-
  Proved here: KvNil answers true and leaves the memory that was there. No condition but how the slice reads.
-/
import Derived.Test.YtnmnojapacflgaaK11
import Derived.Test.YtnmnojapacflgaaK12
namespace Go.Proofs.Ytnmnojapacflgaa.WalkKvNil
open Go.Proofs.Ytnmnojapacflgaa.K0 Go.RowKit Go.Proofs.YtnmnojapacflgaaW.PrintWords Go.Proofs.Ytnmnojapacflgaa.PKvPlays
theorem walk (A0 : Option Addr) (c0 : Nat) (l : List (ByteArray × ByteArray × Int × Bool)) (s : ByteArray) (W : World) (hr : O.Rowz O.Is42 4 W A0 l) (hc : l.length ≤ c0) :
    Calls Try.prog 8 #[.slice A0 l.length c0, .string s] W fun e w' => e = .returned (.bool true) ∧ Below W.heap.size W w' := by
  have h := K12.c_of hr
  have hn : (l.map K12.mk42).length = l.length := List.length_map _
  have := K11.nil_q A0 c0 (l.map K12.mk42) s W h (by rw [hn]; exact hc)
  rw [hn] at this
  exact this
end Go.Proofs.Ytnmnojapacflgaa.WalkKvNil
