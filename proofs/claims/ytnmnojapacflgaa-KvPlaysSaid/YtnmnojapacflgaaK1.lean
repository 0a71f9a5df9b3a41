/-
  Proved here: what kv.New, Rev, Get answer and leave. No condition but that a key is no longer than memory.
-/
import Derived.Test.YtnmnojapacflgaaK0
import Derived.Test.YtnmnojapacflgaaM
namespace Go.Proofs.Ytnmnojapacflgaa.K1
open Go.Proofs.Ytnmnojapacflgaa.M Go.Proofs.Ytnmnojapacflgaa.K0 Go.RowKit Go.Maps Go.Sort Go.Proofs.YtnmnojapacflgaaW.PrintWords Go.Proofs.YtnmnojapacflgaaW.PrintLast Go.Proofs.YtnmnojapacflgaaW.PrintMore Go.Proofs.Ytnmnojapacflgaa.PKvPlays
set_option linter.unusedVariables false
set_option linter.unusedSimpArgs false
attribute [local go_sem] max2_int min2_int max_two min_two run_makeMap

theorem wrap64_eq {n : Int} (h : -9223372036854775808 ≤ n) (h1 : n ≤ 9223372036854775807) : wrap64 n = n := by unfold wrap64; omega
set_option maxHeartbeats 1000000 in
theorem new_q (w : World) : Calls Try.prog 10 #[] w fun e w' => e = .returned (.pointer (some ⟨w.heap.size + 1, 0, none⟩)) ∧ Kv w' (w.heap.size + 1) w.heap.size 0 [] ∧ Below w.heap.size w w' := by
  have HB := Aside0.mk (Below.refl w.heap.size w)
  go_enter Try.func10, Try.ntmps10
  go_wp2
  go_ret
  exact ⟨rfl, ⟨IsBlk.new _ _ (by simp), (KM.made w).alloc _⟩, by repeat (first | (with_reducible first | exact HB.out | apply below_alloc | apply pw_below_drewN | apply below_drew1) | refine below_set ?_ (by omega))⟩
theorem rev_q (g q : Nat) (rev : Int) (L : List S72) (w : World) (h : Kv w g q rev L) : Calls Try.prog 17 #[.pointer (some ⟨g, 0, none⟩)] w fun e w' => e = .returned (.int .i64 rev) ∧ Below w.heap.size w w' := by
  have HB := Aside0.mk (Below.refl w.heap.size w)
  have D := h.blk
  have D_0 := blk_cell D 0
  have D_1 := blk_cell D 1
  simp only [List.getElem?_toArray, List.getElem?_cons_zero, List.getElem?_cons_succ] at D_0 D_1
  have D_z0 := blk_frozen D 0
  have D_z1 := blk_frozen D 1
  have D_l := blk_lt D
  have HD := Aside0.mk D
  clear D
  clear h
  go_enter Try.func17, Try.ntmps17
  go_wp2
  go_ret
  exact ⟨rfl, by repeat (first | (with_reducible first | exact HB.out | apply below_alloc | apply pw_below_drewN | apply below_drew1) | refine below_set ?_ (by omega))⟩
theorem rev_nil (w : World) : Calls Try.prog 17 #[.pointer none] w fun e w' => e = .returned (.int .i64 0) ∧ Below w.heap.size w w' := by
  have HB := Aside0.mk (Below.refl w.heap.size w)
  go_enter Try.func17, Try.ntmps17
  go_wp2
  go_ret
  exact ⟨rfl, by repeat (first | (with_reducible first | exact HB.out | apply below_alloc | apply pw_below_drewN | apply below_drew1) | refine below_set ?_ (by omega))⟩
set_option maxHeartbeats 1000000 in
theorem get_q (g q : Nat) (rev : Int) (L : List S72) (k : ByteArray) (hk : k.size ≤ maxLen) (w : World) (h : Kv w g q rev L) : Calls Try.prog 16 #[.pointer (some ⟨g, 0, none⟩), .string k] w fun e w' => e = .returned (.tuple #[.string (K0.look L k).1, .int .i64 (K0.look L k).2]) ∧ Below w.heap.size w w' := by
  have HB := Aside0.mk (Below.refl w.heap.size w)
  have D := h.blk
  have D_0 := blk_cell D 0
  have D_1 := blk_cell D 1
  simp only [List.getElem?_toArray, List.getElem?_cons_zero, List.getElem?_cons_succ] at D_0 D_1
  have D_z0 := blk_frozen D 0
  have D_z1 := blk_frozen D 1
  have D_l := blk_lt D
  have HD := Aside0.mk D
  clear D
  have hlook := h.map.look hk
  obtain ⟨⟨v, r⟩, hvr⟩ : ∃ x, K0.look L k = x := ⟨_, rfl⟩
  rw [hvr] at hlook ⊢
  replace hlook : (Instr.lookup 56 (.map (some q)) (.string k) false).run Try.prog w = .ok (.agg #[.string v, .int .i64 r]) w := hlook
  clear h hvr hk
  go_enter Try.func16, Try.ntmps16
  go_wp2
  go_quiet (fail)
  go_wp2
  go_ret2
  exact ⟨rfl, by repeat (first | (with_reducible first | exact HB.out | apply below_alloc | apply pw_below_drewN | apply below_drew1) | refine below_set ?_ (by omega))⟩
theorem get_nil_q (k : ByteArray) (w : World) : Calls Try.prog 16 #[.pointer none, .string k] w fun e w' => e = .returned (.tuple #[.string ze, .int .i64 0]) ∧ Below w.heap.size w w' := by
  have HB := Aside0.mk (Below.refl w.heap.size w)
  go_enter Try.func16, Try.ntmps16
  go_wp2
  go_ret2
  exact ⟨rfl, by repeat (first | (with_reducible first | exact HB.out | apply below_alloc | apply pw_below_drewN | apply below_drew1) | refine below_set ?_ (by omega))⟩
end Go.Proofs.Ytnmnojapacflgaa.K1
