/-
  Proved here: the reference's record of sixteen slots as an array of 67 cells; what loading, storing, making one does. No condition.
-/
import Derived.Test.YtkjaeodnpgpfeaaW5
import Derived.Test.YtkjaeodnpgpfeaaS6
import Derived.Deep.MidRow
namespace Go.Proofs.Ytkjaeodnpgpfeaa.V0
open Go.RowKit Go.Maps Go.Sort Go.Shelf Go.Proofs.Ytkjaeodnpgpfeaa.M Go.Proofs.Ytkjaeodnpgpfeaa.S0 Go.Proofs.Ytkjaeodnpgpfeaa.S4 Go.Proofs.Ytkjaeodnpgpfeaa.W0 Go.Proofs.YtkjaeodnpgpfeaaW.PrintWords Go.Proofs.YtkjaeodnpgpfeaaW.PrintLast Go.Proofs.YtkjaeodnpgpfeaaW.PrintMore Go.Proofs.Ytkjaeodnpgpfeaa.W1 Go.Proofs.Ytkjaeodnpgpfeaa.W2 Go.Proofs.Ytkjaeodnpgpfeaa.W3 Go.Proofs.Ytkjaeodnpgpfeaa.W4 Go.Proofs.Ytkjaeodnpgpfeaa.W5
set_option linter.unusedVariables false
set_option linter.unusedSimpArgs false

def fld (s : Sl) (k : Nat) : Int := if k = 0 then s.st else if k = 1 then s.ver else if k = 2 then s.want else s.seq
def rcell (n m seen : Int) (h : Nat → Sl) (i : Nat) : Int := if i = 0 then n else if i = 1 then m else if i = 2 then seen else fld (h ((i - 3) / 4)) ((i - 3) % 4)
/-- The record: number, many, seen, sixteen slots. -/
def rv (n m seen : Int) (h : Nat → Sl) : Array Value := Array.ofFn (n := 67) fun i => .int .i64 (rcell n m seen h i.val)
section
variable (n m seen : Int) (h : Nat → Sl)
theorem rv_size : (rv n m seen h).size = 67 := Array.size_ofFn
theorem rv_get (i : Nat) (hi : i < 67) : (rv n m seen h)[i]? = some (.int .i64 (rcell n m seen h i)) := by
  unfold rv
  rw [Array.getElem?_ofFn, dif_pos hi]
theorem rv_out (i : Nat) (hi : 67 ≤ i) : (rv n m seen h)[i]? = none := by
  rw [Array.getElem?_eq_none]
  rw [rv_size]; exact hi
theorem rv_0 : (rv n m seen h)[0]? = some (.int .i64 n) := rv_get n m seen h 0 (by decide)
theorem rv_1 : (rv n m seen h)[1]? = some (.int .i64 m) := rv_get n m seen h 1 (by decide)
theorem rv_2 : (rv n m seen h)[2]? = some (.int .i64 seen) := rv_get n m seen h 2 (by decide)
theorem rcell_u (u k : Nat) (hk : k < 4) : rcell n m seen h (3 + u * 4 + k) = fld (h u) k := by
  unfold rcell
  rw [if_neg (by omega), if_neg (by omega), if_neg (by omega)]
  rw [show (3 + u * 4 + k - 3) / 4 = u by omega, show (3 + u * 4 + k - 3) % 4 = k by omega]
theorem rv_u (u k : Nat) (hu : u < 16) (hk : k < 4) : (rv n m seen h)[3 + u * 4 + k]? = some (.int .i64 (fld (h u) k)) := by
  rw [rv_get n m seen h _ (by omega), rcell_u n m seen h u k hk]
theorem rv_one : (rv n m seen h).all (·.oneCell') = true := by
  refine Array.all_eq_true_iff_forall_mem.2 fun v hv => ?_
  unfold rv at hv
  obtain ⟨i, rfl⟩ := Array.mem_ofFn.1 hv
  rfl
theorem rv_seen (x : Int) : (rv n m seen h).setIfInBounds 2 (.int .i64 x) = rv n m x h := by
  refine Array.ext_getElem? fun i => ?_
  rw [Array.getElem?_setIfInBounds]
  by_cases e : 2 = i
  · subst e
    rw [if_pos rfl, if_pos (by rw [rv_size]; decide), rv_2]
  · rw [if_neg e]
    by_cases hi : i < 67
    · rw [rv_get _ _ _ _ i hi, rv_get _ _ _ _ i hi]
      unfold rcell
      have e' : ¬ i = 2 := fun x => e x.symm
      rw [if_neg e', if_neg e']
    · rw [rv_out _ _ _ _ i (by omega), rv_out _ _ _ _ i (by omega)]
def hupd (h : Nat → Sl) (u : Nat) (s : Sl) : Nat → Sl := fun j => if j = u then s else h j
theorem rv_put (u : Nat) (hu : u < 16) (a b c d : Int) : ((((rv n m seen h).setIfInBounds (3 + u * 4) (.int .i64 a)).setIfInBounds (3 + u * 4 + 1) (.int .i64 b)).setIfInBounds (3 + u * 4 + 2) (.int .i64 c)).setIfInBounds (3 + u * 4 + 3) (.int .i64 d) = rv n m seen (hupd h u ⟨a, b, c, d⟩) := by
  refine Array.ext_getElem? fun i => ?_
  simp only [Array.getElem?_setIfInBounds, Array.size_setIfInBounds, rv_size]
  by_cases hi : i < 67
  · rw [rv_get _ _ _ _ i hi, rv_get _ _ _ _ i hi]
    have key : ∀ k, k < 4 → i = 3 + u * 4 + k → rcell n m seen (hupd h u ⟨a, b, c, d⟩) i = fld ⟨a, b, c, d⟩ k := fun k hk e => by
      rw [e, rcell_u _ _ _ _ u k hk]
      unfold hupd
      rw [if_pos rfl]
    by_cases e3 : 3 + u * 4 + 3 = i
    · rw [if_pos e3, if_pos (by omega), key 3 (by decide) e3.symm]; rfl
    · rw [if_neg e3]
      by_cases e2 : 3 + u * 4 + 2 = i
      · rw [if_pos e2, if_pos (by omega), key 2 (by decide) e2.symm]; rfl
      · rw [if_neg e2]
        by_cases e1 : 3 + u * 4 + 1 = i
        · rw [if_pos e1, if_pos (by omega), key 1 (by decide) e1.symm]; rfl
        · rw [if_neg e1]
          by_cases e0 : 3 + u * 4 = i
          · rw [if_pos e0, if_pos (by omega), key 0 (by decide) e0.symm]; rfl
          · rw [if_neg e0]
            have : rcell n m seen (hupd h u ⟨a, b, c, d⟩) i = rcell n m seen h i := by
              unfold rcell
              by_cases h0 : i = 0
              · rw [if_pos h0, if_pos h0]
              · by_cases h1 : i = 1
                · rw [if_neg h0, if_neg h0, if_pos h1, if_pos h1]
                · by_cases h2 : i = 2
                  · rw [if_neg h0, if_neg h0, if_neg h1, if_neg h1, if_pos h2, if_pos h2]
                  · rw [if_neg h0, if_neg h0, if_neg h1, if_neg h1, if_neg h2, if_neg h2]
                    unfold hupd
                    rw [if_neg (by omega)]
            rw [this]
  · rw [rv_out _ _ _ _ i (by omega), rv_out _ _ _ _ i (by omega)]
    rw [if_neg (by omega), if_neg (by omega), if_neg (by omega), if_neg (by omega)]
end
theorem infoW : (Try.prog.info? 47).map (·.size) = some 67 := by kernel_rfl
set_option maxRecDepth 100000 in
theorem zeroW : (Try.prog.info? 47).bind (·.zero) = some (.agg (rv 0 0 0 fun _ => zs)) := by kernel_rfl

section
variable {ops : Array Oper} {rest : List Oper} {a : Act} {Q : Exit → Act → World → Prop} {w : World} {d : Option Tmp} {x y : Operand} {ty : TypeId} {ps : String} {af : Array Edge} {b : Nat} {cs : Array Value}
theorem range_of {w : World} {b : Nat} {cs : Array Value} {t : TypeId} (hb : IsBlk w b cs t) : w.rangeAt b 0 cs.toList := fun j v hv => by
  rw [Nat.zero_add, blk_cell hb]
  simpa using hv
theorem wpList_loadW (b : Nat) (cs : Array Value) (hx : a.eval x = .pointer (some ⟨b, 0, none⟩)) (hb : IsBlk w b cs 47) (hs : cs.size = 67)
    (hK : wpList Try.prog ops Q rest (a.put d (.agg cs)) w) : wpList Try.prog ops Q (⟨d, .load 47 x, ty, ps, af, none⟩ :: rest) a w := by
  refine wpList_load_mid rfl 47 x rfl b 0 hx cs.toList _ (range_of hb) Try.underlying47 rfl (by rw [infoW]; simp [hs]) ?_
  rw [Array.toArray_toList]
  exact hK
theorem yieldsW {S : World → Prop} {op : Oper} (b : Nat) (cs : Array Value) (hw : Region.wanted op (yielded ops a.tmps) = true) (ho : op.op = .load 47 x) (hx : a.eval x = .pointer (some ⟨b, 0, none⟩)) (hb : ∀ w, S w → IsBlk w b cs 47) (hs : cs.size = 67) : YieldsIf Try.prog ops S op (.agg cs) a := by
  have h := yieldsIf_load_mid (P := Try.prog) (ops := ops) (S := S) hw 47 x ho b 0 hx cs.toList _ (fun w hw => range_of (hb w hw)) Try.underlying47 rfl (by rw [infoW]; simp [hs])
  rwa [Array.toArray_toList] at h
theorem setRow_is {w : World} {b : Nat} {cs c2 : Array Value} {t : TypeId} (hb : IsBlk w b cs t) : IsBlk (w.setRow b c2) b c2 t ∧ w.grownBy (w.setRow b c2) (some b) := by
  refine ⟨setRow_heap w b cs c2 t (0, 0) hb, ⟨rfl, rfl, rfl, by simp [World.setRow], fun k hk hne => ?_⟩⟩
  have : b ≠ k := fun e => hne (by rw [e])
  simp [World.setRow, Array.getElem?_modify, this]
theorem run_storeW (b : Nat) (cs c2 : Array Value) (w : World) (hb : IsBlk w b cs 47) (hs : cs.size = 67) (h2 : c2.size = 67) (h1 : c2.all (·.oneCell') = true) :
    ∃ w', (Instr.storeAt 47 (.pointer (some ⟨b, 0, none⟩)) (.agg c2)).run Try.prog w = .ok () w' ∧ IsBlk w' b c2 47 ∧ w.grownBy w' (some b) := by
  refine ⟨w.setRow b c2, ?_, setRow_is hb⟩
  simp only [Instr.storeAt, Instr.sureAddr, Sem.run_bind, Sem.run_pure, Result.andThen_ok]
  exact run_storeVar_row w b 47 47 cs c2 hb (by rw [infoW, h2]) (by rw [hs, h2]) h1
theorem wpList_storeW (b : Nat) (cs c2 : Array Value) (hx : a.eval x = .pointer (some ⟨b, 0, none⟩)) (hy : a.eval y = .agg c2) (hb : IsBlk w b cs 47) (hs : cs.size = 67) (h2 : c2.size = 67) (h1 : c2.all (·.oneCell') = true)
    (hK : ∀ w', IsBlk w' b c2 47 → w.grownBy w' (some b) → wpList Try.prog ops Q rest (a.put d undef) w') : wpList Try.prog ops Q (⟨d, .store 47 x y, ty, ps, af, none⟩ :: rest) a w := by
  refine wpList_plain rfl fun K' hK' => ?_
  obtain ⟨w', hrun, r1, r2⟩ := run_storeW b cs c2 w hb hs h2 h1
  unfold Oper.wp execOp
  simp only [hx, hy, Sem.run_bind, hrun, Result.andThen_ok, Sem.run_pure]
  exact hK' _ _ (hK w' r1 r2)
theorem runZero_of {P : Program} {t : TypeId} {v : Value} (h : (P.info? t).bind (·.zero) = some v) (w : World) : (zeroValue t).run P w = .ok v w := by
  cases e : P.info? t with
  | none => rw [e] at h; cases h
  | some i =>
    rw [e] at h
    have h' : i.zero = some v := h
    simp [zeroValue, typeInfo, e, h']
theorem runAlloc_of {P : Program} {t : TypeId} {cs : Array Value} (h : (P.info? t).bind (·.zero) = some (.agg cs)) (w : World) : (Instr.alloc t true (.tuple #[])).run P w = .ok (.pointer (some ⟨w.heap.size, 0, none⟩)) (w.alloc (.cells cs t)) := by
  unfold Instr.alloc
  rw [Sem.run_bind, runZero_of h]
  simp only [Result.andThen_ok, newVar, newRow, Value.cells, Sem.run_bind, run_newObj_alloc, Sem.run_pure]
theorem runAllocW (w : World) : (Instr.alloc 47 true (.tuple #[])).run Try.prog w = .ok (.pointer (some ⟨w.heap.size, 0, none⟩)) (w.alloc (.cells (rv 0 0 0 fun _ => zs) 47)) := runAlloc_of zeroW w
set_option maxRecDepth 100000 in
theorem wpList_allocW (hK : wpList Try.prog ops Q rest (a.put d (.pointer (some ⟨w.heap.size, 0, none⟩))) (w.alloc (.cells (rv 0 0 0 fun _ => zs) 47))) : wpList Try.prog ops Q (⟨d, .alloc 47, ty, ps, af, none⟩ :: rest) a w := by
  refine wpList_plain rfl fun K' hK' => ?_
  unfold Oper.wp execOp
  simp only [Sem.run_bind, runAllocW, Result.andThen_ok, Sem.run_pure]
  exact hK' _ _ hK
end
end Go.Proofs.Ytkjaeodnpgpfeaa.V0
