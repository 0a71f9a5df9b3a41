/-
  Proved here: over a worker's state the reference's functions answer as the worker's do. No condition.
-/
import Derived.Test.YtkjaeodnpgpfeaaV5
import Derived.Test.YtkjaeodnpgpfeaaW8
namespace Go.Proofs.Ytkjaeodnpgpfeaa.V6
open Go.RowKit Go.Maps Go.Sort Go.Shelf Go.Proofs.Ytkjaeodnpgpfeaa.M Go.Proofs.Ytkjaeodnpgpfeaa.S0 Go.Proofs.Ytkjaeodnpgpfeaa.S4 Go.Proofs.Ytkjaeodnpgpfeaa.W0 Go.Proofs.YtkjaeodnpgpfeaaW.PrintWords Go.Proofs.YtkjaeodnpgpfeaaW.PrintLast Go.Proofs.YtkjaeodnpgpfeaaW.PrintMore Go.Proofs.Ytkjaeodnpgpfeaa.W1 Go.Proofs.Ytkjaeodnpgpfeaa.W2 Go.Proofs.Ytkjaeodnpgpfeaa.W3 Go.Proofs.Ytkjaeodnpgpfeaa.W4 Go.Proofs.Ytkjaeodnpgpfeaa.W5 Go.Proofs.Ytkjaeodnpgpfeaa.W8 Go.Proofs.Ytkjaeodnpgpfeaa.V0 Go.Proofs.Ytkjaeodnpgpfeaa.V1 Go.Proofs.Ytkjaeodnpgpfeaa.V2 Go.Proofs.Ytkjaeodnpgpfeaa.V3 Go.Proofs.Ytkjaeodnpgpfeaa.V4 Go.Proofs.Ytkjaeodnpgpfeaa.V5
set_option linter.unusedVariables false
set_option linter.unusedSimpArgs false

/-- The own units are those of number n of m. -/
def Dom (n m : Int) (f : Int → Option Sl) : Prop := ∀ k, (f k).isSome = ownB n m k
def hf (f : Int → Option Sl) : Nat → Sl := fun u => (f (u : Int)).getD zs
section
variable {n m : Int} {f : Int → Option Sl}
theorem Dom.none (hd : Dom n m f) {k : Int} (h : f k = none) : ownB n m k = false := by rw [← hd k, h]; rfl
theorem Dom.some (hd : Dom n m f) {k : Int} {s : Sl} (h : f k = some s) : (0 ≤ k ∧ k < 16) ∧ ownB n m k = true := by
  have e : ownB n m k = true := by rw [← hd k, h]; rfl
  refine ⟨?_, e⟩
  unfold ownB at e
  simp only [Bool.and_eq_true, decide_eq_true_eq] at e
  omega
theorem hf_at {k : Int} {s : Sl} (hu : 0 ≤ k ∧ k < 16) (h : f k = some s) : hf f k.toNat = s := by
  unfold hf
  rw [show ((k.toNat : Nat) : Int) = k by omega, h]
  rfl
theorem hf_upd (f : Int → Option Sl) (k : Int) (s : Sl) (h0 : 0 ≤ k) : hupd (hf f) k.toNat s = hf (upd f k s) := by
  funext j
  unfold hupd hf upd
  by_cases e : j = k.toNat
  · rw [if_pos e, if_pos (by omega)]; rfl
  · rw [if_neg e, if_neg (by omega)]
theorem Dom.upd (hd : Dom n m f) {k : Int} {s : Sl} (s' : Sl) (h : f k = Option.some s) : Dom n m (upd f k s') := fun j => by
  unfold W0.upd
  by_cases e : j = k
  · subst e; rw [if_pos rfl, ← hd j, h]; rfl
  · rw [if_neg e]; exact hd j
theorem Dom.app (hd : Dom n m f) (k : Int) (t : Sl → Sl × Bool) : Dom n m (app f k t).1 := by
  unfold W3.app
  cases h : f k with
  | none => exact hd
  | some s => exact hd.upd _ h
theorem Dom.apply (hd : Dom n m f) (seen m0 m1 m2 m3 m4 m5 : Int) : Dom n m (applyV seen f m0 m1 m2 m3 m4 m5).2.2 := by
  unfold applyV
  split
  · exact hd
  · cases h : f m3 with
    | none => exact hd
    | some s =>
      dsimp only
      split
      · exact hd
      · split
        · exact hd.upd _ h
        · exact hd
theorem Dom.fall (hd : Dom n m f) (T : List Int) : Dom n m (gI f T) := fun k => by
  unfold gI
  rw [← hd k]
  split
  · cases f k <;> rfl
  · rfl
theorem Dom.fresh (h0 : 0 ≤ n) (h1 : n < m) : Dom n m (fresh n m 16) := fun k => by
  unfold W1.fresh ownB
  by_cases c : 0 ≤ k ∧ k < 16 ∧ k < 16 ∧ k % m = n
  · rw [if_pos c]
    have : k ≤ 15 := by omega
    simp [c.1, c.2.2.2, this]
  · rw [if_neg c]
    rw [Option.isSome_none]
    symm
    rw [Bool.eq_false_iff]
    intro h
    simp only [Bool.and_eq_true, decide_eq_true_eq] at h
    exact c ⟨h.1.1, by omega, by omega, h.2⟩
theorem Dom.low (hd : Dom n m f) : ∀ k, (f k).isSome = true → 0 ≤ k ∧ k < 16 := fun k h => by
  obtain ⟨s, hs⟩ := Option.isSome_iff_exists.1 h
  exact (hd.some hs).1
end
theorem hf_fresh (n m : Int) : hf (fresh n m 16) = fun _ => zs := by
  funext u
  unfold hf W1.fresh
  split <;> rfl

theorem apply16_q (n m seen : Int) (f : Int → Option Sl) (hd : Dom n m f) (hm : 1 ≤ m ∧ m ≤ 16) (m0 m1 m2 m3 m4 m5 : Int) (w : World) : Calls Try.prog 30 #[.agg (rv n m seen (hf f)), .agg #[.int .i64 m0, .int .i64 m1, .int .i64 m2, .int .i64 m3, .int .i64 m4, .int .i64 m5]] w fun e w' => e = .returned (.tuple #[.agg (rv n m (applyV seen f m0 m1 m2 m3 m4 m5).2.1 (hf (applyV seen f m0 m1 m2 m3 m4 m5).2.2)), .int .i64 (applyV seen f m0 m1 m2 m3 m4 m5).1]) ∧ Below w.heap.size w w' := by
  unfold applyV
  by_cases h0 : m0 = 1
  · subst h0
    by_cases h1 : lowM m1 m2 m3 m4 m5 < 0
    · rw [if_pos (.inr h1)]
      exact ap_kind n m seen (hf f) 1 m1 m2 m3 m4 m5 w (by unfold rightM; simp; omega)
    · rw [if_neg (by rintro (h2 | h2); exact h2 rfl; exact h1 h2)]
      have hr : rightM 1 m1 m2 m3 m4 m5 = true := by unfold rightM; simp; omega
      cases hf0 : f m3 with
      | none => exact ap_own n m seen (hf f) 1 m1 m2 m3 m4 m5 w hm hr rfl (hd.none hf0)
      | some s =>
        obtain ⟨hu, ho⟩ := hd.some hf0
        dsimp only
        by_cases h3 : m1 < seen
        · rw [if_pos h3]
          exact ap_old n m seen (hf f) 1 m1 m2 m3 m4 m5 w hm hr rfl ho (decide_eq_true h3)
        · rw [if_neg h3]
          have hs : hf f m3.toNat = s := hf_at hu hf0
          rcases hw : wants s m4 m2 with ⟨⟨a', b', c', d'⟩, y⟩
          cases y
          · rw [if_neg (by simp)]
            exact ap_no n m seen (hf f) 1 m1 m2 m3 m4 m5 w hm hr rfl hu ho (decide_eq_false h3) s.st s.ver s.want s.seq a' b' c' d' hs hw
          · rw [if_pos rfl]
            dsimp only
            rw [← hf_upd f m3 _ hu.1]
            exact ap_ok n m seen (hf f) 1 m1 m2 m3 m4 m5 w hm hr rfl hu ho (decide_eq_false h3) s.st s.ver s.want s.seq a' b' c' d' hs hw
  · rw [if_pos (.inl h0)]
    cases hr : rightM m0 m1 m2 m3 m4 m5
    · exact ap_kind n m seen (hf f) m0 m1 m2 m3 m4 m5 w hr
    · exact ap_kind2 n m seen (hf f) m0 m1 m2 m3 m4 m5 w hr (by simp [h0])
theorem go16_q (n m seen : Int) (f : Int → Option Sl) (hd : Dom n m f) (hm : 1 ≤ m ∧ m ≤ 16) (k : Int) (w : World) : Calls Try.prog 32 #[.agg (rv n m seen (hf f)), .int .i64 k, .int .i64 1] w fun e w' => e = .returned (.tuple #[.agg (rv n m seen (hf (app f k (fun s => goes s)).1)), .bool (app f k (fun s => goes s)).2]) ∧ Below w.heap.size w w' := by
  unfold app
  cases hf0 : f k with
  | none => exact go16_no n m seen (hf f) k w hm (hd.none hf0)
  | some s =>
    obtain ⟨hu, ho⟩ := hd.some hf0
    have hs : hf f k.toNat = s := hf_at hu hf0
    rcases hw : goes s with ⟨⟨a', b', c', d'⟩, y⟩
    dsimp only
    rw [hw, ← hf_upd f k _ hu.1]
    exact go16_l n m seen (hf f) k w hm ho hu s.st s.ver s.want s.seq a' b' c' d' y hs hw
theorem hurt16_q (n m seen : Int) (f : Int → Option Sl) (hd : Dom n m f) (hm : 1 ≤ m ∧ m ≤ 16) (k : Int) (w : World) : Calls Try.prog 32 #[.agg (rv n m seen (hf f)), .int .i64 k, .int .i64 2] w fun e w' => e = .returned (.tuple #[.agg (rv n m seen (hf (app f k (fun s => turns s 2 3)).1)), .bool (app f k (fun s => turns s 2 3)).2]) ∧ Below w.heap.size w w' := by
  unfold app
  cases hf0 : f k with
  | none => exact hurt16_no n m seen (hf f) k w hm (hd.none hf0)
  | some s =>
    obtain ⟨hu, ho⟩ := hd.some hf0
    have hs : hf f k.toNat = s := hf_at hu hf0
    rcases hw : turns s 2 3 with ⟨⟨a', b', c', d'⟩, y⟩
    dsimp only
    rw [hw, ← hf_upd f k _ hu.1]
    exact hurt16_l n m seen (hf f) k w hm ho hu s.st s.ver s.want s.seq a' b' c' d' y hs hw
theorem heal16_q (n m seen : Int) (f : Int → Option Sl) (hd : Dom n m f) (hm : 1 ≤ m ∧ m ≤ 16) (k : Int) (w : World) : Calls Try.prog 32 #[.agg (rv n m seen (hf f)), .int .i64 k, .int .i64 3] w fun e w' => e = .returned (.tuple #[.agg (rv n m seen (hf (app f k (fun s => turns s 3 2)).1)), .bool (app f k (fun s => turns s 3 2)).2]) ∧ Below w.heap.size w w' := by
  unfold app
  cases hf0 : f k with
  | none => exact heal16_no n m seen (hf f) k w hm (hd.none hf0)
  | some s =>
    obtain ⟨hu, ho⟩ := hd.some hf0
    have hs : hf f k.toNat = s := hf_at hu hf0
    rcases hw : turns s 3 2 with ⟨⟨a', b', c', d'⟩, y⟩
    dsimp only
    rw [hw, ← hf_upd f k _ hu.1]
    exact heal16_l n m seen (hf f) k w hm ho hu s.st s.ver s.want s.seq a' b' c' d' y hs hw

def rep (seen : Int) (f : Int → Option Sl) (k : Int) : Value × Bool :=
  match f k with
  | none => (.agg #[.int .i64 0, .int .i64 0, .int .i64 0, .int .i64 0, .int .i64 0, .int .i64 0], false)
  | some s => (.agg #[.int .i64 2, .int .i64 seen, .int .i64 s.seq, .int .i64 k, .int .i64 s.ver, .int .i64 s.st], true)
theorem rep16_q (n m seen : Int) (f : Int → Option Sl) (hd : Dom n m f) (hm : 1 ≤ m ∧ m ≤ 16) (k : Int) (w : World) : Calls Try.prog 37 #[.agg (rv n m seen (hf f)), .int .i64 k] w fun e w' => e = .returned (.tuple #[(rep seen f k).1, .bool (rep seen f k).2]) ∧ Below w.heap.size w w' := by
  unfold rep
  cases hf0 : f k with
  | none => exact rep16_no n m seen (hf f) k w hm (hd.none hf0)
  | some s =>
    obtain ⟨hu, ho⟩ := hd.some hf0
    exact rep16_l n m seen (hf f) k w hm ho hu s.st s.ver s.want s.seq (hf_at hu hf0)

theorem range_own {n m : Int} {f : Int → Option Sl} (hd : Dom n m f) : ownL f = uL n m 16 := by
  unfold ownL uL
  rw [List.filter_map]
  congr 1
  refine List.filter_congr fun u _ => ?_
  exact hd _
theorem countP_own {n m : Int} {f : Int → Option Sl} (hd : Dom n m f) (p : Int → Bool) : (ownL f).countP p = ((List.range 16).filter fun (u : Nat) => ownB n m (u : Int) && p (u : Int)).length := by
  rw [range_own hd]
  unfold uL
  rw [List.countP_map, List.countP_filter, List.countP_eq_length_filter]
  congr 1
  refine List.filter_congr fun u _ => ?_
  simp [Bool.and_comm]
theorem count_same {n m : Int} {f : Int → Option Sl} (hd : Dom n m f) (st : Int) : cntH n m (hf f) st 16 = cntW f st := by
  unfold cntW
  rw [countP_own hd]
  rfl
theorem falls_zs : falls zs = (zs, false) := by kernel_rfl
theorem fall_cnt {n m : Int} {f : Int → Option Sl} (hd : Dom n m f) : cntF (hf f) 16 = cntFW f (ownL f) := by
  unfold cntF cntFW
  rw [countP_own hd]
  congr 1
  refine List.filter_congr fun u _ => ?_
  show (falls (hf f u)).2 = (ownB n m (u : Int) && (falls ((f (u : Int)).getD zs)).2)
  unfold hf
  rw [← hd]
  cases h : f (u : Int) with
  | none => rw [Option.getD_none, falls_zs]; rfl
  | some s => rfl
theorem fall_state {n m : Int} {f : Int → Option Sl} (hd : Dom n m f) : fallH (hf f) 16 = hf (gI f (ownL f)) := by
  funext u
  unfold fallH hf gI
  cases h : f (u : Int) with
  | none =>
    have hn : (u : Int) ∉ ownL f := fun hm => by have := (ownL_mem hd.low _).1 hm; rw [h] at this; cases this
    rw [if_neg hn]
    simp only [Option.getD_none, falls_zs]
    split <;> rfl
  | some s =>
    have hm : (u : Int) ∈ ownL f := (ownL_mem hd.low _).2 (by rw [h]; rfl)
    rw [if_pos hm, if_pos (by have := (hd.some h).1; omega)]
    rfl
theorem fall16_q (n m seen : Int) (f : Int → Option Sl) (hd : Dom n m f) (w : World) : Calls Try.prog 33 #[.agg (rv n m seen (hf f))] w fun e w' => e = .returned (.tuple #[.agg (rv n m seen (hf (gI f (ownL f)))), .int .i64 (cntFW f (ownL f) : Int)]) ∧ Below w.heap.size w w' := by
  rw [← fall_state hd, ← fall_cnt hd]
  exact fall16 n m seen (hf f) w
theorem count16_q (n m seen : Int) (f : Int → Option Sl) (hd : Dom n m f) (hm : 1 ≤ m ∧ m ≤ 16) (st : Int) (w : World) : Calls Try.prog 39 #[.agg (rv n m seen (hf f)), .int .i64 st] w fun e w' => e = .returned (.int .i64 (cntW f st : Int)) ∧ Below w.heap.size w w' := by
  rw [← count_same hd]
  exact count16 n m seen (hf f) st w hm
theorem units16_q (n m seen : Int) (f : Int → Option Sl) (hd : Dom n m f) (hm : 1 ≤ m ∧ m ≤ 16) (w : World) : Calls Try.prog 40 #[.agg (rv n m seen (hf f))] w fun e w' => ∃ (A : Option Addr) (c : Nat), e = .returned (.slice A (ownL f).length c) ∧ (ownL f).length ≤ c ∧ Kd.C (Kd.int .i64) w' A (ownL f).length (ownL f) ∧ Below w.heap.size w w' := by
  rw [range_own hd]
  exact units16 n m seen (hf f) w hm
theorem own16_q (n m seen : Int) (f : Int → Option Sl) (hd : Dom n m f) (hm : 1 ≤ m ∧ m ≤ 16) (k : Int) (w : World) : Calls Try.prog 38 #[.agg (rv n m seen (hf f)), .int .i64 k] w fun e w' => e = .returned (.bool (f k).isSome) ∧ Below w.heap.size w w' := by
  rw [hd]
  exact own_q n m seen (hf f) k w hm.1 hm.2
/-! ### a step -/
theorem kind_q (s0 s1 s2 s3 s4 s5 s6 s7 : Int) (w : World) : Calls Try.prog 29 #[.agg #[.int .i64 s0, .int .i64 s1, .int .i64 s2, .int .i64 s3, .int .i64 s4, .int .i64 s5, .int .i64 s6, .int .i64 s7]] w fun e w' => e = .returned (.int .i64 (near s0 6)) ∧ Below w.heap.size w w' :=
  PWorkerPlays.pacesetterlaw16_Step_kind.calls s0 s1 s2 s3 s4 s5 s6 s7 _ w (by unfold PWorkerPlays.pacesetterlaw16_Step_kind.f; rw [raw_near s0 6 (by decide) (by decide)])
theorem msg_q (s0 s1 s2 s3 s4 s5 s6 s7 : Int) : ∃ m0 m1 m2 m3 m4 m5 : Int, ∀ w : World, Calls Try.prog 31 #[.agg #[.int .i64 s0, .int .i64 s1, .int .i64 s2, .int .i64 s3, .int .i64 s4, .int .i64 s5, .int .i64 s6, .int .i64 s7]] w fun e w' => e = .returned (.agg #[.int .i64 m0, .int .i64 m1, .int .i64 m2, .int .i64 m3, .int .i64 m4, .int .i64 m5]) ∧ Below w.heap.size w w' := by
  by_cases h : Int.tmod s1 7 = 0
  · exact ⟨s2, s3, s4, s5, s6, s7, fun w => PWorkerPlays.pacesetterlaw16_Step_msg.calls 8 s0 s1 s2 s3 s4 s5 s6 s7 _ _ _ _ _ _ w (by unfold PWorkerPlays.pacesetterlaw16_Step_msg.f; rw [if_pos h])⟩
  · exact ⟨_, _, _, _, _, _, fun w => PWorkerPlays.pacesetterlaw16_Step_msg.calls 8 s0 s1 s2 s3 s4 s5 s6 s7 _ _ _ _ _ _ w (by unfold PWorkerPlays.pacesetterlaw16_Step_msg.f; rw [if_neg h, good_v, Option.bind_some])⟩
end Go.Proofs.Ytkjaeodnpgpfeaa.V6
