/-
  Proved here: a step of both, whatever its kind: the same answers, the same states; slots that may be stay such. No condition.
-/
import Derived.Test.YtkjaeodnpgpfeaaV8
namespace Go.Proofs.Ytkjaeodnpgpfeaa.V9
open Go.RowKit Go.Maps Go.Sort Go.Shelf Go.Proofs.Ytkjaeodnpgpfeaa.M Go.Proofs.Ytkjaeodnpgpfeaa.S0 Go.Proofs.Ytkjaeodnpgpfeaa.S4 Go.Proofs.Ytkjaeodnpgpfeaa.W0 Go.Proofs.YtkjaeodnpgpfeaaW.PrintWords Go.Proofs.YtkjaeodnpgpfeaaW.PrintLast Go.Proofs.YtkjaeodnpgpfeaaW.PrintMore Go.Proofs.Ytkjaeodnpgpfeaa.W1 Go.Proofs.Ytkjaeodnpgpfeaa.W2 Go.Proofs.Ytkjaeodnpgpfeaa.W3 Go.Proofs.Ytkjaeodnpgpfeaa.W4 Go.Proofs.Ytkjaeodnpgpfeaa.W5 Go.Proofs.Ytkjaeodnpgpfeaa.W8 Go.Proofs.Ytkjaeodnpgpfeaa.V0 Go.Proofs.Ytkjaeodnpgpfeaa.V1 Go.Proofs.Ytkjaeodnpgpfeaa.V2 Go.Proofs.Ytkjaeodnpgpfeaa.V3 Go.Proofs.Ytkjaeodnpgpfeaa.V4 Go.Proofs.Ytkjaeodnpgpfeaa.V5 Go.Proofs.Ytkjaeodnpgpfeaa.V6 Go.Proofs.Ytkjaeodnpgpfeaa.V7 Go.Proofs.Ytkjaeodnpgpfeaa.V8
set_option linter.unusedVariables false
set_option linter.unusedSimpArgs false

/-- Each slot may be. -/
def Rt (f : Int → Option Sl) : Prop := ∀ k s, f k = some s → right s = true
theorem Rt.upd {f : Int → Option Sl} (h : Rt f) (k : Int) (s : Sl) (hs : right s = true) : Rt (upd f k s) := fun j t ht => by
  unfold W0.upd at ht
  split at ht
  · cases ht; exact hs
  · exact h j t ht
theorem Rt.fresh (n m u : Int) : Rt (fresh n m u) := fun k s h => by
  unfold W1.fresh at h
  split at h
  · cases h; kernel_rfl
  · cases h
theorem wants_right (s : Sl) (v q : Int) (h : right s = true) : right (wants s v q).1 = true := by
  rcases hw : wants s v q with ⟨t, y⟩
  cases y
  · rw [wants_no hw]; exact h
  · exact (wants_yes hw).1
theorem right_iff (s : Sl) : right s = true ↔ (0 ≤ s.st ∧ s.st ≤ 4 ∧ 0 ≤ s.ver ∧ 0 ≤ s.want ∧ 0 ≤ s.seq ∧ (0 < s.ver ↔ s.st ≠ 0)) := by unfold right; exact decide_eq_true_iff
theorem goes_right (s : Sl) (h : right s = true) : right (goes s).1 = true := by
  have h1 := (right_iff s).1 h
  unfold goes
  rw [if_pos h]
  (repeat' split) <;> first | exact h | (rw [right_iff]; dsimp only; omega)
theorem turns_right (s : Sl) (x y : Int) (hx : x ≠ 0) (hy : 1 ≤ y ∧ y ≤ 4) (h : right s = true) : right (turns s x y).1 = true := by
  have h1 := (right_iff s).1 h
  unfold turns
  split
  · rename_i hc
    rw [right_iff]; dsimp only; omega
  · exact h
theorem falls_right (s : Sl) (h : right s = true) : right (falls s).1 = true := by
  have h1 := (right_iff s).1 h
  unfold falls
  rw [if_pos h]
  rw [right_iff]; dsimp only; omega
theorem Rt.app {f : Int → Option Sl} (h : Rt f) (k : Int) (t : Sl → Sl × Bool) (ht : ∀ s, right s = true → right (t s).1 = true) : Rt (app f k t).1 := by
  unfold W3.app
  cases hf0 : f k with
  | none => exact h
  | some s => exact h.upd k _ (ht s (h k s hf0))
theorem Rt.apply {f : Int → Option Sl} (h : Rt f) (seen m0 m1 m2 m3 m4 m5 : Int) : Rt (applyV seen f m0 m1 m2 m3 m4 m5).2.2 := by
  unfold applyV
  split
  · exact h
  · cases hf0 : f m3 with
    | none => exact h
    | some s =>
      dsimp only
      split
      · exact h
      · split
        · exact h.upd _ _ (wants_right s _ _ (h m3 s hf0))
        · exact h
theorem Rt.fall {f : Int → Option Sl} (h : Rt f) (L : List Int) : Rt (gI f L) := fun k s hs => by
  unfold gI at hs
  split at hs
  · cases hf0 : f k with
    | none => rw [hf0] at hs; cases hs
    | some t => rw [hf0] at hs; cases hs; exact falls_right t (h k t hf0)
  · exact h k s hs
/-- What a step leaves. -/
structure Did (n m : Int) (g q : Nat) (w w' : World) (e : Ending) (sa : Int) (fa : Int → Option Sl) : Prop where
  e : e = .returned (.tuple #[.agg (rv n m sa (hf fa)), .bool true])
  k : Wk w' g q sa fa
  b : But2 w w' g q
  d : Dom n m fa
  r : Rt fa
theorem does_q (n m seen : Int) (g q : Nat) (f : Int → Option Sl) (p0 p1 p2 p3 p4 p5 p6 p7 : Int) (hd : Dom n m f) (hm : 1 ≤ m ∧ m ≤ 16) (hr : Rt f) : ∃ (sa : Int) (fa : Int → Option Sl), Dom n m fa ∧ Rt fa ∧ ∀ w : World, Wk w g q seen f → Calls Try.prog 17 #[.pointer (some ⟨g, 0, none⟩), .agg (rv n m seen (hf f)), .agg #[.int .i64 p0, .int .i64 p1, .int .i64 p2, .int .i64 p3, .int .i64 p4, .int .i64 p5, .int .i64 p6, .int .i64 p7]] w fun e w' => e = .returned (.tuple #[.agg (rv n m sa (hf fa)), .bool true]) ∧ Wk w' g q sa fa ∧ But2 w w' g q := by
  have hb := near_bounds p0 6 (by decide)
  have hcases : near p0 6 = 0 ∨ near p0 6 = 1 ∨ near p0 6 = 2 ∨ near p0 6 = 3 ∨ near p0 6 = 4 ∨ near p0 6 = 5 := by omega
  obtain ⟨r0, r1, r2, r3, r4, r5, hmsg⟩ := msg_q p0 p1 p2 p3 p4 p5 p6 p7
  rcases hcases with h | h | h | h | h | h
  · exact ⟨_, _, hd.apply seen r0 r1 r2 r3 r4 r5, hr.apply seen r0 r1 r2 r3 r4 r5, fun w hk => does_01 n m seen g q f p0 p1 p2 p3 p4 p5 p6 p7 r0 r1 r2 r3 r4 r5 _ _ 0 _ w hd hm hk (.inl rfl) h hmsg rfl⟩
  · exact ⟨_, _, hd.apply seen r0 r1 r2 r3 r4 r5, hr.apply seen r0 r1 r2 r3 r4 r5, fun w hk => does_01 n m seen g q f p0 p1 p2 p3 p4 p5 p6 p7 r0 r1 r2 r3 r4 r5 _ _ 1 _ w hd hm hk (.inr rfl) h hmsg rfl⟩
  · exact ⟨_, _, hd.app p1 _, hr.app p1 _ goes_right, fun w hk => does_2 n m seen g q f p0 p1 p2 p3 p4 p5 p6 p7 _ _ w hd hm hk h rfl⟩
  · exact ⟨_, _, hd.app p1 _, hr.app p1 _ (fun s => turns_right s 2 3 (by decide) (by decide)), fun w hk => does_3 n m seen g q f p0 p1 p2 p3 p4 p5 p6 p7 _ _ w hd hm hk h rfl⟩
  · exact ⟨_, _, hd.app p1 _, hr.app p1 _ (fun s => turns_right s 3 2 (by decide) (by decide)), fun w hk => does_4 n m seen g q f p0 p1 p2 p3 p4 p5 p6 p7 _ _ w hd hm hk h rfl⟩
  · exact ⟨_, _, hd.fall _, hr.fall _, fun w hk => does_5 n m seen g q f p0 p1 p2 p3 p4 p5 p6 p7 w hd hm hk h⟩
end Go.Proofs.Ytkjaeodnpgpfeaa.V9
