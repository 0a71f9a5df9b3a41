/-
  Proved here: a row of messages as a kind of the print's words; in plain words: commands of one epoch, in whatever row. No condition.
-/
import Derived.Test.YtkjaeodnpgpfeaaW5
namespace Go.Proofs.Ytkjaeodnpgpfeaa.W6
open Go.RowKit Go.Maps Go.Sort Go.Shelf Go.Proofs.Ytkjaeodnpgpfeaa.M Go.Proofs.Ytkjaeodnpgpfeaa.S0 Go.Proofs.Ytkjaeodnpgpfeaa.S4 Go.Proofs.Ytkjaeodnpgpfeaa.W0 Go.Proofs.YtkjaeodnpgpfeaaW.PrintWords Go.Proofs.YtkjaeodnpgpfeaaW.PrintLast Go.Proofs.YtkjaeodnpgpfeaaW.PrintMore Go.Proofs.Ytkjaeodnpgpfeaa.W1 Go.Proofs.Ytkjaeodnpgpfeaa.W2 Go.Proofs.Ytkjaeodnpgpfeaa.W3 Go.Proofs.Ytkjaeodnpgpfeaa.W4 Go.Proofs.Ytkjaeodnpgpfeaa.W5
set_option linter.unusedVariables false
set_option linter.unusedSimpArgs false

/-- A message. -/
structure Mg where
  f0 : Int
  f1 : Int
  f2 : Int
  f3 : Int
  f4 : Int
  f5 : Int
deriving DecidableEq
def zm : Mg := ⟨0, 0, 0, 0, 0, 0⟩
def km : Kd Mg := Kd.iso (Kd.pair (Kd.int .i64) (Kd.pair (Kd.int .i64) (Kd.pair (Kd.int .i64) (Kd.pair (Kd.int .i64) (Kd.pair (Kd.int .i64) (Kd.int .i64)))))) (fun x : Mg => (x.f0, x.f1, x.f2, x.f3, x.f4, x.f5))
theorem km_mk (w : World) (x : Mg) : km.K w x [.int .i64 x.f0, .int .i64 x.f1, .int .i64 x.f2, .int .i64 x.f3, .int .i64 x.f4, .int .i64 x.f5] := ⟨[.int .i64 x.f0], [.int .i64 x.f1, .int .i64 x.f2, .int .i64 x.f3, .int .i64 x.f4, .int .i64 x.f5], rfl, rfl, ⟨[.int .i64 x.f1], [.int .i64 x.f2, .int .i64 x.f3, .int .i64 x.f4, .int .i64 x.f5], rfl, rfl, ⟨[.int .i64 x.f2], [.int .i64 x.f3, .int .i64 x.f4, .int .i64 x.f5], rfl, rfl, ⟨[.int .i64 x.f3], [.int .i64 x.f4, .int .i64 x.f5], rfl, rfl, ⟨[.int .i64 x.f4], [.int .i64 x.f5], rfl, rfl, rfl⟩⟩⟩⟩⟩
theorem km_mkM (w : World) (base : Nat) (ok : Nat → Prop) (x : Mg) : km.M w base ok x [.int .i64 x.f0, .int .i64 x.f1, .int .i64 x.f2, .int .i64 x.f3, .int .i64 x.f4, .int .i64 x.f5] := ⟨[.int .i64 x.f0], [.int .i64 x.f1, .int .i64 x.f2, .int .i64 x.f3, .int .i64 x.f4, .int .i64 x.f5], rfl, rfl, ⟨[.int .i64 x.f1], [.int .i64 x.f2, .int .i64 x.f3, .int .i64 x.f4, .int .i64 x.f5], rfl, rfl, ⟨[.int .i64 x.f2], [.int .i64 x.f3, .int .i64 x.f4, .int .i64 x.f5], rfl, rfl, ⟨[.int .i64 x.f3], [.int .i64 x.f4, .int .i64 x.f5], rfl, rfl, ⟨[.int .i64 x.f4], [.int .i64 x.f5], rfl, rfl, rfl⟩⟩⟩⟩⟩
theorem km_mkF (W : World) (ok : Nat → Prop) (x : Mg) : Kd.FK km W ok x [.int .i64 x.f0, .int .i64 x.f1, .int .i64 x.f2, .int .i64 x.f3, .int .i64 x.f4, .int .i64 x.f5] := fun W2 _ => km_mk W2 x

theorem km_open {w : World} {x : Mg} {cs : List Value} (h : km.K w x cs) : cs = [.int .i64 x.f0, .int .i64 x.f1, .int .i64 x.f2, .int .i64 x.f3, .int .i64 x.f4, .int .i64 x.f5] := by
  obtain ⟨c0, d0, rfl, rfl, c1, d1, rfl, rfl, c2, d2, rfl, rfl, c3, d3, rfl, rfl, c4, d4, rfl, rfl, rfl⟩ := h
  rfl
theorem at_km {w : World} {A : Option Addr} {n : Nat} {xs : List Mg} (h : Kd.C km w A n xs) (i : Int) (h0 : 0 ≤ i) (h1 : i < n) : ∃ ad : Addr, A = some ad ∧ w.cell? (ad.add (i.toNat * 6)) = some (.int .i64 (xs.getD i.toNat zm).f0) ∧ w.cell? ⟨(ad.add (i.toNat * 6)).block, (ad.add (i.toNat * 6)).off + 1, none⟩ = some (.int .i64 (xs.getD i.toNat zm).f1) ∧ w.cell? ⟨(ad.add (i.toNat * 6)).block, (ad.add (i.toNat * 6)).off + 2, none⟩ = some (.int .i64 (xs.getD i.toNat zm).f2) ∧ w.cell? ⟨(ad.add (i.toNat * 6)).block, (ad.add (i.toNat * 6)).off + 3, none⟩ = some (.int .i64 (xs.getD i.toNat zm).f3) ∧ w.cell? ⟨(ad.add (i.toNat * 6)).block, (ad.add (i.toNat * 6)).off + 4, none⟩ = some (.int .i64 (xs.getD i.toNat zm).f4) ∧ w.cell? ⟨(ad.add (i.toNat * 6)).block, (ad.add (i.toNat * 6)).off + 5, none⟩ = some (.int .i64 (xs.getD i.toNat zm).f5) := by
  obtain ⟨ad, c, e, _, hK, hc0⟩ := Kd.C_get h zm i h0 h1
  have hc : ∀ j u, c[j]? = some u → w.cell? (ad.add (i.toNat * 6 + j)) = some u := hc0
  obtain rfl := km_open hK
  exact ⟨ad, e, hc 0 _ rfl, by rw [← add_field _ _ 1 (by omega)]; exact hc 1 _ rfl, by rw [← add_field _ _ 2 (by omega)]; exact hc 2 _ rfl, by rw [← add_field _ _ 3 (by omega)]; exact hc 3 _ rfl, by rw [← add_field _ _ 4 (by omega)]; exact hc 4 _ rfl, by rw [← add_field _ _ 5 (by omega)]; exact hc 5 _ rfl⟩

/-- A command of a unit and a number. -/
def cmd (q u : Int) : Mg := ⟨1, 3, q, u, q % 4, 0⟩
/-- Which number each unit has. -/
def Has (f : Int → Option Sl) (S : Int → Int) : Prop := ∀ k, 0 ≤ k → k < 16 → ∃ s, f k = some s ∧ right s = true ∧ s.seq = S k ∧ s.want = S k % 4
def up (S : Int → Int) (q u : Int) : Int → Int := fun k => if k = u then (if S k < q then q else S k) else S k
theorem has_fresh : Has (fresh 0 1 16) (fun _ => 0) := fun k h0 h1 => ⟨zs, by unfold fresh; rw [if_pos ⟨h0, h1, h1, Int.emod_one k⟩], by kernel_rfl, rfl, rfl⟩
theorem has_step {seen : Int} {f : Int → Option Sl} {S : Int → Int} (h : Has f S) (hs : seen ≤ 3) (q u : Int) (hq : 0 ≤ q) (hu : 0 ≤ u ∧ u < 16) : (applyV seen f 1 3 q u (q % 4) 0).2.1 = 3 ∧ Has (applyV seen f 1 3 q u (q % 4) 0).2.2 (up S q u) := by
  obtain ⟨s, hf, hr, h1, h2⟩ := h u hu.1 hu.2
  have hv : 0 ≤ q % 4 := Int.emod_nonneg q (by decide)
  rcases hw : wants s (q % 4) q with ⟨s', y⟩
  cases y
  · rw [apply_is_no (show (0 : Int) ≤ 3 by decide) hq hu.1 hv (Int.le_refl 0) hf (by omega) (by rw [hw])]
    refine ⟨rfl, fun k h0 h3 => ?_⟩
    have hn : ¬ S u < q := fun hc => by
      unfold wants at hw
      rw [if_pos ⟨hr, hv, by omega⟩] at hw
      split at hw <;> cases hw
    have e : up S q u k = S k := by
      unfold up
      by_cases e : k = u
      · subst e; rw [if_pos rfl, if_neg hn]
      · rw [if_neg e]
    rw [e]
    exact h k h0 h3
  · rw [apply_is_yes (show (0 : Int) ≤ 3 by decide) hq hu.1 hv (Int.le_refl 0) hf (by omega) hw]
    refine ⟨rfl, fun k h0 h3 => ?_⟩
    obtain ⟨g1, g2, g3⟩ := wants_yes hw
    have hc : S u < q := by
      unfold wants at hw
      split at hw
      · rename_i hc; omega
      · cases hw
    by_cases e : k = u
    · subst e
      exact ⟨s', upd_at _ _ _, g1, by unfold up; rw [if_pos rfl, if_pos hc]; exact g3, by unfold up; rw [if_pos rfl, if_pos hc]; exact g2⟩
    · obtain ⟨t, t1, t2⟩ := h k h0 h3
      exact ⟨t, by dsimp only; unfold upd; rw [if_neg e]; exact t1, by unfold up; rw [if_neg e]; exact t2⟩
/-- S is the greatest number of each unit, of the commands of L. -/
def Best (S : Int → Int) (L : List (Int × Int)) : Prop := ∀ k M, S k ≤ M ↔ 0 ≤ M ∧ ∀ x ∈ L, x.2 = k → x.1 ≤ M
theorem best_none : Best (fun _ => 0) [] := fun k M => by simp
theorem best_step {S : Int → Int} {L : List (Int × Int)} (h : Best S L) (q u : Int) : Best (up S q u) ((q, u) :: L) := fun k M => by
  have h1 := h k M
  unfold up
  by_cases e : k = u
  · subst e
    rw [if_pos rfl]
    constructor
    · intro h2
      have h3 : S k ≤ M ∧ q ≤ M := by split at h2 <;> omega
      refine ⟨(h1.1 h3.1).1, fun x hx hk => ?_⟩
      rcases List.mem_cons.1 hx with rfl | hx
      · exact h3.2
      · exact (h1.1 h3.1).2 x hx hk
    · rintro ⟨h2, h3⟩
      have h4 := h3 (q, k) (List.mem_cons_self ..) rfl
      have h5 := h1.2 ⟨h2, fun x hx => h3 x (List.mem_cons_of_mem _ hx)⟩
      dsimp only at h4
      split <;> omega
  · rw [if_neg e, h1]
    constructor
    · rintro ⟨h2, h3⟩
      refine ⟨h2, fun x hx hk => ?_⟩
      rcases List.mem_cons.1 hx with rfl | hx
      · exact absurd hk.symm e
      · exact h3 x hx hk
    · rintro ⟨h2, h3⟩
      exact ⟨h2, fun x hx => h3 x (List.mem_cons_of_mem _ hx)⟩
theorem best_same {S T : Int → Int} {L K : List (Int × Int)} (h : Best S L) (h1 : Best T K) (hm : ∀ x, x ∈ L ↔ x ∈ K) (k : Int) : S k = T k := by
  have a := (h k (T k)).2 (by have := (h1 k (T k)).1 (Int.le_refl _); exact ⟨this.1, fun x hx => this.2 x ((hm x).1 hx)⟩)
  have b := (h1 k (S k)).2 (by have := (h k (S k)).1 (Int.le_refl _); exact ⟨this.1, fun x hx => this.2 x ((hm x).2 hx)⟩)
  omega
end Go.Proofs.Ytkjaeodnpgpfeaa.W6
