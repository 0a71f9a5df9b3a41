/-
  Proved here: two workers of all units that are told commands of one epoch: what stays true of them. No condition.
-/
import Derived.Test.YtkjaeodnpgpfeaaW6
namespace Go.Proofs.Ytkjaeodnpgpfeaa.W7
open Go.RowKit Go.Maps Go.Sort Go.Shelf Go.Proofs.Ytkjaeodnpgpfeaa.M Go.Proofs.Ytkjaeodnpgpfeaa.S0 Go.Proofs.Ytkjaeodnpgpfeaa.S4 Go.Proofs.Ytkjaeodnpgpfeaa.W0 Go.Proofs.YtkjaeodnpgpfeaaW.PrintWords Go.Proofs.YtkjaeodnpgpfeaaW.PrintLast Go.Proofs.YtkjaeodnpgpfeaaW.PrintMore Go.Proofs.Ytkjaeodnpgpfeaa.W1 Go.Proofs.Ytkjaeodnpgpfeaa.W2 Go.Proofs.Ytkjaeodnpgpfeaa.W3 Go.Proofs.Ytkjaeodnpgpfeaa.W4 Go.Proofs.Ytkjaeodnpgpfeaa.W5 Go.Proofs.Ytkjaeodnpgpfeaa.W6
set_option linter.unusedVariables false
set_option linter.unusedSimpArgs false

theorem best_mem {S : Int → Int} {L K : List (Int × Int)} (h : Best S L) (hm : ∀ x, x ∈ L ↔ x ∈ K) : Best S K := fun k M => by
  rw [h k M]
  exact ⟨fun ⟨h1, h2⟩ => ⟨h1, fun x hx => h2 x ((hm x).2 hx)⟩, fun ⟨h1, h2⟩ => ⟨h1, fun x hx => h2 x ((hm x).1 hx)⟩⟩
/-- A worker of all units that was told the commands of L. -/
def One (w : World) (g q : Nat) (L : List (Int × Int)) : Prop := ∃ (s : Int) (f : Int → Option Sl) (S : Int → Int), Wk w g q s f ∧ s ≤ 3 ∧ Has f S ∧ Best S L
theorem One.below {w w1 : World} {g q : Nat} {L : List (Int × Int)} (h : One w g q L) (hb : Below w.heap.size w w1) : One w1 g q L := by
  obtain ⟨s, f, S, h1, h2⟩ := h
  exact ⟨s, f, S, h1.below hb, h2⟩
theorem One.new {w : World} {g q : Nat} (h : Wk w g q 0 (fresh 0 1 16)) : One w g q [] := ⟨0, _, _, h, by decide, has_fresh, best_none⟩
theorem One.mem {w : World} {g q : Nat} {L K : List (Int × Int)} (h : One w g q L) (hm : ∀ x, x ∈ L ↔ x ∈ K) : One w g q K := by
  obtain ⟨s, f, S, h1, h2, h3, h4⟩ := h
  exact ⟨s, f, S, h1, h2, h3, best_mem h4 hm⟩
theorem One.does {w : World} {g q : Nat} {L : List (Int × Int)} (h : One w g q L) (q0 u : Int) (hq : 0 ≤ q0) (hu : 0 ≤ u ∧ u < 16) :
    Calls Try.prog 12 #[.pointer (some ⟨g, 0, none⟩), .agg #[.int .i64 1, .int .i64 3, .int .i64 q0, .int .i64 u, .int .i64 (q0 % 4), .int .i64 0]] w fun e w' => ∃ (r : Int), e = .returned (.int .i64 r) ∧ One w' g q ((q0, u) :: L) ∧ But2 w w' g q := by
  obtain ⟨s, f, S, h1, h2, h3, h4⟩ := h
  refine (apply_q g q s f 1 3 q0 u (q0 % 4) 0 w h1).mono ?_
  rintro e w' ⟨rfl, hk, hb⟩
  obtain ⟨h5, h6⟩ := has_step h3 h2 q0 u hq hu
  rw [h5] at hk
  exact ⟨_, rfl, ⟨3, _, _, hk, by decide, h6, best_step h4 q0 u⟩, hb⟩
/-- Two workers of all units, told the commands of L and of K; nothing that was there ahead of them has changed. -/
structure St (wx w : World) (g q g' q' : Nat) (L K : List (Int × Int)) : Prop where
  a : One w g q L
  b : One w g' q' K
  bel : Below wx.heap.size wx w
  lo : wx.heap.size ≤ g ∧ wx.heap.size ≤ q ∧ wx.heap.size ≤ g' ∧ wx.heap.size ≤ q'
  ne : g ≠ g' ∧ g ≠ q' ∧ q ≠ g' ∧ q ≠ q'
section
variable {wx w w1 : World} {g q g' q' : Nat} {L K L1 K1 : List (Int × Int)}
theorem St.below (h : St wx w g q g' q' L K) (hb : Below w.heap.size w w1) : St wx w1 g q g' q' L K := ⟨h.a.below hb, h.b.below hb, h.bel.trans (hb.mono h.bel.size), h.lo, h.ne⟩
theorem St.alloc (h : St wx w g q g' q' L K) (o : Obj) : St wx (w.alloc o) g q g' q' L K := h.below (below_alloc (Below.refl _ _) o)
theorem St.drewN (h : St wx w g q g' q' L K) (n : Nat) : St wx (w.drewN n) g q g' q' L K := h.below (pw_below_drewN (Below.refl _ _) n)
theorem St.drew (h : St wx w g q g' q' L K) : St wx w.drew g q g' q' L K := h.below (below_drew1 (Below.refl _ _))
theorem St.swap (h : St wx w g q g' q' L K) : St wx w g' q' g q K L := ⟨h.b, h.a, h.bel, ⟨h.lo.2.2.1, h.lo.2.2.2, h.lo.1, h.lo.2.1⟩, ⟨h.ne.1.symm, h.ne.2.2.1.symm, h.ne.2.1.symm, h.ne.2.2.2.symm⟩⟩
theorem St.mem (h : St wx w g q g' q' L K) (h1 : ∀ x, x ∈ L ↔ x ∈ L1) (h2 : ∀ x, x ∈ K ↔ x ∈ K1) : St wx w g q g' q' L1 K1 := ⟨h.a.mem h1, h.b.mem h2, h.bel, h.lo, h.ne⟩
theorem St.doA (h : St wx w g q g' q' L K) (q0 u : Int) (hq : 0 ≤ q0) (hu : 0 ≤ u ∧ u < 16) :
    Calls Try.prog 12 #[.pointer (some ⟨g, 0, none⟩), .agg #[.int .i64 1, .int .i64 3, .int .i64 q0, .int .i64 u, .int .i64 (q0 % 4), .int .i64 0]] w fun e w' => ∃ (r : Int), e = .returned (.int .i64 r) ∧ St wx w' g q g' q' ((q0, u) :: L) K := by
  refine (h.a.does q0 u hq hu).mono ?_
  rintro e w' ⟨r, rfl, h1, hb⟩
  obtain ⟨s, f, S, h2, h3⟩ := h.b
  obtain ⟨s1, f1, S1, h4, h5⟩ := h.a
  exact ⟨r, rfl, h1, ⟨s, f, S, h2.but hb h.ne.1.symm h.ne.2.2.1.symm h.ne.2.1.symm h.ne.2.2.2.symm h4.map.lt h4.ne, h3⟩, But2.after h.bel hb h.lo.1 h.lo.2.1, h.lo, h.ne⟩
theorem St.doB (h : St wx w g q g' q' L K) (q0 u : Int) (hq : 0 ≤ q0) (hu : 0 ≤ u ∧ u < 16) :
    Calls Try.prog 12 #[.pointer (some ⟨g', 0, none⟩), .agg #[.int .i64 1, .int .i64 3, .int .i64 q0, .int .i64 u, .int .i64 (q0 % 4), .int .i64 0]] w fun e w' => ∃ (r : Int), e = .returned (.int .i64 r) ∧ St wx w' g q g' q' L ((q0, u) :: K) :=
  (h.swap.doA q0 u hq hu).mono fun e w' ⟨r, e1, h1⟩ => ⟨r, e1, h1.swap⟩
theorem St.ends (h : St wx w g q g' q' L K) (hm : ∀ x, x ∈ L ↔ x ∈ K) : ∃ (sa sb : Int) (fa fb : Int → Option Sl), Wk w g q sa fa ∧ Wk w g' q' sb fb ∧ ∀ k, 0 ≤ k → k < 16 → ∃ a b a' b' c d, fa k = some ⟨a, b, c, d⟩ ∧ fb k = some ⟨a', b', c, d⟩ := by
  obtain ⟨s, f, S, h1, h2, h3, h4⟩ := h.a
  obtain ⟨s', f', S', k1, k2, k3, k4⟩ := h.b
  refine ⟨s, s', f, f', h1, k1, fun k h0 h16 => ?_⟩
  obtain ⟨⟨a, b, c, d⟩, e1, _, e2, e3⟩ := h3 k h0 h16
  obtain ⟨⟨a', b', c', d'⟩, e1', _, e2', e3'⟩ := k3 k h0 h16
  have e := best_same h4 k4 hm k
  dsimp only at e2 e3 e2' e3'
  refine ⟨a, b, a', b', c, d, e1, ?_⟩
  rw [e1', e2, e3, e2', e3', e]
end

/-- A message's number and unit. -/
def pr (x : Mg) : Int × Int := (x.f2, x.f3)
def toCmd (x : Int × Int × Int × Int × Int × Int) : Mg := cmd (g8 x.2.2.1) (g8 x.2.2.2.1)
theorem own_at {w : World} {A : Option Addr} {L : List Mg} (h : Kd.C km w A L.length L) (hm : ∀ x, x ∈ L → ∃ y, x = toCmd y) (i : Int) (h0 : 0 ≤ i) (h1 : i < L.length) : ∃ (kb ko : Nat) (q0 u : Int), A = some ⟨kb, ko, none⟩ ∧ pr (L.getD i.toNat zm) = (q0, u) ∧ (0 ≤ q0 ∧ q0 < 8) ∧ (0 ≤ u ∧ u < 8) ∧ kb < w.heap.size ∧
    w.cell? ⟨kb, ko + i.toNat * 6, none⟩ = some (.int .i64 1) ∧ w.cell? ⟨kb, ko + i.toNat * 6 + 1, none⟩ = some (.int .i64 3) ∧ w.cell? ⟨kb, ko + i.toNat * 6 + 2, none⟩ = some (.int .i64 q0) ∧ w.cell? ⟨kb, ko + i.toNat * 6 + 3, none⟩ = some (.int .i64 u) ∧ w.cell? ⟨kb, ko + i.toNat * 6 + 4, none⟩ = some (.int .i64 (q0 % 4)) ∧ w.cell? ⟨kb, ko + i.toNat * 6 + 5, none⟩ = some (.int .i64 0) := by
  obtain ⟨ad, e, c0, c1, c2, c3, c4, c5⟩ := at_km h i h0 h1
  obtain ⟨y, hy⟩ := hm (L.getD i.toNat zm) (by
    have hk : i.toNat < L.length := by omega
    rw [List.getD_eq_getElem?_getD, List.getElem?_eq_getElem hk]
    exact List.getElem_mem hk)
  have hsp := World.cell?_spot c1
  rw [hy] at c0 c1 c2 c3 c4 c5 ⊢
  obtain ⟨b, o, sp⟩ := ad
  have hs2 : sp = none := by
    obtain ⟨d0, e0, _⟩ := at_km h 0 (by decide) (by omega)
    rw [e] at e0
    have hz := (at_km h 0 (by decide) (by omega))
    obtain ⟨d1, e1, z0, _⟩ := hz
    rw [e] at e1
    cases e1
    exact World.cell?_spot z0
  subst hs2
  have hadd : (⟨b, o, none⟩ : Addr).add (i.toNat * 6) = ⟨b, o + i.toNat * 6, none⟩ := by unfold Addr.add; split <;> simp_all
  rw [hadd] at c0 c1 c2 c3 c4 c5
  exact ⟨b, o, _, _, e, rfl, g8_in _, g8_in _, World.block_lt_of_cell? w _ c0, c0, c1, c2, c3, c4, c5⟩
theorem pr_step {L : List Mg} (i : Int) (h0 : 0 ≤ i) (h1 : i < L.length) (x : Int × Int) (hx : pr (L.getD i.toNat zm) = x) (y : Int × Int) : y ∈ x :: (L.take i.toNat).map pr ↔ y ∈ (L.take (i + 1).toNat).map pr := by
  have hk : i.toNat < L.length := by omega
  rw [show (i + 1).toNat = i.toNat + 1 by omega, List.take_succ_eq_append_getElem hk, List.map_append]
  rw [List.getD_eq_getElem?_getD, List.getElem?_eq_getElem hk] at hx
  simp only [Option.getD_some] at hx
  simp [hx, or_comm]
theorem pr_drop {L : List Mg} (i : Int) (h0 : 0 ≤ i) (h1 : i < L.length) (x : Int × Int) (hx : pr (L.getD i.toNat zm) = x) (y : Int × Int) (hy : y ∈ (L.drop i.toNat).map pr) : y = x ∨ y ∈ (L.drop (i + 1).toNat).map pr := by
  have hk : i.toNat < L.length := by omega
  rw [show (i + 1).toNat = i.toNat + 1 by omega]
  rw [List.drop_eq_getElem_cons hk, List.map_cons] at hy
  rw [List.getD_eq_getElem?_getD, List.getElem?_eq_getElem hk] at hx
  simp only [Option.getD_some] at hx
  rw [hx] at hy
  exact List.mem_cons.1 hy
theorem pr_in {L : List Mg} (i : Int) (h0 : 0 ≤ i) (h1 : i < L.length) (x : Int × Int) (hx : pr (L.getD i.toNat zm) = x) : x ∈ L.map pr := by
  have hk : i.toNat < L.length := by omega
  rw [List.getD_eq_getElem?_getD, List.getElem?_eq_getElem hk] at hx
  simp only [Option.getD_some] at hx
  rw [← hx]
  exact List.mem_map_of_mem (List.getElem_mem hk)
end Go.Proofs.Ytkjaeodnpgpfeaa.W7
