/-
  Proved here: how the arguments' types read: what their cells are. No condition.
-/
import Derived.Test.YtnmnojapacflgaaProg
import Derived.WalkKit
import Derived.ProofKit
import Derived.OpenShut
import Derived.Deep.Slices
import Derived.KernelRfl
namespace Go.Proofs.Ytnmnojapacflgaa.O
open Go.ChangeShapes Go.WideShapes Go.RowKit Go.Deep
set_option linter.unusedVariables false

/-- A slice's memory holds these elements, one behind the other: element j is 'size' cells that R tells of. -/
def Rowz {α : Type} (R : α → List Value → Prop) (size : Nat) (w : World) (A : Option Addr) (ps : List α) : Prop :=
  ps.length ≤ maxLen ∧ (0 < ps.length → ∃ ad, A = some ad ∧ ∀ j p, ps[j]? = some p → ∃ c, c.length = size ∧ R p c ∧ ∀ i u, c[i]? = some u → w.cell? ((ad.add (j * size)).add i) = some u)

theorem Rowz.below {α : Type} {R : α → List Value → Prop} {size : Nat} {w w1 : World} {A : Option Addr} {ps : List α} (h : Rowz R size w A ps) (hb : Below w.heap.size w w1) : Rowz R size w1 A ps :=
  ⟨h.1, fun hn => by
    obtain ⟨ad, e, hc⟩ := h.2 hn
    refine ⟨ad, e, fun j p hj => ?_⟩
    obtain ⟨c, h1, h2, h3⟩ := hc j p hj
    exact ⟨c, h1, h2, fun i u hu => (hb.cell (World.block_lt_of_cell? w _ (h3 i u hu))).trans (h3 i u hu)⟩⟩

theorem list_of {α : Type} {Q : Nat → α → Prop} : ∀ n, (∀ i, i < n → ∃ p, Q i p) → ∃ ps : List α, ps.length = n ∧ ∀ j p, ps[j]? = some p → Q j p
  | 0, _ => ⟨[], rfl, fun j p h => by simp at h⟩
  | n + 1, h => by
    obtain ⟨ps, hl, hq⟩ := list_of n (fun i hi => h i (by omega))
    obtain ⟨p, hp⟩ := h n (by omega)
    refine ⟨ps ++ [p], by simp [hl], fun j q hj => ?_⟩
    rw [List.getElem?_append] at hj
    split at hj
    · exact hq j q hj
    · rename_i hlt
      have hj' := (List.getElem?_eq_some_iff.1 hj).1
      simp at hj'
      have e : j = n := by omega
      subst e
      rw [hl] at hj
      simp at hj
      subst hj
      exact hp

theorem rows_open {α : Type} {R : α → List Value → Prop} {H : Type} {enc : TypeId × Value → H} {P : Program} {w : World} {base : Nat} {spare : Nat → Bool} {held : Bool} {t e fuel size : Nat} {cs : List Value} {x : DataW H × List MemPlace}
    (ht : P.underlying t = some (.slice e)) (hsz : P.cellsOf e = size) (hR : ∀ cs y n, DataW.trod enc P w base spare held n e cs = some y → ∃ p, R p cs) (h : DataW.trod enc P w base spare held fuel t cs = some x) :
    ∃ (A : Option Addr) (c : Nat) (ps : List α), cs = [.slice A ps.length c] ∧ ps.length ≤ c ∧ Rowz R size w A ps := by
  rcases open_slice ht h with ⟨rfl, _⟩ | ⟨a, len, cap, m, n, D, Pl, rfl, _, hl, hm, hmm, _, hx⟩
  · exact ⟨none, 0, [], rfl, Nat.le_refl _, Nat.zero_le _, fun h0 => absurd h0 (by simp)⟩
  · have hlm : len ≤ m := by rw [hmm]; split <;> omega
    obtain ⟨ps, hps, hq⟩ := list_of (Q := fun i p => ∃ c : List Value, c.length = size ∧ R p c ∧ ∀ j u, c[j]? = some u → w.cell? ((a.add (i * size)).add j) = some u) len (by
      intro i hi
      obtain ⟨cs', h1, h2⟩ := hx i (by omega)
      obtain ⟨p, hp⟩ := hR _ _ _ h2
      obtain ⟨_, h3, h4⟩ := World.cells?_some h1
      rw [hsz] at h1 h3 h4
      refine ⟨p, cs', h3, hp, fun j u hj => ?_⟩
      have hjl : j < size := by rw [← h3]; exact (List.getElem?_eq_some_iff.1 hj).1
      exact (h4 j hjl).trans hj)
    exact ⟨some a, cap, ps, by rw [hps], by omega, by omega, fun _ => ⟨a, rfl, hq⟩⟩

theorem Rowz.at_ {α : Type} {R : α → List Value → Prop} {size : Nat} {w : World} {A : Option Addr} {ps : List α} (h : Rowz R size w A ps) (d : α) (k : Nat) (hk : k < ps.length) :
    ∃ ad c, A = some ad ∧ c.length = size ∧ R (ps.getD k d) c ∧ ∀ i u, c[i]? = some u → w.cell? ((ad.add (k * size)).add i) = some u := by
  obtain ⟨ad, e, hc⟩ := h.2 (by omega)
  obtain ⟨c, h1, h2, h3⟩ := hc k _ (List.getElem?_eq_getElem hk)
  refine ⟨ad, c, e, h1, ?_, h3⟩
  rw [List.getD_eq_getElem?_getD, List.getElem?_eq_getElem hk]
  exact h2
theorem add_at (b off j : Nat) : (⟨b, off, none⟩ : Addr).add j = ⟨b, off + j, none⟩ := by unfold Addr.add; split <;> simp_all
/-- The same with the place written out. -/
theorem Rowz.at' {α : Type} {R : α → List Value → Prop} {size : Nat} {w : World} {A : Option Addr} {ps : List α} (h : Rowz R size w A ps) (hs : 0 < size) (d : α) (k : Nat) (hk : k < ps.length) :
    ∃ b off c, A = some ⟨b, off, none⟩ ∧ c.length = size ∧ R (ps.getD k d) c ∧ b < w.heap.size ∧ ∀ i u, c[i]? = some u → w.cell? ⟨b, off + (k * size + i), none⟩ = some u := by
  obtain ⟨ad0, c0, e0, hl0, _, hc0⟩ := h.at_ d 0 (by omega)
  have g0 := hc0 0 _ (List.getElem?_eq_getElem (by omega))
  rw [Nat.zero_mul, show (ad0.add 0).add 0 = ad0 from rfl] at g0
  have hsp := World.cell?_spot g0
  obtain ⟨⟨b, off, spot⟩, c, e, hl, hR, hc⟩ := h.at_ d k hk
  rw [e0] at e
  cases e
  dsimp only at hsp
  subst hsp
  refine ⟨b, off, c, e0, hl, hR, World.block_lt_of_cell? w _ g0, fun i u hu => ?_⟩
  have := hc i u hu
  rwa [add_at, add_at, Nat.add_assoc] at this

theorem cells9_ : Try.prog.cellsOf 9 = 1 := by kernel_rfl
theorem cells3_ : Try.prog.cellsOf 3 = 1 := by kernel_rfl
theorem cells4_ : Try.prog.cellsOf 4 = 1 := by kernel_rfl
theorem cells42_ : Try.prog.cellsOf 42 = 4 := by kernel_rfl
set_option maxRecDepth 100000 in
theorem rd42 {H : Type} {enc : TypeId × Value → H} {w : World} {base : Nat} {spare : Nat → Bool} {held : Bool} {n : Nat} {cs : List Value} {y : DataW H × List MemPlace} (h : DataW.trod enc Try.prog w base spare held n 42 cs = some y) :
    ∃ (x0 : ByteArray) (x1 : ByteArray) (x2 : Int) (x3 : Bool), cs = [.string x0, .string x1, .int .i64 x2, .bool x3] ∧ (Lit.int .i64 x2).wf = true ∧ x0.size ≤ maxLen ∧ x1.size ≤ maxLen := by
  obtain ⟨xs, m, _, _, hl, hn, hf⟩ := DataW.trod_struct Try.underlying42 h
  rw [cells42_] at hl
  obtain ⟨c0, c1, c2, c3, rfl⟩ : ∃ c0 c1 c2 c3, cs = [c0, c1, c2, c3] := by
    match cs, hl with
    | [c0, c1, c2, c3], _ => exact ⟨_, _, _, _, rfl⟩
  obtain ⟨y0, hy0⟩ : ∃ y, xs[0]? = some y := ⟨xs[0]'(by rw [hn]; first | decide | omega), List.getElem?_eq_getElem _⟩
  have g0 : DataW.trod enc Try.prog w base spare held m 9 (([c0, c1, c2, c3].drop 0).take (Try.prog.cellsOf 9)) = some y0 := (hf 0 _ rfl).trans hy0
  rw [cells9_] at g0
  have g0 : DataW.trod enc Try.prog w base spare held m 9 [c0] = some y0 := g0
  obtain ⟨v0, e0, _, wf0⟩ := DataW.trod_string Try.underlying9 g0
  simp only [List.cons.injEq, and_true] at e0
  obtain ⟨y1, hy1⟩ : ∃ y, xs[1]? = some y := ⟨xs[1]'(by rw [hn]; first | decide | omega), List.getElem?_eq_getElem _⟩
  have g1 : DataW.trod enc Try.prog w base spare held m 9 (([c0, c1, c2, c3].drop 1).take (Try.prog.cellsOf 9)) = some y1 := (hf 1 _ rfl).trans hy1
  rw [cells9_] at g1
  have g1 : DataW.trod enc Try.prog w base spare held m 9 [c1] = some y1 := g1
  obtain ⟨v1, e1, _, wf1⟩ := DataW.trod_string Try.underlying9 g1
  simp only [List.cons.injEq, and_true] at e1
  obtain ⟨y2, hy2⟩ : ∃ y, xs[2]? = some y := ⟨xs[2]'(by rw [hn]; first | decide | omega), List.getElem?_eq_getElem _⟩
  have g2 : DataW.trod enc Try.prog w base spare held m 3 (([c0, c1, c2, c3].drop 2).take (Try.prog.cellsOf 3)) = some y2 := (hf 2 _ rfl).trans hy2
  rw [cells3_] at g2
  have g2 : DataW.trod enc Try.prog w base spare held m 3 [c2] = some y2 := g2
  obtain ⟨v2, e2, _, wf2⟩ := DataW.trod_int Try.underlying3 g2
  simp only [List.cons.injEq, and_true] at e2
  obtain ⟨y3, hy3⟩ : ∃ y, xs[3]? = some y := ⟨xs[3]'(by rw [hn]; first | decide | omega), List.getElem?_eq_getElem _⟩
  have g3 : DataW.trod enc Try.prog w base spare held m 4 (([c0, c1, c2, c3].drop 3).take (Try.prog.cellsOf 4)) = some y3 := (hf 3 _ rfl).trans hy3
  rw [cells4_] at g3
  have g3 : DataW.trod enc Try.prog w base spare held m 4 [c3] = some y3 := g3
  obtain ⟨v3, e3, _⟩ := DataW.trod_bool Try.underlying4 g3
  simp only [List.cons.injEq, and_true] at e3
  exact ⟨v0, v1, v2, v3, (by subst e0; subst e1; subst e2; subst e3; rfl), wf2, wf0, wf1⟩
/-- An element of a slice of type 31, as its cells. -/
def Is42 (p : ByteArray × ByteArray × Int × Bool) (cs : List Value) : Prop := cs = [.string p.1, .string p.2.1, .int .i64 p.2.2.1, .bool p.2.2.2] ∧ (Lit.int .i64 (p.2.2.1)).wf = true ∧ (p.1).size ≤ maxLen ∧ (p.2.1).size ≤ maxLen
theorem sl31 {H : Type} {enc : TypeId × Value → H} {w : World} {base : Nat} {spare : Nat → Bool} {held : Bool} {n : Nat} {cs : List Value} {y : DataW H × List MemPlace} (h : DataW.trod enc Try.prog w base spare held n 31 cs = some y) :
    ∃ (A : Option Addr) (c : Nat) (ps : List (ByteArray × ByteArray × Int × Bool)), cs = [.slice A ps.length c] ∧ ps.length ≤ c ∧ Rowz Is42 4 w A ps :=
  rows_open Try.underlying31 cells42_ (fun cs y n hy => by obtain ⟨v0, v1, v2, v3, e_, wf2, wf0, wf1⟩ := rd42 hy; exact ⟨(v0, v1, v2, v3), e_, wf2, wf0, wf1⟩) h
end Go.Proofs.Ytnmnojapacflgaa.O
