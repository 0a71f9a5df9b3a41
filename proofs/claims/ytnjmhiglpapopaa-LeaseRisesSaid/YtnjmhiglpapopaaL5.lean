/-
  Proved here: Take, Renew, Drop as functions on a table; a step's kind; the first 80 steps. No condition.
-/
import Derived.Test.YtnjmhiglpapopaaL4
import Derived.Test.YtnjmhiglpapopaaL5a
namespace Go.Proofs.Ytnjmhiglpapopaa.L5
open Go.RowKit Go.Proofs.Ytnjmhiglpapopaa.M Go.Proofs.Ytnjmhiglpapopaa.L0 Go.Proofs.Ytnjmhiglpapopaa.L1 Go.Proofs.Ytnjmhiglpapopaa.L2 Go.Proofs.Ytnjmhiglpapopaa.L3 Go.Proofs.Ytnjmhiglpapopaa.L4 Go.Proofs.YtnjmhiglpapopaaW.PrintWords Go.Proofs.YtnjmhiglpapopaaW.PrintLast Go.Proofs.YtnjmhiglpapopaaW.PrintMore
open PLeaseKeeps (S35 k35 z35 k35_open rd_T35)
open L5a
set_option linter.unusedVariables false
set_option linter.unusedSimpArgs false

abbrev Ta := ByteArray → Option Le
/-- Take: the number, the error, the table then. -/
def take (g : Ta) (m : Int) (n : ByteArray) (h now ttl : Int) : Int × Int × Ta :=
  if right n h now ttl = true then
    if free g m n now = true then (wrap64 (((g n).getD noLe).e + 1), 0, upd g n ⟨h, wrap64 (((g n).getD noLe).e + 1), late now ttl⟩)
    else (0, 9, g)
  else (0, 1, g)
def renew (g : Ta) (n : ByteArray) (a c now ttl : Int) : Int × Int × Ta :=
  if right n a now ttl = true then
    if ((own g n a c).2 == 0) = true then
      if holds g n a c now = true then (mx (own g n a c).1.u (late now ttl), 0, upd g n ⟨(own g n a c).1.h, (own g n a c).1.e, mx (own g n a c).1.u (late now ttl)⟩)
      else (0, 9, g)
    else (0, (own g n a c).2, g)
  else (0, 1, g)
def drop (g : Ta) (n : ByteArray) (a c : Int) : Int × Ta :=
  if ((own g n a c).2 == 0) = true then
    if ((own g n a c).1.u == 0) = true then (10, g)
    else (0, upd g n ⟨(own g n a c).1.h, (own g n a c).1.e, 0⟩)
  else ((own g n a c).2, g)

theorem take_any (b q : Nat) (m : Int) (g : Ta) (n : ByteArray) (h now ttl : Int) (w : World) (ht : Tab w b q m g) (r x : Int) (g' : Ta) (he : take g m n h now ttl = (r, x, g')) :
    Calls Try.prog 10 #[.pointer (some ⟨b, 0, none⟩), .string n, .int .i64 h, .int .i64 now, .int .i64 ttl] w fun e w' => e = .returned (.tuple #[.int .i64 r, .int .i64 x]) ∧ Tab w' b q m g' ∧ w.grownBy w' (some q) := by
  unfold take at he
  split at he
  · rename_i hr
    split at he
    · rename_i hf
      cases he
      exact take_ok b q m g n h now ttl w ht hr hf _ rfl
    · rename_i hf
      cases he
      exact (take_held b q m g n h now ttl w ht hr (by simpa using hf)).mono fun e w' hh => ⟨hh.1, ht.below hh.2, below_grownBy hh.2 _⟩
  · rename_i hr
    cases he
    exact (take_arg b q m g n h now ttl w (by simpa using hr)).mono fun e w' hh => ⟨hh.1, ht.below hh.2, below_grownBy hh.2 _⟩
theorem renew_any (b q : Nat) (m : Int) (g : Ta) (n : ByteArray) (a c now ttl : Int) (w : World) (ht : Tab w b q m g) (r x : Int) (g' : Ta) (he : renew g n a c now ttl = (r, x, g')) :
    Calls Try.prog 15 #[.pointer (some ⟨b, 0, none⟩), .string n, .int .i64 a, .int .i64 c, .int .i64 now, .int .i64 ttl] w fun e w' => e = .returned (.tuple #[.int .i64 r, .int .i64 x]) ∧ Tab w' b q m g' ∧ w.grownBy w' (some q) := by
  obtain ⟨⟨⟨h1, e1, u1⟩, y⟩, ho⟩ : ∃ p, own g n a c = p := ⟨_, rfl⟩
  unfold renew at he
  rw [ho] at he
  dsimp only at he
  split at he
  · rename_i hr
    split at he
    · rename_i hy
      have hy0 : y = 0 := by simpa using hy
      subst hy0
      split at he
      · rename_i hh
        cases he
        exact renew_ok b q m g n a c now ttl w ht hr h1 e1 u1 ho hh _ rfl
      · rename_i hh
        cases he
        exact (renew_late b q m g n a c now ttl w ht hr h1 e1 u1 ho (by simpa using hh)).mono fun e w' hh => ⟨hh.1, ht.below hh.2, below_grownBy hh.2 _⟩
    · rename_i hy
      cases he
      exact (renew_own b q m g n a c now ttl w ht hr _ h1 e1 u1 ho (by simpa using hy)).mono fun e w' hh => ⟨hh.1, ht.below hh.2, below_grownBy hh.2 _⟩
  · rename_i hr
    cases he
    exact (renew_arg b q m g n a c now ttl w ht (by simpa using hr)).mono fun e w' hh => ⟨hh.1, ht.below hh.2, below_grownBy hh.2 _⟩
theorem drop_any (b q : Nat) (m : Int) (g : Ta) (n : ByteArray) (a c : Int) (w : World) (ht : Tab w b q m g) (x : Int) (g' : Ta) (he : drop g n a c = (x, g')) :
    Calls Try.prog 16 #[.pointer (some ⟨b, 0, none⟩), .string n, .int .i64 a, .int .i64 c] w fun e w' => e = .returned (.int .i64 x) ∧ Tab w' b q m g' ∧ w.grownBy w' (some q) := by
  obtain ⟨⟨⟨h1, e1, u1⟩, y⟩, ho⟩ : ∃ p, own g n a c = p := ⟨_, rfl⟩
  unfold drop at he
  rw [ho] at he
  dsimp only at he
  split at he
  · rename_i hy
    have hy0 : y = 0 := by simpa using hy
    subst hy0
    split at he
    · rename_i hu
      cases he
      exact (drop_was b q m g n a c w ht h1 e1 u1 ho hu).mono fun e w' hh => ⟨hh.1, ht.below hh.2, below_grownBy hh.2 _⟩
    · rename_i hu
      cases he
      exact drop_ok b q m g n a c w ht h1 e1 u1 ho (by simpa using hu)
  · rename_i hy
    cases he
    exact (drop_own b q m g n a c w ht _ h1 e1 u1 ho (by simpa using hy)).mono fun e w' hh => ⟨hh.1, ht.below hh.2, below_grownBy hh.2 _⟩

abbrev Row (w : World) (base : Nat) (q : Nat) (v : Value) (xs : List S35) : Prop := Kd.R k35 35 w base (fun k => k ≠ q) v xs

theorem early_q (A : Option Addr) (c : Nat) (l : List S35) (w : World) (hr : Kd.C k35 w A l.length l) (hc : l.length ≤ c) (q : Nat) (hq : q < w.heap.size) :
    Calls Try.prog 13 #[.slice A l.length c] w fun e w' => ∃ (A' : Option Addr) (c' : Nat) (xs : List S35), e = .returned (.slice A' xs.length c') ∧ xs.length ≤ 80 ∧ Row w' w.heap.size q (.slice A' xs.length c') xs ∧ Below w.heap.size w w' := by
  refine (early_own A c l w hr hc).mono ?_
  rintro e w' ⟨v, xs, rfl, hx, hR, hb⟩
  obtain ⟨A', c', rfl, _⟩ := Kd.R_reads hR
  exact ⟨A', c', xs, rfl, hx, Kd.R_mono (Kd.R_bound hR) (fun k hk => by have := hk.2.1; omega), hb⟩

def toS (p : Int × Int × Int × Int × Int × ByteArray) : S35 := ⟨p.1, p.2.1, p.2.2.1, p.2.2.2.1, p.2.2.2.2.1, p.2.2.2.2.2⟩
theorem C_of_Rowz {w : World} {A : Option Addr} {ps : List (Int × Int × Int × Int × Int × ByteArray)} (h : O.Rowz O.Is35 6 w A ps) : Kd.C k35 w A (ps.map toS).length (ps.map toS) := by
  refine ⟨rfl, by simpa [maxLen] using Nat.le_trans h.1 (by decide), fun hn => ?_⟩
  obtain ⟨ad, e, hc⟩ := h.2 (by simpa using hn)
  refine ⟨ad, e, fun j p hj => ?_⟩
  rw [List.getElem?_map] at hj
  obtain ⟨x, hx, rfl⟩ := Option.map_eq_some_iff.1 hj
  obtain ⟨c, h1, h2, h3⟩ := hc j x hx
  refine ⟨c, h1, ?_, fun i u hu => ?_⟩
  · rw [h2.1]
    exact PLeaseKeeps.k35_mk w (toS x)
  · have := h3 i u hu
    rwa [add_add] at this

/-- A row's element, where it lies. -/
theorem Row.at_ {w : World} {base q : Nat} {A : Option Addr} {n c : Nat} {xs : List S35} (h : Row w base q (.slice A n c) xs) (k : Nat) (hk : k < xs.length) :
    ∃ (rb ro : Nat) (x0 x1 x2 x3 x4 : Int) (s : ByteArray), A = some ⟨rb, ro, none⟩ ∧ rb < w.heap.size ∧ w.cell? ⟨rb, ro + k * 6, none⟩ = some (.int .i64 x0) ∧ w.cell? ⟨rb, ro + k * 6 + 1, none⟩ = some (.int .i64 x1) ∧ w.cell? ⟨rb, ro + k * 6 + 2, none⟩ = some (.int .i64 x2) ∧
      w.cell? ⟨rb, ro + k * 6 + 3, none⟩ = some (.int .i64 x3) ∧ w.cell? ⟨rb, ro + k * 6 + 4, none⟩ = some (.int .i64 x4) ∧ w.cell? ⟨rb, ro + k * 6 + 5, none⟩ = some (.string s) := by
  obtain ⟨A', c', e, _, hC⟩ := Kd.R_reads h
  cases e
  exact C_at hC k hk

/-! ### laws of the functions -/
/-- No time of a lease is above the last one. -/
def Inv (g : Ta) : Prop := ∀ n l, g n = some l → 0 ≤ l.u ∧ l.u ≤ 1099511627776
theorem inv_none : Inv (fun _ => none) := fun n l h => by cases h
theorem inv_upd {g : Ta} (h : Inv g) (n : ByteArray) (l : Le) (hl : 0 ≤ l.u ∧ l.u ≤ 1099511627776) : Inv (upd g n l) := by
  intro n' l' h'
  unfold upd at h'
  split at h'
  · cases h'; exact hl
  · exact h n' l' h'
theorem right_iff {n : ByteArray} {h now ttl : Int} (hr : right n h now ttl = true) : 0 ≤ now ∧ now ≤ 1099511627776 ∧ 1 ≤ ttl ∧ ttl ≤ 1048576 := by
  unfold right at hr
  simp only [Bool.and_eq_true, decide_eq_true_eq] at hr
  omega
theorem late_in {a b : Int} (h : 0 ≤ a + b) (h1 : a + b ≤ 9223372036854775807) : 0 ≤ late a b ∧ late a b ≤ 1099511627776 ∧ (a + b ≤ 1099511627776 → late a b = a + b) ∧ (1099511627776 < a + b → late a b = 1099511627776) := by
  unfold late
  rw [wrap64_eq (by omega) (by omega)]
  unfold mn
  split <;> omega
theorem own_some {g : Ta} {n : ByteArray} {a c : Int} {l : Le} (h : own g n a c = (l, 0)) : g n = some l ∧ l.h = a ∧ l.e = c := by
  unfold own at h
  split at h
  · cases h
  · rename_i l' hl
    split at h
    · rename_i hx
      cases h
      simp only [Bool.and_eq_true, beq_iff_eq] at hx
      exact ⟨hl, hx.1, hx.2⟩
    · cases h
theorem inv_take {g : Ta} (h : Inv g) (m : Int) (n : ByteArray) (a now ttl : Int) : Inv (take g m n a now ttl).2.2 := by
  unfold take
  split
  · rename_i hr
    split
    · have := right_iff hr
      have hl := late_in (a := now) (b := ttl) (by omega) (by omega)
      exact inv_upd h n _ ⟨hl.1, hl.2.1⟩
    · exact h
  · exact h
theorem inv_renew {g : Ta} (h : Inv g) (n : ByteArray) (a c now ttl : Int) : Inv (renew g n a c now ttl).2.2 := by
  unfold renew
  split
  · rename_i hr
    split
    · rename_i hy
      split
      · obtain ⟨⟨l, y⟩, ho⟩ : ∃ p, own g n a c = p := ⟨_, rfl⟩
        rw [ho] at hy ⊢
        have hy0 : y = 0 := by simpa using hy
        subst hy0
        have hu := h n l (own_some ho).1
        have := right_iff hr
        have hl := late_in (a := now) (b := ttl) (by omega) (by omega)
        refine inv_upd h n _ ?_
        show 0 ≤ mx l.u (late now ttl) ∧ mx l.u (late now ttl) ≤ _
        unfold mx
        split <;> omega
      · exact h
    · exact h
  · exact h
theorem inv_drop {g : Ta} (h : Inv g) (n : ByteArray) (a c : Int) : Inv (drop g n a c).2 := by
  unfold drop
  split
  · split
    · exact h
    · exact inv_upd h n _ ⟨Int.le_refl 0, by show (0 : Int) ≤ _; decide⟩
  · exact h
theorem cut_in (n : Int) : 0 ≤ cut n ∧ cut n ≤ 1048576 := by
  unfold cut mx mn
  (repeat' split) <;> omega
theorem holds_some' {g : Ta} {n : ByteArray} {a c now : Int} (h : holds g n a c now = true) : ∃ l, g n = some l ∧ l.h = a ∧ l.e = c ∧ 0 < l.u ∧ now < l.u := by
  unfold holds at h
  split at h
  · cases h
  · rename_i l hl
    simp only [Bool.and_eq_true, beq_iff_eq, decide_eq_true_eq] at h
    exact ⟨l, hl, h.1.1.1, h.1.1.2, h.1.2, h.2⟩
/-- Who holds it holds it: it is not free. -/
theorem held_not_free {g : Ta} (hi : Inv g) {m : Int} (hm : 0 ≤ m ∧ m ≤ 1048576) {n : ByteArray} {a c now : Int} (h : holds g n a c now = true) : free g m n now = false := by
  obtain ⟨l, hl, _, _, h1, h2⟩ := holds_some' h
  have hu := hi n l hl
  have hl2 := late_in (a := l.u) (b := m) (by omega) (by omega)
  have h3 : (l.u == 0) = false := by simp; omega
  have h4 : decide (now ≥ late l.u m) = false := by
    simp
    by_cases h5 : l.u + m ≤ 1099511627776
    · rw [hl2.2.2.1 h5]; omega
    · rw [hl2.2.2.2 (by omega)]; omega
  unfold free
  rw [hl]
  dsimp only
  rw [h3, h4]
  rfl

theorem tab_turn {w w1 : World} {base q : Nat} {v : Value} {xs : List S35} (h : Row w base q v xs) (hg : w.grownBy w1 (some q)) : Row w1 base q v xs := Kd.R_grown h hg (fun k hk e => hk (by injection e))
end Go.Proofs.Ytnjmhiglpapopaa.L5
