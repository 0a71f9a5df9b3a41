/-
  Proved here: plain facts on what the printed functions answer (units made of any, units of which one is another, those that wait), and that changes come to an end. No condition.
-/
import Derived.Test.YtloljhopccpeeaaPl
import Derived.Test.YtloljhopccpeeaaPPlanEndsx1
import Derived.Test.YtloljhopccpeeaaPPlanEndsx2
namespace Go.Proofs.Ytloljhopccpeeaa.Pl2
open Go.RowKit Go.Proofs.Ytloljhopccpeeaa.Pl
open Go.Proofs.Ytloljhopccpeeaa.PPlanEnds Go.Proofs.YtloljhopccpeeaaW.PrintWords Go.Proofs.YtloljhopccpeeaaW.PrintMore
set_option linter.unusedVariables false
set_option linter.unusedSimpArgs false

theorem rd_at (l : List S35) (j : Nat) : rd_T35 l (j : Int) = at_ l j := by
  unfold rd_T35 at_
  rw [Int.toNat_natCast]
theorem at_set {l : List S35} {i : Nat} (hi : i < l.length) (u : S35) (j : Nat) : at_ (l.set i u) j = if i = j then u else at_ l j := by
  unfold at_
  rw [List.getD_eq_getElem?_getD, List.getElem?_set]
  split
  · rename_i e
    subst e
    first | rfl | (rw [if_pos hi]; rfl)
  · rw [List.getD_eq_getElem?_getD]
theorem wrap_s {n : Int} (h : -9223372036854775808 ≤ n) (h1 : n ≤ 9223372036854775807) : wrap64 n = n := by unfold wrap64; omega
theorem umod (n k : Int) (hk : 0 < k) (hk' : k ≤ 1073741824) : 0 ≤ wrap64 ((IntKind.u64.wrap n).tmod k) ∧ wrap64 ((IntKind.u64.wrap n).tmod k) < k := by
  have h : IntKind.u64.wrap n = n % 18446744073709551616 := by
    have h : IntKind.u64.wrap n = n.emod 18446744073709551616 := by simp [IntKind.wrap]; rfl
    exact h
  rw [h, Int.tmod_eq_emod_of_nonneg (Int.emod_nonneg _ (by decide))]
  have h1 := Int.emod_nonneg (n % 18446744073709551616) (by omega : k ≠ 0)
  have h2 := Int.emod_lt_of_pos (n % 18446744073709551616) hk
  rw [wrap_s (by omega) (by omega)]
  exact ⟨h1, h2⟩
/-- Units of no version below 0. -/
def Small (l : List S35) : Prop := ∀ j, j < l.length → 0 ≤ (at_ l j).f0
theorem small_set {l : List S35} (h : Small l) {i : Nat} (hi : i < l.length) {u : S35} (hu : 0 ≤ u.f0) : Small (l.set i u) := by
  intro j hj
  rw [at_set hi]
  split
  · exact hu
  · exact h j (by simpa using hj)
theorem good_l (x0 : List S35) : ∀ (n i : Nat) (x3 : List S35), i + n = 16 → x3.length = 16 → Small x3 → ∃ r, pacesetterref19_Good.l0 (n + 1) x0 x3 (i : Int) = some r ∧ r.length = 16 ∧ Small r := by
  intro n
  induction n with
  | zero =>
    intro i x3 hi hl hs
    refine ⟨x3, ?_, hl, hs⟩
    unfold pacesetterref19_Good.l0
    rw [if_neg (by omega)]
  | succ n ih =>
    intro i x3 hi hl hs
    unfold pacesetterref19_Good.l0
    rw [if_pos (by omega), if_pos (by omega), if_pos (by omega), Option.bind_some, wrap_s (n := (i : Int) + 1) (by omega) (by omega), Int.toNat_natCast, rd_at]
    have h1 := small_set hs (i := i) (by omega) (u := ⟨(at_ x3 i).f0, (at_ x3 i).f1, true⟩) (hs i (by omega))
    have e : (i : Int) + 1 = ((i + 1 : Nat) : Int) := by omega
    rw [e]
    split
    · refine ih (i + 1) _ (by omega) (by simpa using hl) (small_set h1 (by simp; omega) ?_)
      have := umod (rd_T35 x0 (i : Int)).f0 4 (by decide) (by decide)
      simp only
      omega
    · exact ih (i + 1) _ (by omega) (by simpa using hl) h1
theorem good_f (l0 : List S35) : ∃ r, pacesetterref19_Good.f 17 l0 = some r ∧ r.length = 16 ∧ Small r := by
  unfold pacesetterref19_Good.f
  rw [if_pos (by omega)]
  have h := good_l l0 16 0 (List.replicate 16 z35) (by omega) (by simp) (by
    intro j hj
    have : at_ (List.replicate 16 z35) j = z35 := by
      unfold at_
      rw [List.getD_eq_getElem?_getD, List.getElem?_replicate]
      split <;> rfl
    rw [this]
    exact Int.le_refl 0)
  exact h
/-- All are done. -/
def Done (l : List S35) : Prop := ∀ j, j < l.length → (at_ l j).f2 = true
theorem all_l : ∀ (n i : Nat) (x : List S35), i + n = 16 → x.length = 16 → Small x → (∀ j, j < i → (at_ x j).f2 = true) → ∃ r, pacesetterlaw19_all.l0 (n + 1) x (i : Int) = some r ∧ r.length = 16 ∧ Small r ∧ Done r := by
  intro n
  induction n with
  | zero =>
    intro i x hi hl hs hd
    refine ⟨x, ?_, hl, hs, fun j hj => hd j (by omega)⟩
    unfold pacesetterlaw19_all.l0
    rw [if_neg (by omega)]
  | succ n ih =>
    intro i x hi hl hs hd
    unfold pacesetterlaw19_all.l0
    rw [if_pos (by omega), if_pos (by omega), wrap_s (by omega) (by omega), Int.toNat_natCast, rd_at]
    have e : (i : Int) + 1 = ((i + 1 : Nat) : Int) := by omega
    rw [e]
    refine ih (i + 1) _ (by omega) (by simpa using hl) (small_set hs (by omega) (hs i (by omega))) (fun j hj => ?_)
    rw [at_set (by omega)]
    split
    · rfl
    · exact hd j (by omega)
theorem rounds_good : ∀ (l0 : List S35) (m k : Nat) (r : List S35), pacesetterref19_Good.f k l0 = some r → pacesetterref19_Good.f (k + m) l0 = some r := by
  intro l0 m
  induction m with
  | zero => intro k r h; exact h
  | succ m ih =>
    intro k r h
    exact pacesetterref19_Good.mono l0 (k + m) r (ih k r h)
theorem all_f (l0 : List S35) : ∃ r, pacesetterlaw19_all.f 17 l0 = some r ∧ r.length = 16 ∧ Small r ∧ Done r := by
  obtain ⟨y, hy, hl, hs⟩ := good_f l0
  unfold pacesetterlaw19_all.f
  rw [hy, Option.bind_some]
  exact all_l 16 0 y (by omega) hl hs (fun j hj => absurd hj (Nat.not_lt_zero _))
theorem waits_l (l : List S35) (h16 : l.length ≤ 16) : ∀ (n i : Nat) (x : List Int), i + n = l.length → x.length ≤ i → (∀ y, y ∈ x → ∃ j, j < i ∧ y = (j : Nat) ∧ (at_ l j).f2 = false) → (x = [] ↔ ∀ j, j < i → (at_ l j).f2 = true) →
    ∃ r, plan_Waits.l0 (n + 1) x l (l.length : Int) (i : Int) = some r ∧ (∀ y, y ∈ r → ∃ j, j < l.length ∧ y = (j : Nat) ∧ (at_ l j).f2 = false) ∧ (r = [] ↔ Done l) ∧ r.length ≤ l.length := by
  intro n
  induction n with
  | zero =>
    intro i x hi hx h1 h2
    obtain rfl : i = l.length := by omega
    refine ⟨x, ?_, h1, h2, hx⟩
    unfold plan_Waits.l0
    rw [if_neg (by omega)]
  | succ n ih =>
    intro i x hi hx h1 h2
    unfold plan_Waits.l0
    rw [if_pos (by omega), if_pos (by omega), if_pos (by omega), wrap_s (by omega) (by omega), rd_at]
    have e : (i : Int) + 1 = ((i + 1 : Nat) : Int) := by omega
    rw [e]
    cases hb : (at_ l i).f2 with
    | true =>
      rw [if_pos rfl]
      refine ih (i + 1) x (by omega) (by omega) (fun y hy => ?_) ?_
      · obtain ⟨j, hj, e1, e2⟩ := h1 y hy
        exact ⟨j, by omega, e1, e2⟩
      · rw [h2]
        constructor
        · intro h j hj
          by_cases ej : j = i
          · rw [ej]; exact hb
          · exact h j (by omega)
        · intro h j hj
          exact h j (by omega)
    | false =>
      rw [if_neg (by decide), if_pos (by omega)]
      refine ih (i + 1) _ (by omega) (by simp; omega) (fun y hy => ?_) ?_
      · rcases List.mem_append.1 hy with hy | hy
        · obtain ⟨j, hj, e1, e2⟩ := h1 y hy
          exact ⟨j, by omega, e1, e2⟩
        · simp at hy
          exact ⟨i, by omega, hy, hb⟩
      · constructor
        · intro h
          simp at h
        · intro h
          have := h i (by omega)
          rw [hb] at this
          cases this
theorem waits_f (l : List S35) (h16 : l.length ≤ 16) : ∃ r, plan_Waits.f (l.length + 1) l = some r ∧ (∀ y, y ∈ r → ∃ j, j < l.length ∧ y = (j : Nat) ∧ (at_ l j).f2 = false) ∧ (r = [] ↔ Done l) ∧ r.length ≤ l.length := by
  unfold plan_Waits.f
  have e : mn (l.length : Int) 16 = l.length := by unfold mn; split <;> omega
  rw [e, if_pos (by omega), if_pos (by omega), Option.bind_some, Int.toNat_natCast, List.take_length]
  exact waits_l l h16 l.length 0 [] (by omega) (by simp) (fun y hy => by cases hy) ⟨fun _ j hj => absurd hj (Nat.not_lt_zero _), fun _ => rfl⟩
theorem with_f (l : List S35) (h16 : l.length ≤ 16) (k : Nat) (hk : k < l.length) (v : Int) (b : Bool) : pacesetterref19_With.f l (k : Int) v b = some (told l k v (wrap64 ((at_ l k).f1 + 1)) b) := by
  unfold pacesetterref19_With.f told
  rw [if_pos (by simp; omega), Option.bind_some, List.nil_append, if_pos (by omega), if_pos (by omega), Int.toNat_natCast, rd_at]
/-! ### PlanEnds -/
/-- A goal of a spec that may be. -/
structure Ok (g : Gl) : Prop where
  nw0 : 0 ≤ g.nw
  nw6 : g.nw ≤ 6
  t0 : 0 ≤ g.t
  td : g.t ≤ g.d
  d5 : g.d ≤ 5
  lo0 : 0 ≤ g.lo
  lohi : g.lo < g.hi
  lod : g.lo ≤ g.d
  dhi : g.d ≤ g.hi
  hi11 : g.hi ≤ 11
  nwt : 0 < g.t → 0 < g.nw
  two : g.bl = true → 2 * g.d ≤ g.hi
/-- How much is left to do. -/
def left (g : Gl) (l : List S35) : Int := g.t - cnt (isNew g) l + cnt (isOld g) l
theorem there_done {g : Gl} {l : List S35} (hd : Done l) : cnt isThere l = cnt (isNew g) l + cnt (isOld g) l ∧ cnt isUp l = cnt (isNew g) l + cnt (isOld g) l ∧ cnt (newUp g) l = cnt (isNew g) l := by
  have key : ∀ (l : List S35), (∀ u, u ∈ l → u.f2 = true) → cnt isThere l = cnt (isNew g) l + cnt (isOld g) l ∧ cnt isUp l = cnt (isNew g) l + cnt (isOld g) l ∧ cnt (newUp g) l = cnt (isNew g) l := by
    intro l
    induction l with
    | nil => intro _; exact ⟨rfl, rfl, rfl⟩
    | cons u l ih =>
      intro h
      obtain ⟨h1, h2, h3⟩ := ih (fun v hv => h v (List.mem_cons_of_mem _ hv))
      have hu := h u List.mem_cons_self
      unfold cnt at *
      simp only [List.countP_cons]
      have q1 : isThere u = (isNew g u || isOld g u) := by unfold isThere isNew isOld; rw [hu]; simp only [bne]; cases decide (0 < u.f0) <;> simp
      have q2 : isUp u = (isNew g u || isOld g u) := by unfold isUp isNew isOld; rw [hu]; simp only [bne]; cases decide (0 < u.f0) <;> simp
      have q3 : newUp g u = isNew g u := by unfold newUp; rw [hu]; simp
      have q4 : (isNew g u && isOld g u) = false := by unfold isNew isOld; simp only [bne]; cases decide (0 < u.f0) <;> simp
      rw [q1, q2, q3]
      generalize isNew g u = b1 at *
      generalize isOld g u = b2 at *
      cases b1 <;> cases b2 <;> simp at * <;> omega
  refine key l (fun u hu => ?_)
  obtain ⟨j, hj, rfl⟩ := List.mem_iff_getElem.1 hu
  have := hd j hj
  rwa [at_get hj] at this
theorem ends_step {g : Gl} (hg : Ok g) {l : List S35} (hd : Done l) (hn : cnt (isNew g) l ≤ g.t) {i v : Int} (h : nextV g l = ⟨i, v, true⟩) :
    ∃ k : Nat, i = k ∧ k < l.length ∧ ∀ s, Done (told l k v s true) ∧ cnt (isNew g) (told l k v s true) ≤ g.t ∧ left g (told l k v s true) < left g l := by
  have hx := next_spec g l
  rw [h] at hx
  have dn : ∀ (k : Nat) (v s : Int), k < l.length → Done (told l k v s true) := by
    intro k v s hk j hj
    unfold told at *
    rw [at_set hk]
    split
    · rfl
    · exact hd j (by simpa using hj)
  have hb := cnt_bound (isNew g) l
  cases hx with
  | start k hi hnt ht hh =>
    refine ⟨k, rfl, hi, fun s => ⟨dn k _ s hi, ?_⟩⟩
    have hpos := hg.nwt (by omega)
    unfold isThere at hnt
    simp at hnt
    unfold left told
    rw [cnt_set _ _ _ hi, cnt_set _ _ _ hi]
    have e1 : isNew g (at_ l k) = false := by unfold isNew; simp; omega
    have e2 : isOld g (at_ l k) = false := by unfold isOld; simp; omega
    have e3 : isNew g ⟨g.nw, s, true⟩ = true := by unfold isNew; simp [hpos]
    have e4 : isOld g ⟨g.nw, s, true⟩ = false := by unfold isOld; simp
    rw [e1, e2, e3, e4]
    simp only [Bool.false_eq_true, if_false, if_true]
    omega
  | turn k hk ht hbl =>
    refine ⟨k, rfl, hk.lt, fun s => ⟨dn k _ s hk.lt, ?_⟩⟩
    have hpos := hg.nwt (by omega)
    have ho := hk.is
    unfold left told
    rw [cnt_set _ _ _ hk.lt, cnt_set _ _ _ hk.lt]
    have e1 : isNew g (at_ l k) = false := by unfold isOld at ho; unfold isNew; simp at *; intro _; exact ho.2
    have e3 : isNew g ⟨g.nw, s, true⟩ = true := by unfold isNew; simp [hpos]
    have e4 : isOld g ⟨g.nw, s, true⟩ = false := by unfold isOld; simp
    rw [e1, ho, e3, e4]
    simp only [Bool.false_eq_true, if_false, if_true]
    omega
  | stop k hk ht =>
    refine ⟨k, rfl, hk.lt, fun s => ⟨dn k _ s hk.lt, ?_⟩⟩
    have ho := hk.is
    unfold left told
    rw [cnt_set _ _ _ hk.lt, cnt_set _ _ _ hk.lt]
    have e1 : isNew g (at_ l k) = false := by unfold isOld at ho; unfold isNew; simp at *; intro _; exact ho.2
    have e3 : isNew g ⟨0, s, true⟩ = false := by unfold isNew; simp
    have e4 : isOld g ⟨0, s, true⟩ = false := by unfold isOld; simp
    rw [e1, ho, e3, e4]
    simp only [Bool.false_eq_true, if_false, if_true]
    omega
  | less k hk ht => omega
theorem ends_stuck {g : Gl} (hg : Ok g) {l : List S35} (h16 : l.length = 16) (hd : Done l) (hn : cnt (isNew g) l ≤ g.t) {i v : Int} (h : nextV g l = ⟨i, v, false⟩) :
    cnt (isNew g) l = g.t ∧ (cnt (isOld g) l = 0 ∨ g.t ≠ g.d) := by
  have hx := next_spec g l
  rw [h] at hx
  obtain ⟨d1, d2, d3⟩ := there_done (g := g) hd
  have hbn := cnt_bound (isNew g) l
  have hbo := cnt_bound (isOld g) l
  have hbt := cnt_bound isThere l
  cases hx with
  | no h1 h2 h3 h4 =>
    have old : goesV g (isOld g) l = -1 → g.lo ≤ cnt isUp l - 1 → cnt (isOld g) l = 0 := by
      intro e hlo
      rcases goes_spec g (isOld g) l with ⟨i, e2, _⟩ | ⟨_, _, hl | hl⟩
      · omega
      · omega
      · exact cnt_none hl
    have hlo := hg.lo0
    have hlh := hg.lohi
    have hld := hg.lod
    have hdh := hg.dhi
    have h11 := hg.hi11
    have htd := hg.td
    have ht0 := hg.t0
    rcases Int.lt_or_eq_of_le hn with hlt | heq
    · exfalso
      have hth : g.hi ≤ cnt isThere l := by
        unfold nI1 at h1
        by_cases hc : cnt isThere l < g.hi
        · rw [if_pos ⟨hlt, hc⟩] at h1
          rcases idx_spec noneThere l with ⟨i, hi, e, _⟩ | ⟨e, hno⟩
          · omega
          · have : cnt isThere l = l.length := cnt_all (fun j hj => by
              have := hno j hj
              unfold noneThere at this
              simpa using this)
            omega
        · omega
      have hup : g.lo ≤ cnt isUp l - 1 := by omega
      cases hbl : g.bl with
      | false =>
        unfold nI2 at h2
        rw [if_pos ⟨hlt, hbl⟩] at h2
        have := old h2 hup
        omega
      | true =>
        have htwo := hg.two hbl
        unfold nI3 at h3
        rw [if_pos ⟨by omega, .inr (.inr (by omega))⟩] at h3
        have := old h3 hup
        omega
    · refine ⟨heq, ?_⟩
      by_cases hO : cnt (isOld g) l = 0
      · exact .inl hO
      · by_cases htd2 : g.t = g.d
        · exfalso
          unfold nI3 at h3
          rw [if_pos ⟨by omega, .inr (.inl (by omega))⟩] at h3
          have := old h3 (by omega)
          omega
        · exact .inr htd2
end Go.Proofs.Ytloljhopccpeeaa.Pl2
