/-
  Proved here: plain facts on plan.Next, in lists and numbers. No condition.
-/
import Derived.Test.YtloljhopccpeeaaPPlanEndsx0
namespace Go.Proofs.Ytloljhopccpeeaa.Pl
open Go.Proofs.Ytloljhopccpeeaa.PPlanEnds (S35 z35)
set_option linter.unusedVariables false
set_option linter.unusedSimpArgs false

structure Gl where
  nw : Int
  t : Int
  d : Int
  lo : Int
  hi : Int
  bl : Bool
def isNew (g : Gl) (u : S35) : Bool := decide (0 < u.f0) && (u.f0 == g.nw)
def isOld (g : Gl) (u : S35) : Bool := decide (0 < u.f0) && (u.f0 != g.nw)
def isThere (u : S35) : Bool := decide (0 < u.f0) || !u.f2
def noneThere (u : S35) : Bool := !isThere u
def isUp (u : S35) : Bool := decide (0 < u.f0) && u.f2
def newUp (g : Gl) (u : S35) : Bool := isNew g u && u.f2
def pend (p : S35 → Bool) (u : S35) : Bool := p u && !u.f2
def cnt (p : S35 → Bool) (l : List S35) : Int := (l.countP p : Nat)
def idx (p : S35 → Bool) (l : List S35) : Int := if l.findIdx p < l.length then (l.findIdx p : Nat) else -1
def goesV (g : Gl) (p : S35 → Bool) (l : List S35) : Int := if 0 ≤ idx (pend p) l ∨ cnt isUp l - 1 < g.lo then idx (pend p) l else idx p l
def nI1 (g : Gl) (l : List S35) : Int := if cnt (isNew g) l < g.t ∧ cnt isThere l < g.hi then idx noneThere l else -1
def nI2 (g : Gl) (l : List S35) : Int := if cnt (isNew g) l < g.t ∧ g.bl = false then goesV g (isOld g) l else -1
def nI3 (g : Gl) (l : List S35) : Int := if g.d < cnt (isNew g) l + cnt (isOld g) l ∧ (g.bl = false ∨ g.t ≤ cnt (newUp g) l ∨ g.d < cnt (isOld g) l) then goesV g (isOld g) l else -1
def nI4 (g : Gl) (l : List S35) : Int := if g.t < cnt (isNew g) l then goesV g (isNew g) l else -1
structure Nx where
  i : Int
  v : Int
  is : Bool
def nextV (g : Gl) (l : List S35) : Nx :=
  if 0 ≤ nI1 g l then ⟨nI1 g l, g.nw, true⟩ else if 0 ≤ nI2 g l then ⟨nI2 g l, g.nw, true⟩ else if 0 ≤ nI3 g l then ⟨nI3 g l, 0, true⟩ else if 0 ≤ nI4 g l then ⟨nI4 g l, 0, true⟩ else ⟨0, 0, false⟩

def at_ (l : List S35) (j : Nat) : S35 := l.getD j z35
theorem at_get {l : List S35} {j : Nat} (h : j < l.length) : at_ l j = l[j] := by
  unfold at_
  rw [List.getD_eq_getElem?_getD]
  simp [h]
theorem cnt_bound (p : S35 → Bool) (l : List S35) : 0 ≤ cnt p l ∧ cnt p l ≤ l.length := by
  have := List.countP_le_length (p := p) (l := l)
  unfold cnt
  omega
theorem idx_spec (p : S35 → Bool) (l : List S35) :
    (∃ i : Nat, i < l.length ∧ idx p l = i ∧ p (at_ l i) = true ∧ ∀ j, j < i → p (at_ l j) = false) ∨ (idx p l = -1 ∧ ∀ j, j < l.length → p (at_ l j) = false) := by
  unfold idx
  by_cases h : l.findIdx p < l.length
  · rw [if_pos h]
    refine .inl ⟨_, h, rfl, ?_, fun j hj => ?_⟩
    · rw [at_get h]; exact List.findIdx_getElem
    · rw [at_get (by omega)]; exact List.not_of_lt_findIdx hj
  · rw [if_neg h]
    refine .inr ⟨rfl, fun j hj => ?_⟩
    have he : l.findIdx p = l.length := Nat.le_antisymm List.findIdx_le_length (by omega)
    rw [at_get hj]
    exact List.findIdx_eq_length.1 he _ (List.getElem_mem hj)
theorem idx_low (p : S35 → Bool) (l : List S35) : -1 ≤ idx p l := by
  rcases idx_spec p l with ⟨i, _, h, _⟩ | ⟨h, _⟩ <;> omega
theorem idx_at {p : S35 → Bool} {l : List S35} {k : Nat} (hk : k < l.length) (hp : p (at_ l k) = true) (hb : ∀ j, j < k → p (at_ l j) = false) : idx p l = k := by
  rcases idx_spec p l with ⟨i, hi, h, h1, h2⟩ | ⟨h, h1⟩
  · rcases Nat.lt_trichotomy i k with hlt | rfl | hlt
    · rw [hb i hlt] at h1; cases h1
    · exact h
    · rw [h2 k hlt] at hp; cases hp
  · rw [h1 k hk] at hp; cases hp
theorem idx_no {p : S35 → Bool} {l : List S35} (hb : ∀ j, j < l.length → p (at_ l j) = false) : idx p l = -1 := by
  rcases idx_spec p l with ⟨i, hi, h, h1, h2⟩ | ⟨h, h1⟩
  · rw [hb i hi] at h1; cases h1
  · exact h
/-- What goes: not up, the first of these; or the first one that is, where one may go. -/
structure Goes (g : Gl) (p : S35 → Bool) (l : List S35) (i : Nat) : Prop where
  lt : i < l.length
  is : p (at_ l i) = true
  how : ((at_ l i).f2 = false ∧ ∀ j, j < i → pend p (at_ l j) = false) ∨ ((at_ l i).f2 = true ∧ (∀ j, j < l.length → pend p (at_ l j) = false) ∧ g.lo ≤ cnt isUp l - 1 ∧ ∀ j, j < i → p (at_ l j) = false)
theorem goes_spec (g : Gl) (p : S35 → Bool) (l : List S35) :
    (∃ i : Nat, goesV g p l = i ∧ Goes g p l i) ∨ (goesV g p l = -1 ∧ (∀ j, j < l.length → pend p (at_ l j) = false) ∧ (cnt isUp l - 1 < g.lo ∨ ∀ j, j < l.length → p (at_ l j) = false)) := by
  unfold goesV
  rcases idx_spec (pend p) l with ⟨i, hi, h, h1, h2⟩ | ⟨h, h1⟩
  · rw [if_pos (.inl (by omega)), h]
    unfold pend at h1
    simp at h1
    exact .inl ⟨i, rfl, hi, h1.1, .inl ⟨h1.2, h2⟩⟩
  · by_cases hl : cnt isUp l - 1 < g.lo
    · rw [if_pos (.inr hl)]
      exact .inr ⟨h, h1, .inl hl⟩
    · rw [if_neg (by omega)]
      rcases idx_spec p l with ⟨i, hi, e, g1, g2⟩ | ⟨e, g1⟩
      · refine .inl ⟨i, e, hi, g1, .inr ⟨?_, h1, by omega, g2⟩⟩
        have := h1 i hi
        unfold pend at this
        simpa [g1] using this
      · exact .inr ⟨e, h1, .inr g1⟩
theorem goes_low (g : Gl) (p : S35 → Bool) (l : List S35) : -1 ≤ goesV g p l := by
  rcases goes_spec g p l with ⟨i, h, _⟩ | ⟨h, _⟩ <;> omega
/-- What a change is. -/
inductive Nxt (g : Gl) (l : List S35) : Nx → Prop
  | start (i : Nat) (hi : i < l.length) (hn : isThere (at_ l i) = false) (ht : cnt (isNew g) l < g.t) (hh : cnt isThere l < g.hi) : Nxt g l ⟨i, g.nw, true⟩
  | turn (i : Nat) (h : Goes g (isOld g) l i) (ht : cnt (isNew g) l < g.t) (hb : g.bl = false) : Nxt g l ⟨i, g.nw, true⟩
  | stop (i : Nat) (h : Goes g (isOld g) l i) (ht : g.d < cnt (isNew g) l + cnt (isOld g) l) : Nxt g l ⟨i, 0, true⟩
  | less (i : Nat) (h : Goes g (isNew g) l i) (ht : g.t < cnt (isNew g) l) : Nxt g l ⟨i, 0, true⟩
  | no (h1 : nI1 g l = -1) (h2 : nI2 g l = -1) (h3 : nI3 g l = -1) (h4 : nI4 g l = -1) : Nxt g l ⟨0, 0, false⟩
theorem next_spec (g : Gl) (l : List S35) : Nxt g l (nextV g l) := by
  unfold nextV
  have n1 : nI1 g l = -1 ∨ ∃ i : Nat, nI1 g l = i ∧ i < l.length ∧ isThere (at_ l i) = false ∧ cnt (isNew g) l < g.t ∧ cnt isThere l < g.hi := by
    unfold nI1
    split
    · rename_i h
      rcases idx_spec noneThere l with ⟨i, hi, e, h1, _⟩ | ⟨e, _⟩
      · exact .inr ⟨i, e, hi, by unfold noneThere at h1; simpa using h1, h.1, h.2⟩
      · exact .inl e
    · exact .inl rfl
  have n2 : nI2 g l = -1 ∨ ∃ i : Nat, nI2 g l = i ∧ Goes g (isOld g) l i ∧ cnt (isNew g) l < g.t ∧ g.bl = false := by
    unfold nI2
    split
    · rename_i h
      rcases goes_spec g (isOld g) l with ⟨i, e, hg⟩ | ⟨e, _⟩
      · exact .inr ⟨i, e, hg, h.1, h.2⟩
      · exact .inl e
    · exact .inl rfl
  have n3 : nI3 g l = -1 ∨ ∃ i : Nat, nI3 g l = i ∧ Goes g (isOld g) l i ∧ g.d < cnt (isNew g) l + cnt (isOld g) l := by
    unfold nI3
    split
    · rename_i h
      rcases goes_spec g (isOld g) l with ⟨i, e, hg⟩ | ⟨e, _⟩
      · exact .inr ⟨i, e, hg, h.1⟩
      · exact .inl e
    · exact .inl rfl
  have n4 : nI4 g l = -1 ∨ ∃ i : Nat, nI4 g l = i ∧ Goes g (isNew g) l i ∧ g.t < cnt (isNew g) l := by
    unfold nI4
    split
    · rename_i h
      rcases goes_spec g (isNew g) l with ⟨i, e, hg⟩ | ⟨e, _⟩
      · exact .inr ⟨i, e, hg, h⟩
      · exact .inl e
    · exact .inl rfl
  rcases n1 with e1 | ⟨i, e1, hi, hn, ht, hh⟩
  · rw [if_neg (by omega)]
    rcases n2 with e2 | ⟨i, e2, hg, ht, hb⟩
    · rw [if_neg (by omega)]
      rcases n3 with e3 | ⟨i, e3, hg, ht⟩
      · rw [if_neg (by omega)]
        rcases n4 with e4 | ⟨i, e4, hg, ht⟩
        · rw [if_neg (by omega)]
          exact .no e1 e2 e3 e4
        · rw [if_pos (by omega), e4]
          exact .less i hg ht
      · rw [if_pos (by omega), e3]
        exact .stop i hg ht
    · rw [if_pos (by omega), e2]
      exact .turn i hg ht hb
  · rw [if_pos (by omega), e1]
    exact .start i hi hn ht hh
/-- A unit is another. -/
theorem cnt_set (p : S35 → Bool) (l : List S35) (i : Nat) (hi : i < l.length) (u : S35) : cnt p (l.set i u) = cnt p l - (if p (at_ l i) = true then 1 else 0) + (if p u = true then 1 else 0) := by
  unfold cnt
  rw [List.countP_set hi, at_get hi]
  have : p l[i] = true → 1 ≤ l.countP p := fun h => List.one_le_countP_iff.2 ⟨_, List.getElem_mem hi, h⟩
  by_cases h : p l[i] = true
  · have h1 := this h
    by_cases h2 : p u = true
    · rw [if_pos h, if_pos h, if_pos h2, if_pos h2]; omega
    · rw [if_pos h, if_pos h, if_neg h2, if_neg h2]; omega
  · by_cases h2 : p u = true
    · rw [if_neg h, if_neg h, if_pos h2, if_pos h2]; omega
    · rw [if_neg h, if_neg h, if_neg h2, if_neg h2]; omega
theorem cnt_le {p q : S35 → Bool} {l : List S35} (h : ∀ u, u ∈ l → p u = true → q u = true) : cnt p l ≤ cnt q l := by
  unfold cnt
  have := List.countP_mono_left (p := p) (q := q) (l := l) h
  omega
theorem cnt_some {p : S35 → Bool} {l : List S35} (h : 0 < cnt p l) : ∃ j, j < l.length ∧ p (at_ l j) = true := by
  unfold cnt at h
  obtain ⟨a, ha, hp⟩ := List.countP_pos_iff.1 (show 0 < l.countP p by omega)
  obtain ⟨j, hj, rfl⟩ := List.mem_iff_getElem.1 ha
  exact ⟨j, hj, by rw [at_get hj]; exact hp⟩
theorem cnt_none {p : S35 → Bool} {l : List S35} (h : ∀ j, j < l.length → p (at_ l j) = false) : cnt p l = 0 := by
  rcases Int.lt_or_le 0 (cnt p l) with h1 | h1
  · obtain ⟨j, hj, hp⟩ := cnt_some h1
    rw [h j hj] at hp
    cases hp
  · have := cnt_bound p l
    omega
theorem cnt_all {p : S35 → Bool} {l : List S35} (h : ∀ j, j < l.length → p (at_ l j) = true) : cnt p l = l.length := by
  unfold cnt
  have := (List.countP_eq_length (p := p) (l := l)).2 (fun a ha => by
    obtain ⟨j, hj, rfl⟩ := List.mem_iff_getElem.1 ha
    have := h j hj
    rwa [at_get hj] at this)
  omega
/-! ### PlanRow -/
theorem row_law {g : Gl} {l : List S35} {i v : Int} (h : nextV g l = ⟨i, v, true⟩) (h0 : ∀ j, j < l.length → 0 ≤ (at_ l j).f0) :
    ∃ k : Nat, i = k ∧ k < l.length ∧ ((isOld g (at_ l k) = false ∧ ((v = g.nw ∧ (at_ l k).f0 = 0 ∧ (at_ l k).f2 = true) ∨ (v = 0 ∧ (at_ l k).f0 = g.nw ∧ 0 < g.nw))) ∨
      (isOld g (at_ l k) = true ∧ ∀ j, j < l.length → isOld g (at_ l j) = true → (at_ l j).f2 = false → (at_ l k).f2 = false ∧ ¬ j < k)) := by
  have hs := next_spec g l
  rw [h] at hs
  cases hs with
  | start k hi hn ht hh =>
    refine ⟨k, rfl, hi, .inl ?_⟩
    have := h0 k hi
    unfold isThere at hn
    simp at hn
    refine ⟨?_, .inl ⟨rfl, by omega, hn.2⟩⟩
    unfold isOld
    simp
    omega
  | turn k hg ht hb =>
    refine ⟨k, rfl, hg.lt, .inr ⟨hg.is, fun j hj ho hf => ?_⟩⟩
    rcases hg.how with ⟨h1, h2⟩ | ⟨h1, h2, _⟩
    · refine ⟨h1, fun hjk => ?_⟩
      have := h2 j hjk
      unfold pend at this
      simp [ho, hf] at this
    · have := h2 j hj
      unfold pend at this
      simp [ho, hf] at this
  | stop k hg ht =>
    refine ⟨k, rfl, hg.lt, .inr ⟨hg.is, fun j hj ho hf => ?_⟩⟩
    rcases hg.how with ⟨h1, h2⟩ | ⟨h1, h2, _⟩
    · refine ⟨h1, fun hjk => ?_⟩
      have := h2 j hjk
      unfold pend at this
      simp [ho, hf] at this
    · have := h2 j hj
      unfold pend at this
      simp [ho, hf] at this
  | less k hg ht =>
    refine ⟨k, rfl, hg.lt, .inl ?_⟩
    have := hg.is
    unfold isNew at this
    simp at this
    refine ⟨?_, .inr ⟨rfl, this.2, by omega⟩⟩
    unfold isOld
    simp
    omega
/-! ### PlanSafe -/
/-- A unit told to be of another version, done or not. -/
def told (l : List S35) (i : Nat) (v s : Int) (b : Bool) : List S35 := l.set i ⟨v, s, b⟩
theorem safe_law {g : Gl} {l : List S35} {i v : Int} (h : nextV g l = ⟨i, v, true⟩) (h0 : ∀ j, j < l.length → 0 ≤ (at_ l j).f0) (hto : 0 ≤ g.nw) (ht0 : 0 < g.t → 0 < g.nw) :
    ∃ k : Nat, i = k ∧ k < l.length ∧ (v = 0 ∨ v = g.nw) ∧ v ≠ (at_ l k).f0 ∧ ∀ s,
      (cnt isThere (told l k v s false) ≤ g.hi ∨ cnt isThere (told l k v s false) ≤ cnt isThere l) ∧ (g.lo ≤ cnt isUp (told l k v s false) ∨ cnt isUp l ≤ cnt isUp (told l k v s false)) ∧ cnt isThere l ≤ cnt isThere (told l k v s false) ∧ cnt isUp (told l k v s false) ≤ cnt isUp l := by
  have hs := next_spec g l
  rw [h] at hs
  have key : ∀ (p : S35 → Bool) (k : Nat) (v : Int), Goes g p l k → (∀ u, p u = true → 0 < u.f0) → ∀ s, 
      (cnt isThere (told l k v s false) ≤ g.hi ∨ cnt isThere (told l k v s false) ≤ cnt isThere l) ∧ (g.lo ≤ cnt isUp (told l k v s false) ∨ cnt isUp l ≤ cnt isUp (told l k v s false)) ∧ cnt isThere l ≤ cnt isThere (told l k v s false) ∧ cnt isUp (told l k v s false) ≤ cnt isUp l := by
    intro p k v hg hp s
    have hv := hp _ hg.is
    unfold told
    rw [cnt_set _ _ _ hg.lt, cnt_set _ _ _ hg.lt]
    have e1 : isThere (at_ l k) = true := by unfold isThere; simp [hv]
    have e2 : isThere ⟨v, s, false⟩ = true := by unfold isThere; simp
    have e3 : isUp ⟨v, s, false⟩ = false := by unfold isUp; simp
    rw [e1, e2, e3]
    simp only [if_true]
    rcases hg.how with ⟨h1, h2⟩ | ⟨h1, h2, h3, _⟩
    · have e4 : isUp (at_ l k) = false := by unfold isUp; simp [h1]
      rw [e4]
      simp only [Bool.false_eq_true, if_false]
      refine ⟨.inr ?_, .inr ?_, ?_, ?_⟩ <;> omega
    · have e4 : isUp (at_ l k) = true := by unfold isUp; simp [h1, hv]
      rw [e4]
      simp only [Bool.false_eq_true, if_false, if_true]
      refine ⟨.inr ?_, .inl ?_, ?_, ?_⟩ <;> omega
  cases hs with
  | start k hi hn ht hh =>
    have hn' := hn
    have := h0 k hi
    unfold isThere at hn
    simp at hn
    have hb := cnt_bound (isNew g) l
    have hpos := ht0 (by omega)
    refine ⟨k, rfl, hi, .inr rfl, by omega, fun s => ?_⟩
    unfold told
    rw [cnt_set _ _ _ hi, cnt_set _ _ _ hi, hn']
    have e2 : isThere ⟨g.nw, s, false⟩ = true := by unfold isThere; simp
    have e3 : isUp ⟨g.nw, s, false⟩ = false := by unfold isUp; simp
    have e4 : isUp (at_ l k) = false := by unfold isUp; simp; omega
    rw [e2, e3, e4]
    simp only [Bool.false_eq_true, if_false, if_true]
    refine ⟨.inl ?_, .inr ?_, ?_, ?_⟩ <;> omega
  | turn k hg ht hb =>
    have := hg.is
    unfold isOld at this
    simp at this
    exact ⟨k, rfl, hg.lt, .inr rfl, fun e => this.2 e.symm, key _ k _ hg (fun u hu => by unfold isOld at hu; simp at hu; exact hu.1)⟩
  | stop k hg ht =>
    have := hg.is
    unfold isOld at this
    simp at this
    exact ⟨k, rfl, hg.lt, .inl rfl, by omega, key _ k _ hg (fun u hu => by unfold isOld at hu; simp at hu; exact hu.1)⟩
  | less k hg ht =>
    have := hg.is
    unfold isNew at this
    simp at this
    exact ⟨k, rfl, hg.lt, .inl rfl, by omega, key _ k _ hg (fun u hu => by unfold isNew at hu; simp at hu; exact hu.1)⟩
theorem no_zero {g : Gl} {l : List S35} {i v : Int} (h : nextV g l = ⟨i, v, false⟩) : i = 0 ∧ v = 0 := by
  have hs := next_spec g l
  rw [h] at hs
  cases hs
  exact ⟨rfl, rfl⟩
end Go.Proofs.Ytloljhopccpeeaa.Pl
