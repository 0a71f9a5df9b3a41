/-
  Proved here: what batches of changes leave of a store's list: it rises, is short, and shows what was put. No condition.
-/
import Derived.Test.YtnmnojapacflgaaK4
namespace Go.Proofs.Ytnmnojapacflgaa.K14
open Go.Proofs.Ytnmnojapacflgaa.M Go.Proofs.Ytnmnojapacflgaa.K0 Go.RowKit Go.Maps Go.Sort Go.Proofs.YtnmnojapacflgaaW.PrintWords Go.Proofs.YtnmnojapacflgaaW.PrintLast Go.Proofs.YtnmnojapacflgaaW.PrintMore Go.Proofs.Ytnmnojapacflgaa.PKvPlays Go.Proofs.Ytnmnojapacflgaa.K1 Go.Proofs.Ytnmnojapacflgaa.K2 Go.Proofs.Ytnmnojapacflgaa.K3 Go.Proofs.Ytnmnojapacflgaa.K4
set_option linter.unusedVariables false
set_option linter.unusedSimpArgs false
structure Good (n rev : Int) (L : List S72) : Prop where
  rev0 : 0 ≤ rev
  revn : rev ≤ n
  len : L.length ≤ 64
  rise : Rise L
  lo : ∀ e ∈ L, 1 ≤ e.f2
  hi : ∀ e ∈ L, e.f2 ≤ rev
theorem Good.nil : Good 0 0 [] := ⟨by decide, by decide, by decide, List.Pairwise.nil, fun e h => by simp at h, fun e h => by simp at h⟩
theorem mem_of_get {L : List S72} {k v : ByteArray} {r : Int} (h : K0.get L k = some (v, r)) : (⟨k, v, r⟩ : S72) ∈ L := by
  unfold K0.get at h
  obtain ⟨x, hx, he⟩ := Option.map_eq_some_iff.1 h
  have h1 := List.find?_some hx
  have h2 := List.mem_of_find?_eq_some hx
  obtain ⟨a, b, c⟩ := x
  simp at h1 he
  obtain ⟨rfl, rfl⟩ := he
  subst h1
  exact h2
theorem get_none_of {L : List S72} {k : ByteArray} (h : K0.get L k = none) : ∀ e ∈ L, e.f0 ≠ k := fun e he hk => by
  have := get_mem he
  rw [hk, h] at this
  cases this
theorem look_some {L : List S72} {k v : ByteArray} {r : Int} (h : K0.get L k = some (v, r)) : K0.look L k = (v, r) := by unfold K0.look; rw [h]; rfl
theorem look_none {L : List S72} {k : ByteArray} (h : K0.get L k = none) : K0.look L k = (ze, 0) := by unfold K0.look; rw [h]; rfl
theorem get_of_zero {L : List S72} (hlo : ∀ e ∈ L, 1 ≤ e.f2) {k : ByteArray} (h : (K0.look L k).2 = 0) : K0.get L k = none := by
  cases hg : K0.get L k with
  | none => rfl
  | some p =>
    obtain ⟨v, r⟩ := p
    rw [look_some hg] at h
    have := hlo _ (mem_of_get hg)
    dsimp only at h this
    omega
theorem get_of_pos {L : List S72} {k : ByteArray} (h : (K0.look L k).2 ≠ 0) : (K0.get L k).isSome = true := by
  cases hg : K0.get L k with
  | none => rw [look_none hg] at h; exact absurd rfl h
  | some p => rfl
theorem del_none {L : List S72} {k : ByteArray} (h : ∀ e ∈ L, e.f0 ≠ k) : K0.del L k = L := by
  unfold K0.del
  rw [List.filter_eq_self]
  intro e he
  rw [decide_eq_false (h e he)]
  rfl
theorem del_some_len {k : ByteArray} : ∀ {L : List S72}, Rise L → (K0.get L k).isSome = true → (K0.del L k).length + 1 = L.length
  | [], _, h => by simp [get_nil] at h
  | x :: M, hr, h => by
    have hr' := List.pairwise_cons.1 hr
    rw [get_cons] at h
    by_cases e : x.f0 = k
    · have : K0.del (x :: M) k = K0.del M k := by unfold K0.del; rw [List.filter_cons_of_neg (by simp [e])]
      rw [this, del_none (fun y hy hk => (lt_ne (hr'.1 y hy)) (e.trans hk.symm))]
      rfl
    · rw [if_neg e] at h
      have : K0.del (x :: M) k = x :: K0.del M k := by unfold K0.del; rw [List.filter_cons_of_pos (by simp [e])]
      rw [this]
      have := del_some_len hr'.2 h
      simp only [List.length_cons]
      omega
theorem right_ne {k : ByteArray} : ∀ (l : List S53) (seen : List ByteArray), rightFrom seen l = true → inB k seen = true → ∀ x ∈ l, x.f0 ≠ k
  | [], _, _, _ => fun x hx => by simp at hx
  | e :: r, seen, h, hk => fun x hx => by
    unfold rightFrom at h
    simp only [Bool.and_eq_true] at h
    rcases List.mem_cons.1 hx with rfl | hx
    · intro e2
      rw [e2, hk] at h
      simp at h
    · exact right_ne r (seen ++ [e.f0]) h.2 (by rw [inB_snoc, hk]; rfl) x hx
theorem Rise.op {L : List S72} (h : Rise L) (r : Int) (e : S53) : Rise (opL r L e) := by
  unfold opL
  split
  · exact h.del _
  · exact (h.del _).ins _ (by rw [get_del]; exact if_pos rfl)
theorem get_op (r : Int) (L : List S72) (e : S53) (k : ByteArray) : K0.get (opL r L e) k = if k = e.f0 then (if e.f3 = true then none else some (e.f1, r)) else K0.get L k := by
  unfold opL
  split
  · rw [get_del]
  · rw [get_ins _ _ (by rw [get_del]; exact if_pos rfl), get_del]
    dsimp only
    split <;> rfl
theorem mem_op {r : Int} {L : List S72} {e : S53} {x : S72} (h : x ∈ opL r L e) : x.f2 = r ∨ x ∈ L := by
  unfold opL at h
  split at h
  · exact Or.inr (List.mem_filter.1 h).1
  · rcases (ins_mem _ _ _).1 h with rfl | h
    · exact Or.inl rfl
    · exact Or.inr (List.mem_filter.1 h).1
theorem mem_fold {r : Int} : ∀ (l : List S53) {L : List S72} {x : S72}, x ∈ l.foldl (opL r) L → x.f2 = r ∨ x ∈ L
  | [], _, _, h => Or.inr h
  | e :: l, L, x, h => by
    rcases mem_fold l (L := opL r L e) h with h | h
    · exact Or.inl h
    · exact mem_op h
theorem fold_rise {r : Int} : ∀ (l : List S53) {L : List S72}, Rise L → Rise (l.foldl (opL r) L)
  | [], _, h => h
  | e :: l, _, h => fold_rise l (Rise.op h r e)
theorem fold_other {r : Int} {k : ByteArray} : ∀ (l : List S53) {L : List S72}, (∀ e ∈ l, e.f0 ≠ k) → K0.get (l.foldl (opL r) L) k = K0.get L k
  | [], _, _ => rfl
  | e :: l, L, h => by
    have h1 := fold_other l (L := opL r L e) (r := r) (k := k) (fun x hx => h x (List.mem_cons_of_mem _ hx))
    rw [List.foldl_cons, h1, get_op, if_neg (fun e2 => h e (List.mem_cons_self ..) e2.symm)]
/-- What a batch that is not refused leaves. -/
theorem fold_law {L : List S72} (hlo : ∀ e ∈ L, 1 ≤ e.f2) (r : Int) : ∀ (l : List S53) (seen : List ByteArray) (M : List S72) (n : Int) (z : Bool), rightFrom seen l = true → (∀ e ∈ l, K0.get M e.f0 = K0.get L e.f0) → Rise M → (M.length : Int) = n → whyFrom L l n z = 0 →
    z = false ∧ (l.foldl (opL r) M).length ≤ 64 ∧ (∀ e ∈ l, K0.look (l.foldl (opL r) M) e.f0 = if e.f3 = true then (ze, 0) else (e.f1, r)) ∧ (∀ e ∈ l, 0 ≤ e.f2 → e.f2 = (K0.look L e.f0).2)
  | [], seen, M, n, z, _, _, hr, hn, hw => by
    rw [whyFrom_nil] at hw
    split at hw
    · cases hw
    · rename_i hz
      split at hw
      · cases hw
      · rename_i hz2
        simp at hz hz2
        exact ⟨hz, by simp only [List.foldl_nil]; omega, fun e h => by simp at h, fun e h => by simp at h⟩
  | e :: l, seen, M, n, z, hrt, hget, hr, hn, hw => by
    unfold rightFrom at hrt
    simp only [Bool.and_eq_true] at hrt
    obtain ⟨⟨_, hin⟩, hrt⟩ := hrt
    have hne := right_ne (k := e.f0) l _ hrt (by rw [inB_snoc]; simp)
    have hM1 : ∀ x ∈ l, K0.get (opL r M e) x.f0 = K0.get L x.f0 := fun x hx => by
      rw [get_op, if_neg (hne x hx)]
      exact hget x (List.mem_cons_of_mem _ hx)
    have hge := hget e (List.mem_cons_self ..)
    rw [whyFrom_cons] at hw
    have hfin : K0.look (l.foldl (opL r) (opL r M e)) e.f0 = if e.f3 = true then (ze, 0) else (e.f1, r) := by
      unfold K0.look
      rw [fold_other l hne, get_op, if_pos rfl]
      split <;> rfl
    have hput : ∀ {n1 : Int} {z1 : Bool}, ((opL r M e).length : Int) = n1 → whyFrom L l n1 z1 = 0 → (decide (0 ≤ e.f2) && e.f2 != (K0.look L e.f0).2) = false →
        z1 = false ∧ ((e :: l).foldl (opL r) M).length ≤ 64 ∧ (∀ x ∈ e :: l, K0.look ((e :: l).foldl (opL r) M) x.f0 = if x.f3 = true then (ze, 0) else (x.f1, r)) ∧ (∀ x ∈ e :: l, 0 ≤ x.f2 → x.f2 = (K0.look L x.f0).2) := by
      intro n1 z1 h1 h2 h3
      obtain ⟨g1, g2, g3, g4⟩ := fold_law hlo r l _ (opL r M e) n1 z1 hrt hM1 (Rise.op hr r e) h1 h2
      refine ⟨g1, g2, fun x hx => ?_, fun x hx h0 => ?_⟩
      · rcases List.mem_cons.1 hx with rfl | hx
        · exact hfin
        · exact g3 x hx
      · rcases List.mem_cons.1 hx with rfl | hx
        · simp only [Bool.and_eq_false_iff, decide_eq_false_iff_not, bne_eq_false_iff_eq] at h3
          rcases h3 with h3 | h3
          · exact absurd h0 h3
          · exact h3
        · exact g4 x hx h0
    split at hw
    · cases hw
    · rename_i h7
      have h7 : (decide (0 ≤ e.f2) && e.f2 != (K0.look L e.f0).2) = false := by simpa using h7
      split at hw
      · rename_i hd
        by_cases hz : ((K0.look L e.f0).2 == 0) = true
        · exfalso
          have hlen : whyFrom L l (n - 1) true = 0 := by rw [hz, Bool.or_true] at hw; exact hw
          exact absurd (nz l _ hlen) (by decide)
        · have hz' : (K0.look L e.f0).2 ≠ 0 := by simpa using hz
          have hs := get_of_pos hz'
          rw [← hge] at hs
          have hl := del_some_len hr hs
          have h1 : ((opL r M e).length : Int) = n - 1 := by unfold opL; rw [if_pos hd]; omega
          have hzf : ((K0.look L e.f0).2 == 0) = false := by simpa using hz
          rw [hzf, Bool.or_false] at hw
          exact hput h1 hw h7
      · rename_i hd
        have hlen : (opL r M e).length = (K0.del M e.f0).length + 1 := by unfold opL; rw [if_neg hd, ins_len]
        split at hw
        · rename_i h0
          have hn0 := get_of_zero hlo (by simpa using h0)
          rw [← hge] at hn0
          have : K0.del M e.f0 = M := del_none (get_none_of hn0)
          exact hput (by rw [hlen, this]; omega) hw h7
        · rename_i h0
          have hs := get_of_pos (L := L) (k := e.f0) (by simpa using h0)
          rw [← hge] at hs
          have hl := del_some_len hr hs
          exact hput (by rw [hlen]; omega) hw h7
where nz : ∀ (l : List S53) (n : Int), whyFrom L l n true = 0 → False
  | [], n, h => by rw [whyFrom_nil] at h; cases h
  | e :: l, n, h => by
    rw [whyFrom_cons] at h
    split at h
    · cases h
    · split at h
      · exact nz l _ (by simpa using h)
      · split at h
        · exact nz l _ h
        · exact nz l _ h
theorem do_err {rev : Int} {L : List S72} {l : List S53} (h : (doL rev L l).2.1 ≠ 0) : doL rev L l = (0, (doL rev L l).2.1, rev, L) := by
  by_cases hy : whyL L l = 0
  · unfold doL at h
    rw [if_pos hy] at h
    exact absurd rfl h
  · unfold doL
    rw [if_neg hy]
theorem do_ok {rev : Int} {L : List S72} {l : List S53} (h : (doL rev L l).2.1 = 0) : whyL L l = 0 ∧ doL rev L l = (rev + 1, 0, rev + 1, l.foldl (opL (rev + 1)) L) := by
  by_cases hy : whyL L l = 0
  · unfold doL
    rw [if_pos hy]
    exact ⟨hy, rfl⟩
  · unfold doL at h
    rw [if_neg hy] at h
    exact absurd h hy
theorem why_fold {L : List S72} {l : List S53} (h : whyL L l = 0) : rightFrom [] l = true ∧ whyFrom L l (L.length : Int) false = 0 := by
  have hr := why_right h
  unfold whyL at h
  rw [if_pos hr] at h
  unfold rightB at hr
  simp only [Bool.and_eq_true] at hr
  exact ⟨hr.1, h⟩
theorem do_good {n rev : Int} {L : List S72} (l : List S53) (g : Good n rev L) : Good (n + 1) (doL rev L l).2.2.1 (doL rev L l).2.2.2 := by
  obtain ⟨g1, g2, g3, g4, g5, g6⟩ := g
  by_cases h : (doL rev L l).2.1 = 0
  · obtain ⟨hy, he⟩ := do_ok h
    rw [he]
    obtain ⟨hr, hw⟩ := why_fold hy
    obtain ⟨_, f2, _, _⟩ := fold_law g5 (rev + 1) l [] L _ false hr (fun _ _ => rfl) g4 rfl hw
    refine ⟨by dsimp only; omega, by dsimp only; omega, f2, fold_rise l g4, fun e he => ?_, fun e he => ?_⟩
    · rcases mem_fold l he with h | h
      · omega
      · exact g5 e h
    · dsimp only
      rcases mem_fold l he with h | h
      · omega
      · have := g6 e h; omega
  · rw [do_err h]
    exact ⟨g1, by dsimp only; omega, g3, g4, g5, g6⟩
theorem do_look {n rev : Int} {L : List S72} (l : List S53) (g : Good n rev L) (h : (doL rev L l).2.1 = 0) : ∀ e ∈ l, K0.look (doL rev L l).2.2.2 e.f0 = if e.f3 = true then (ze, 0) else (e.f1, rev + 1) := by
  obtain ⟨hy, he⟩ := do_ok h
  rw [he]
  obtain ⟨hr, hw⟩ := why_fold hy
  exact (fold_law g.lo (rev + 1) l [] L _ false hr (fun _ _ => rfl) g.rise rfl hw).2.2.1
theorem look_hi {n rev : Int} {L : List S72} (g : Good n rev L) (k : ByteArray) : (K0.look L k).2 ≤ rev := by
  cases hg : K0.get L k with
  | none => rw [look_none hg]; exact g.rev0
  | some p => rw [look_some hg]; exact g.hi _ (mem_of_get hg)
/-- A batch that puts something at a revision named is not taken twice. -/
theorem do_again {n rev : Int} {L : List S72} (l : List S53) (g : Good n rev L) (h : (doL rev L l).2.1 = 0) {e : S53} (he : e ∈ l) (h0 : 0 ≤ e.f2) (hd : e.f3 = false) : (doL (rev + 1) (doL rev L l).2.2.2 l).2.1 ≠ 0 := by
  have g1 := do_good l g
  have hl := do_look l g h e he
  rw [if_neg (by rw [hd]; decide)] at hl
  obtain ⟨hy, hee⟩ := do_ok h
  obtain ⟨hr, hw⟩ := why_fold hy
  have hf := (fold_law g.lo (rev + 1) l [] L _ false hr (fun _ _ => rfl) g.rise rfl hw).2.2.2 e he h0
  intro h2
  obtain ⟨hy2, _⟩ := do_ok h2
  obtain ⟨hr2, hw2⟩ := why_fold hy2
  have hf2 := (fold_law g1.lo (rev + 2) l [] _ _ false hr2 (fun _ _ => rfl) g1.rise rfl hw2).2.2.2 e he h0
  rw [hl] at hf2
  have := look_hi g e.f0
  dsimp only at hf2
  omega
end Go.Proofs.Ytnmnojapacflgaa.K14
