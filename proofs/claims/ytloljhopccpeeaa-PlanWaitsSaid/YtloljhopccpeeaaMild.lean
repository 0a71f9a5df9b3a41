/-
  Proved here: a region that draws its order, whose operations read, call what only makes memory, and at last make a block and store into it: one walk in the text's order serves every order. No condition but what a Bool over the region says.
-/
import Derived.StillTail
import Derived.Lib.QuietBelow
import Derived.MapKept
import Derived.Test.YtloljhopccpeeaaWLast
import Derived.Test.YtloljhopccpeeaaWMore
namespace Go.Proofs.Ytloljhopccpeeaa.Mild
open Go.Sort Go.RowKit Go.Proofs.YtloljhopccpeeaaW.PrintWords Go.Proofs.YtloljhopccpeeaaW.PrintLast Go.Proofs.YtloljhopccpeeaaW.PrintMore
set_option linter.unusedVariables false

section
variable {P : Program} {ops : Array Oper} {md : Region.Mode} {w0 : World} {p : Nat} {Lq : Act → Prop}

/-- What was there is as it was. -/
def Over (w w' : World) : Prop := Below w.heap.size w w'
/-- One value in every world over w0; a call leaves a world over the one that it got. -/
def mildAt (P : Program) (w0 : World) (o : Oper) (a : Act) (v : Value) : Prop := ∀ d os, o.quietAt P a (fun w'' => Over (grow (redrawn w0 d) os) w'') (grow (redrawn w0 d) os) v
theorem mildAt.of_below {o : Oper} {a : Act} {v : Value} (h : mildAt P w0 o a v) {w : World} (hb : Below w0.heap.size w0 w) : o.quietAt P a (fun w'' => Below w.heap.size w w'') w v := by
  obtain ⟨q, rfl⟩ := regrown_of_below hb
  exact h q.d q.os
def mild (P : Program) (w0 : World) (o : Oper) (a : Act) (K : Act → Prop) : Prop := ∃ v, mildAt P w0 o a v ∧ K (a.put o.dst v)
/-- The walk in the text's order. -/
def wpMild (P : Program) (ops : Array Oper) (w0 : World) (Q : Act → Prop) : List Oper → Act → Prop
  | [], a => Q a
  | o :: rest, a => if Region.wanted o (yielded ops a.tmps) then mild P w0 o a (wpMild P ops w0 Q rest) else wpMild P ops w0 Q rest (a.put o.dst undef)
theorem wpMild_nil {Q : Act → Prop} {a : Act} (h : Q a) : wpMild P ops w0 Q [] a := h
theorem wpMild_step {Q : Act → Prop} {a : Act} {o : Oper} {rest : List Oper}
    (h : ∀ K : Act → Prop, (∀ a, wpMild P ops w0 Q rest a → K a) → if Region.wanted o (yielded ops a.tmps) then mild P w0 o a K else K (a.put o.dst undef)) : wpMild P ops w0 Q (o :: rest) a := h _ (fun _ h => h)

/-- The walk, so that no unifier looks into it. -/
structure WM (P : Program) (ops : Array Oper) (w0 : World) (Q : Act → Prop) (l : List Oper) (a : Act) : Prop where mk :: (out : wpMild P ops w0 Q l a)
theorem WM_nil {Q : Act → Prop} {a : Act} (h : Q a) : WM P ops w0 Q [] a := ⟨h⟩
theorem WM_step {Q : Act → Prop} {a : Act} {o : Oper} {rest : List Oper}
    (h : ∀ K : Act → Prop, (∀ a, WM P ops w0 Q rest a → K a) → if Region.wanted o (yielded ops a.tmps) then mild P w0 o a K else K (a.put o.dst undef)) : WM P ops w0 Q (o :: rest) a := ⟨h _ (fun _ h => h.out)⟩

/-- Operation i comes up. -/
def mOp (P : Program) (ops : Array Oper) (w0 : World) (i : Nat) (K : Act → Prop) (a : Act) : Prop :=
  ∀ o, ops[i]? = some o → if Region.wanted o (yielded ops a.tmps) then mild P w0 o a K else K (a.put o.dst undef)
theorem mOp_mono {i : Nat} {a : Act} {K K' : Act → Prop} (h : ∀ a, K a → K' a) (hh : mOp P ops w0 i K a) : mOp P ops w0 i K' a := by
  intro o ho
  have := hh o ho
  split at this
  · rename_i hw
    rw [if_pos hw]
    obtain ⟨v, h1, h2⟩ := this
    exact ⟨v, h1, h _ h2⟩
  · rename_i hw
    rw [if_neg hw]
    exact h _ this
def Yields' (P : Program) (ops : Array Oper) (w0 : World) (o : Oper) (v : Value) (a : Act) : Prop :=
  (Region.wanted o (yielded ops a.tmps) = true ∧ mildAt P w0 o a v) ∨ (Region.wanted o (yielded ops a.tmps) = false ∧ v = undef)
theorem Yields'.mOp {i : Nat} {o : Oper} {v : Value} {a : Act} (hi : ops[i]? = some o) (hy : Yields' P ops w0 o v a) {K : Act → Prop} (h : K (a.put o.dst v)) : mOp P ops w0 i K a := by
  intro o' ho'
  obtain rfl : o = o' := Option.some.inj (hi.symm.trans ho')
  rcases hy with ⟨hw, hv⟩ | ⟨hw, rfl⟩
  · rw [if_pos hw]
    exact ⟨v, hv, h⟩
  · rw [if_neg (by rw [hw]; exact Bool.false_ne_true)]
    exact h
theorem Yields'.same {o : Oper} {v : Value} {a a' : Act} (hy : Yields' P ops w0 o v a) (he : execOp a'.eval o = execOp a.eval o) (hw : Region.wanted o (yielded ops a'.tmps) = Region.wanted o (yielded ops a.tmps)) : Yields' P ops w0 o v a' := by
  unfold Yields' mildAt Oper.quietAt at *
  rw [he, hw]
  exact hy
theorem yields_of_mOp {i : Nat} {o : Oper} {a : Act} {K : Act → Prop} (hi : ops[i]? = some o) (h : mOp P ops w0 i K a) : ∃ v, Yields' P ops w0 o v a ∧ K (a.put o.dst v) := by
  have := h o hi
  split at this
  · rename_i hw
    obtain ⟨v, h1, h2⟩ := this
    exact ⟨v, .inl ⟨hw, h1⟩, h2⟩
  · rename_i hw
    exact ⟨undef, .inr ⟨by simpa using hw, rfl⟩, this⟩
theorem mOp_put {j : Nat} {oi oj : Oper} {v : Value} (hj : ops[j]? = some oj) (hap : oi.apart ops oj = true) (hsi : ∀ cs b, oi.op ≠ .select cs b) (hsj : ∀ cs b, oj.op ≠ .select cs b)
    {K : Act → Prop} {a : Act} (hy : Yields' P ops w0 oi v a) (h : mOp P ops w0 j K (a.put oi.dst v)) : mOp P ops w0 j (fun a' => Yields' P ops w0 oi v a' ∧ K (a'.put oi.dst v)) a := by
  obtain ⟨h1, h2, h3⟩ := Oper.apart_spec hap
  have keep : ∀ u, Yields' P ops w0 oi v (a.put oj.dst u) := fun u => hy.same (execOp_put oi hsi a oj.dst u h3) (wanted_put oi a oj.dst u h3)
  obtain ⟨u, hu, hK⟩ := yields_of_mOp hj h
  refine Yields'.mOp hj (v := u) ?_ ⟨keep u, by rw [← Act.put_comm a v u h2]; exact hK⟩
  exact hu.same (execOp_put oj hsj a oi.dst v h1).symm (wanted_put oj a oi.dst v h1).symm

/-- Whatever order of the operations below p is picked. -/
def wpFl (P : Program) (md : Region.Mode) (ops : Array Oper) (w0 : World) (p : Nat) (Lq : Act → Prop) : Nat → Array Bool → Act → Prop
  | 0, listed, a => (∀ i, i < p → listed.getD i true = true) ∧ Lq a
  | f + 1, listed, a => Region.ready md ops listed ≠ [] ∧ ∀ i ∈ Region.ready md ops listed, i < p ∧ mOp P ops w0 i (wpFl P md ops w0 p Lq f (listed.setIfInBounds i true)) a

theorem getD_alike {listed : Array Bool} {i : Nat} (hi : i < listed.size) (b b' : Bool) : listed.getD i b = listed.getD i b' := by simp [hi]
theorem ready_lt {listed : Array Bool} (hs : ops.size = p + 2) (hz : listed.size = p + 2) (hp : listed.getD p true = true) (hw : ∀ i, i ≤ p → Region.waitsFor md ops (p + 1) i = true) {i : Nat} (hi : i < p) (hun : listed.getD i true = false) :
    ∀ j ∈ Region.ready md ops listed, j < p := by
  intro j hj
  obtain ⟨h0, o, ho, hall⟩ := mem_ready.1 hj
  have hlt : j < p + 2 := by rw [← hs]; exact (Array.getElem?_eq_some_iff.1 ho).1
  rcases Nat.lt_or_ge j p with h | h
  · exact h
  · by_cases e : j = p
    · subst e
      rw [hp] at h0
      cases h0
    · have e1 : j = p + 1 := by omega
      subst e1
      obtain ⟨o', ho', e', he', hb, hon⟩ := Region.waitsFor_spec (hw i (by omega))
      obtain rfl : o = o' := Option.some.inj (ho.symm.trans ho')
      have h2 := hall e' he' hb
      rw [hon, getD_alike (by omega) false true, hun] at h2
      cases h2

theorem wpFl_first {i : Nat} {oi : Oper} {v : Value} (hs : ops.size = p + 2) (hw : ∀ i, i ≤ p → Region.waitsFor md ops (p + 1) i = true) (hi : ops[i]? = some oi) (hsel : ∀ (j : Nat) (o : Oper) cs b, ops[j]? = some o → o.op ≠ .select cs b) (hip : i < p) :
    ∀ (f : Nat) (listed : Array Bool) (a : Act), listed.size = p + 2 → listed.getD p true = true →
      (∀ j oj, ops[j]? = some oj → j ≠ i → listed.getD j true = false → (∀ e ∈ oj.after, Region.binds md e = true → e.on ≠ i) → oi.apart ops oj = true) →
      i ∈ Region.ready md ops listed → Yields' P ops w0 oi v a → wpFl P md ops w0 p Lq f (listed.setIfInBounds i true) (a.put oi.dst v) → wpFl P md ops w0 p Lq (f + 1) listed a := by
  intro f
  induction f with
  | zero =>
    intro listed a hz hp _ hr hy H
    have hun := (mem_ready.1 hr).1
    refine ⟨fun h => (by rw [h] at hr; cases hr), fun j hj => ?_⟩
    have hjp := ready_lt hs hz hp hw hip hun j hj
    refine ⟨hjp, ?_⟩
    by_cases hji : j = i
    · subst hji; exact hy.mOp hi H
    · have h1 := H.1 j hjp
      rw [getD_set_ne true (Ne.symm hji)] at h1
      rw [(mem_ready.1 hj).1] at h1
      cases h1
  | succ f ih =>
    intro listed a hz hp hfree hr hy H
    have hun := (mem_ready.1 hr).1
    refine ⟨fun h => (by rw [h] at hr; cases hr), fun j hj => ?_⟩
    have hjp := ready_lt hs hz hp hw hip hun j hj
    refine ⟨hjp, ?_⟩
    by_cases hji : j = i
    · subst hji; exact hy.mOp hi H
    · have h1 := (H.2 j (ready_mono hj hji)).2
      obtain ⟨hjun, oj, hoj, hall⟩ := mem_ready.1 hj
      have hnot : ∀ e ∈ oj.after, Region.binds md e = true → e.on ≠ i := fun e he hb heq => by
        have h1 := hall e he hb
        rw [heq, getD_both hun] at h1
        cases h1
      have h2 := mOp_put hoj (hfree j oj hoj hji hjun hnot) (fun cs b => hsel i oi cs b hi) (fun cs b => hsel j oj cs b hoj) hy h1
      refine mOp_mono (fun a' h3 => ih (listed.setIfInBounds j true) a' (by simp [hz]) (by rw [getD_set_ne true (by omega)]; exact hp) ?_ (ready_mono hr (Ne.symm hji)) h3.1 ?_) h2
      · intro k ok hk hki hunk hno
        refine hfree k ok hk hki ?_ hno
        by_cases hjk : j = k
        · subst hjk; exact hjun
        · rw [getD_set_ne true hjk] at hunk; exact hunk
      · rw [Array.setIfInBounds_comm _ _ hji]
        exact h3.2

/-- The text's order, the block's making set aside. -/
def lexHd (md : Region.Mode) (ops : Array Oper) : Nat → Nat → Array Bool → Bool
  | 0, _, _ => true
  | f + 1, k, listed => (Region.ready md ops listed).contains k && Region.free md ops listed k && lexHd md ops f (k + 1) (listed.setIfInBounds k true)

theorem wpFl_lex (hs : ops.size = p + 2) (hw : ∀ i, i ≤ p → Region.waitsFor md ops (p + 1) i = true) (hsel : Region.noSelect ops = true) :
    ∀ (l : List Oper) (k : Nat) (listed : Array Bool) (a : Act), (∀ j, j < l.length → l[j]? = ops[k + j]?) → k + l.length = p → listed.size = p + 2 → listed.getD p true = true → (∀ i, i < k → listed.getD i true = true) →
    lexHd md ops l.length k listed = true → wpMild P ops w0 Lq l a → wpFl P md ops w0 p Lq l.length listed a
  | [], k, listed, a, _, hk, hz, hp, hdone, _, h => by
    have : k = p := by simpa using hk
    subst this
    exact ⟨hdone, h⟩
  | o :: l, k, listed, a, hl, hk, hz, hp, hdone, hB, h => by
    have h0 : ops[k]? = some o := by simpa using (hl 0 (by simp)).symm
    simp only [List.length_cons, lexHd, Bool.and_eq_true] at hB
    obtain ⟨⟨hr, hf⟩, hB'⟩ := hB
    have hkp : k < p := by simp only [List.length_cons] at hk; omega
    have hr' : k ∈ Region.ready md ops listed := by simpa using hr
    have hst : mOp P ops w0 k (wpMild P ops w0 Lq l) a := by
      intro o' ho'
      obtain rfl : o = o' := Option.some.inj (h0.symm.trans ho')
      exact h
    obtain ⟨v, hy, hK⟩ := yields_of_mOp h0 hst
    refine wpFl_first hs hw h0 (Region.noSelect_spec hsel) hkp l.length listed a hz hp (Region.free_spec h0 hf) hr' hy ?_
    refine wpFl_lex hs hw hsel l (k + 1) _ _ (fun j hj => by have := hl (j + 1) (by simp; omega); simpa [Nat.add_assoc, Nat.add_comm 1 j] using this) (by simp only [List.length_cons] at hk; omega) (by simp [hz]) (by rw [getD_set_ne true (by omega)]; exact hp) ?_ hB' hK
    intro i hi
    by_cases e : k = i
    · subst e
      rw [getD_alike (by simp; omega) true false]
      simp
      omega
    · rw [getD_set_ne true e]
      exact hdone i (by omega)

/-- An operation in a frame in which the block's place stands already. -/
theorem wpOp_put {j : Nat} {oal oj : Oper} {v : Value} {Q' : Exit → Act → World → Prop} (hj : ops[j]? = some oj) (hap : oal.apart ops oj = true) (hsj : ∀ cs b, oj.op ≠ .select cs b) {K : Act → Prop} {a : Act} {w : World} (hb : Below w0.heap.size w0 w) (h : mOp P ops w0 j K a) :
    wpOp P ops Q' j (fun A w' => ∃ a', A = a'.put oal.dst v ∧ Below w.heap.size w w' ∧ K a') (a.put oal.dst v) w := by
  obtain ⟨h1, h2, h3⟩ := Oper.apart_spec hap
  have h := h oj hj
  unfold wpOp
  simp only [hj]
  rw [wanted_put oj a oal.dst v h1]
  split at h
  · rename_i hw
    rw [if_pos hw]
    refine .inl ?_
    obtain ⟨u, hu, hK⟩ := h
    have h4 := hu.of_below hb
    unfold Oper.quietAt at h4
    unfold Oper.wp
    rw [execOp_put oj hsj a oal.dst v h1]
    generalize (execOp a.eval oj).run P w = r at *
    have fin : ∃ a', (a.put oal.dst v).put oj.dst u = a'.put oal.dst v ∧ K a' := ⟨a.put oj.dst u, Act.put_comm a v u h2, hK⟩
    obtain ⟨a', e', hK'⟩ := fin
    cases r with
    | ok n w' =>
      cases n <;> simp only [Oper.quietUpon] at h4 <;> simp only [Oper.upon]
      case value x =>
        obtain ⟨e1, e2⟩ := h4
        rw [e1, e2]
        exact ⟨a', e', Below.refl _ _, hK'⟩
      case skip =>
        obtain ⟨e1, e2⟩ := h4
        rw [e1, ← e2]
        exact ⟨a', e', Below.refl _ _, hK'⟩
      case enter f args =>
        obtain ⟨e1, hc⟩ := h4
        rw [e1]
        exact hc.mono fun e w'' ⟨he, hw''⟩ => by subst he; exact ⟨a', e', hw'', hK'⟩
    | halt x w' => simp only [Oper.quietUpon] at h4
  · rename_i hw
    rw [if_neg hw]
    exact ⟨a.put oj.dst undef, Act.put_comm a v undef h2, Below.refl _ _, h⟩
theorem wpOp_plain {j : Nat} {oj : Oper} {Q' : Exit → Act → World → Prop} (hj : ops[j]? = some oj) {K : Act → Prop} {a : Act} {w : World} (hb : Below w0.heap.size w0 w) (h : mOp P ops w0 j K a) :
    wpOp P ops Q' j (fun A w' => Below w.heap.size w w' ∧ K A) a w := by
  have h := h oj hj
  unfold wpOp
  simp only [hj]
  split at h
  · rename_i hw
    rw [if_pos hw]
    refine .inl ?_
    obtain ⟨u, hu, hK⟩ := h
    have h4 := hu.of_below hb
    unfold Oper.quietAt at h4
    unfold Oper.wp
    generalize (execOp a.eval oj).run P w = r at *
    cases r with
    | ok n w' =>
      cases n <;> simp only [Oper.quietUpon] at h4 <;> simp only [Oper.upon]
      case value x =>
        obtain ⟨e1, e2⟩ := h4
        rw [e1, e2]
        exact ⟨Below.refl _ _, hK⟩
      case skip =>
        obtain ⟨e1, e2⟩ := h4
        rw [e1, ← e2]
        exact ⟨Below.refl _ _, hK⟩
      case enter f args =>
        obtain ⟨e1, hc⟩ := h4
        rw [e1]
        exact hc.mono fun e w'' ⟨he, hw''⟩ => by subst he; exact ⟨hw'', hK⟩
    | halt x w' => simp only [Oper.quietUpon] at h4
  · rename_i hw
    rw [if_neg hw]
    exact ⟨Below.refl _ _, h⟩

/-- All but the store have come up. -/
def canon (p : Nat) : Array Bool := (Array.replicate (p + 1) true).push false
theorem eq_canon {listed : Array Bool} (hz : listed.size = p + 2) (hd : ∀ i, i ≤ p → listed.getD i true = true) (hl : listed.getD (p + 1) true = false) : listed = canon p := by
  apply Array.ext
  · simp [canon, hz]
  · intro i h1 h2
    have e : listed[i] = listed.getD i true := by simp [h1]
    rw [e]
    by_cases hi : i ≤ p
    · rw [hd i hi]
      simp [canon, Array.getElem_push, show i < p + 1 by omega]
    · have : i = p + 1 := by omega
      subst this
      rw [hl]
      simp only [canon]
      rw [Array.getElem_push, dif_neg (by simp)]

variable {Q' : Exit → Act → World → Prop} {oal ost : Oper} {obj : Obj}
theorem made_phase (hs : ops.size = p + 2) (hap : ∀ j oj, j < p → ops[j]? = some oj → oal.apart ops oj = true) (hsel : ∀ (j : Nat) (o : Oper) cs b, ops[j]? = some o → o.op ≠ .select cs b) (hst : ops[p + 1]? = some ost)
    (hfin : Region.seqB md ops 1 (p + 1) (canon p) = true)
    (hT : ∀ a g w, Lq a → Below w0.heap.size w0 w → w0.heap.size ≤ g → w.heap[g]? = some obj → wpList P ops Q' [ost] (a.put oal.dst (.pointer (some ⟨g, 0, none⟩))) w) :
    ∀ (f : Nat) (listed : Array Bool) (a : Act) (w : World) (g : Nat), listed.size = p + 2 → listed.getD p true = true → listed.getD (p + 1) true = false → Below w0.heap.size w0 w → w0.heap.size ≤ g → w.heap[g]? = some obj →
      wpFl P md ops w0 p Lq f listed a → wpAny P md ops Q' (f + 1) listed (a.put oal.dst (.pointer (some ⟨g, 0, none⟩))) w
  | 0, listed, a, w, g, hz, hp, hl, hb, hg, hw, h => by
    have e : listed = canon p := eq_canon hz (fun i hi => by
      rcases Nat.lt_or_ge i p with h' | h'
      · exact h.1 i h'
      · obtain rfl : i = p := by omega
        exact hp) hl
    subst e
    exact wpAny_of_seq [ost] (p + 1) _ _ _ (fun j => by
      cases j with
      | zero => simp [hst]
      | succ j => (rw [show p + 1 + (j + 1) = p + 2 + j by omega]; simp; omega)) hfin (hT a g w h.2 hb hg hw)
  | f + 1, listed, a, w, g, hz, hp, hl, hb, hg, hw, h => by
    refine ⟨fun h0 => absurd h0 h.1, fun i hi => ?_⟩
    obtain ⟨hip, hm⟩ := h.2 i hi
    obtain ⟨_, oi, hoi, _⟩ := mem_ready.1 hi
    refine wpOp_mono ?_ (wpOp_put (oal := oal) (v := .pointer (some ⟨g, 0, none⟩)) hoi (hap i oi hip hoi) (fun cs b => hsel i oi cs b hoi) hb hm)
    rintro A w' ⟨a', rfl, hb', hK⟩
    have hlt : g < w.heap.size := (Array.getElem?_eq_some_iff.1 hw).1
    exact made_phase hs hap hsel hst hfin hT f _ a' w' g (by simp [hz]) (by rw [getD_set_ne true (by omega)]; exact hp) (by rw [getD_set_ne true (by omega)]; exact hl) (below_step hb hb') hg ((hb'.block g hlt).trans hw) hK

theorem free_phase (hs : ops.size = p + 2) (hw : ∀ i, i ≤ p → Region.waitsFor md ops (p + 1) i = true) (hap : ∀ j oj, j < p → ops[j]? = some oj → oal.apart ops oj = true) (hsel : ∀ (j : Nat) (o : Oper) cs b, ops[j]? = some o → o.op ≠ .select cs b)
    (hst : ops[p + 1]? = some ost) (hal : ops[p]? = some oal) (hafter : oal.after = #[]) (hfin : Region.seqB md ops 1 (p + 1) (canon p) = true)
    (hA : ∀ (K : Act → World → Prop) a w, K (a.put oal.dst (.pointer (some ⟨w.heap.size, 0, none⟩))) (w.alloc obj) → wpOp P ops Q' p K a w)
    (hT : ∀ a g w, Lq a → Below w0.heap.size w0 w → w0.heap.size ≤ g → w.heap[g]? = some obj → wpList P ops Q' [ost] (a.put oal.dst (.pointer (some ⟨g, 0, none⟩))) w) :
    ∀ (f : Nat) (listed : Array Bool) (a : Act) (w : World), listed.size = p + 2 → listed.getD p true = false → listed.getD (p + 1) true = false → Below w0.heap.size w0 w →
      wpFl P md ops w0 p Lq f (listed.setIfInBounds p true) a → wpAny P md ops Q' (f + 2) listed a w := by
  intro f
  induction f with
  | zero =>
    intro listed a w hz hp hl hb h
    have hpr : p ∈ Region.ready md ops listed := mem_ready.2 ⟨hp, oal, hal, fun e he => by rw [hafter] at he; exact absurd he (by simp)⟩
    refine ⟨fun h0 => (by rw [h0] at hpr; cases hpr), fun i hi => ?_⟩
    have hip : i = p := by
      obtain ⟨hun, oi, hoi, hall⟩ := mem_ready.1 hi
      have hlt : i < p + 2 := by rw [← hs]; exact (Array.getElem?_eq_some_iff.1 hoi).1
      rcases Nat.lt_or_ge i p with h' | h'
      · have := h.1 i h'
        rw [getD_set_ne true (by omega), hun] at this
        cases this
      · by_cases e : i = p
        · exact e
        · obtain rfl : i = p + 1 := by omega
          obtain ⟨o', ho', e', he', hbn, hon⟩ := Region.waitsFor_spec (hw p (Nat.le_refl _))
          obtain rfl : oi = o' := Option.some.inj (hoi.symm.trans ho')
          have h2 := hall e' he' hbn
          rw [hon, getD_both hp] at h2
          cases h2
    subst hip
    refine hA _ a w ?_
    have hsz := hb.size
    exact made_phase hs hap hsel hst hfin hT 0 _ a _ _ (by simp [hz]) (by rw [getD_alike (by simp; omega) true false]; simp; omega) (by rw [getD_set_ne true (by omega)]; exact hl) (below_alloc hb obj) hsz (MapKept.heap_alloc w obj).1 h
  | succ f ih =>
    intro listed a w hz hp hl hb h
    have hpr : p ∈ Region.ready md ops listed := mem_ready.2 ⟨hp, oal, hal, fun e he => by rw [hafter] at he; exact absurd he (by simp)⟩
    refine ⟨fun h0 => (by rw [h0] at hpr; cases hpr), fun i hi => ?_⟩
    by_cases hip : i = p
    · subst hip
      refine hA _ a w ?_
      have hsz := hb.size
      exact made_phase hs hap hsel hst hfin hT (f + 1) _ a _ _ (by simp [hz]) (by rw [getD_alike (by simp; omega) true false]; simp; omega) (by rw [getD_set_ne true (by omega)]; exact hl) (below_alloc hb obj) hsz (MapKept.heap_alloc w obj).1 h
    · obtain ⟨hi1, hm⟩ := h.2 i (ready_mono hi hip)
      obtain ⟨_, oi, hoi, _⟩ := mem_ready.1 hi
      refine wpOp_mono ?_ (wpOp_plain hoi hb hm)
      rintro A w' ⟨hb', hK⟩
      refine ih _ A w' (by simp [hz]) (by rw [getD_set_ne true (by omega)]; exact hp) (by rw [getD_set_ne true (by omega)]; exact hl) (below_step hb hb') ?_
      rw [Array.setIfInBounds_comm _ _ hip]
      exact hK

/-- The Bool over the region. -/
def mildB (ops : Array Oper) (p : Nat) : Bool :=
  decide (ops.size = p + 2) && Region.noSelect ops && ((List.range (p + 1)).all fun i => Region.waitsFor .any ops (p + 1) i) && ((List.range p).all fun j => match ops[p]?, ops[j]? with | some x, some y => x.apart ops y | _, _ => false) &&
    Region.seqB .any ops 1 (p + 1) (canon p) && lexHd .any ops p 0 ((Array.replicate (p + 2) false).setIfInBounds p true)

theorem wp_region_mild {id : Nat} {Q : Exit → Act → World → Prop} {a : Act} {w : World} {l : List Oper} (p : Nat) (hm : P.follows .mixedOrders = true) (hB : mildB l.toArray p = true) (oal ost : Oper) (obj : Obj)
    (hal : l.toArray[p]? = some oal) (hst : l.toArray[p + 1]? = some ost) (hafter : oal.after = #[])
    (hA : ∀ (K : Act → World → Prop) a w, K (a.put oal.dst (.pointer (some ⟨w.heap.size, 0, none⟩))) (w.alloc obj) → wpOp P l.toArray Q p K a w)
    (h0 : ∀ Lq : Act → Prop, Aside0 (∀ a', (∀ g w', Below w.heap.size w w' → w.heap.size ≤ g → w'.heap[g]? = some obj → wpList P l.toArray Q [ost] (a'.put oal.dst (.pointer (some ⟨g, 0, none⟩))) w') → Lq a') → WM P l.toArray w Lq (l.take p) a) : (Code.region id l.toArray true).wp P Q a w := by
  have h := (h0 _ ⟨fun _ h => h⟩).out
  simp only [mildB, Bool.and_eq_true, decide_eq_true_eq] at hB
  obtain ⟨⟨⟨⟨⟨hs, hsel⟩, hw⟩, hap⟩, hfin⟩, hlex⟩ := hB
  have hw' : ∀ i, i ≤ p → Region.waitsFor .any l.toArray (p + 1) i = true := fun i hi => List.all_eq_true.1 hw i (List.mem_range.2 (by omega))
  have hap' : ∀ j oj, j < p → l.toArray[j]? = some oj → oal.apart l.toArray oj = true := fun j oj hj hoj => by
    have := List.all_eq_true.1 hap j (List.mem_range.2 hj)
    simp only [hal, hoj] at this
    exact this
  have hl : l.length = p + 2 := by simpa using hs
  have htl : (l.take p).length = p := by simp; omega
  have H := wpFl_lex (P := P) (w0 := w) (Lq := fun a' => ∀ g w', Below w.heap.size w w' → w.heap.size ≤ g → w'.heap[g]? = some obj → wpList P l.toArray Q [ost] (a'.put oal.dst (.pointer (some ⟨g, 0, none⟩))) w') hs hw' hsel (l.take p) 0 ((Array.replicate (p + 2) false).setIfInBounds p true) a
    (fun j hj => by
      have hj' : j < p := by rw [htl] at hj; exact hj
      simp [hj']) (by simpa using htl) (by simp) (by rw [getD_alike (by simp) true false]; simp) (fun i hi => by omega) (by rw [htl]; exact hlex) h
  rw [htl] at H
  refine wp_region_any hm ?_
  rw [hs]
  exact free_phase hs hw' hap' (Region.noSelect_spec hsel) hst hal hafter hfin hA (fun a g w' hq hb hg hw => hq g w' hb hg hw) p _ a _ (by simp) (by simp) (by simp) (below_drew (Below.refl _ _)) H
end
end Go.Proofs.Ytloljhopccpeeaa.Mild
