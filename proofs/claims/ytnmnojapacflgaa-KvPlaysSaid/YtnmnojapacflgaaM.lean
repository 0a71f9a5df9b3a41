/-
  Proved here: what the operations on a map answer and leave, in words of a function from keys to values. No condition.
-/
import Derived.WalkKit
import Derived.Maps.OwnSet
import Derived.MapKept
import Derived.WalkSmall
namespace Go.Proofs.Ytnmnojapacflgaa.M
open Go.RowKit Go.MapKept
set_option linter.unusedVariables false
set_option linter.unusedSimpArgs false

/-- Block b is a map; f tells what is at each key. -/
def MapIs {κ : Type} (enc : κ → Value) (d : TypeDesc) (w : World) (b : Nat) (f : κ → Option Value) : Prop :=
  ∃ es clock, w.heap[b]? = some (.map es clock) ∧ (∀ x ∈ es.toList, ∃ k, x.key = enc k) ∧ (∀ (i j : Nat) (x y : MapEntry), es.toList[i]? = some x → es.toList[j]? = some y → x.key = y.key → i = j) ∧
    ∀ k v, f k = some v ↔ ∃ (j : Nat) (x : MapEntry), es.toList[j]? = some x ∧ x.key = enc k ∧ x.val = v

/-- What a key's coding must be. -/
structure Coded {κ : Type} (enc : κ → Value) (d : TypeDesc) : Prop where
  key : ∀ k, IsKey d (enc k)
  inj : ∀ k k', enc k = enc k' → k = k'

theorem coded_string : Coded (fun s : ByteArray => Value.string s) .string := ⟨fun _ => trivial, fun _ _ h => by injection h⟩
theorem coded_int (q : IntKind) : Coded (fun n : Int => Value.int q n) (.int q) := ⟨fun _ => rfl, fun _ _ h => by injection h⟩

section
variable {κ : Type} {enc : κ → Value} {d : TypeDesc} {P : Program} {w w1 : World} {b : Nat} {f : κ → Option Value} {t kt e : TypeId}

theorem MapIs.made (w : World) (enc : κ → Value) (d : TypeDesc) : MapIs enc d (w.alloc (.map #[] 0)) w.heap.size (fun _ => none) :=
  ⟨#[], 0, (MapKept.heap_alloc w _).1, fun x hx => by simp at hx, fun i j x y hx => by simp at hx, fun k v => by simp⟩

theorem MapIs.lt (h : MapIs enc d w b f) : b < w.heap.size := by
  obtain ⟨es, clock, hb, _⟩ := h
  exact (Array.getElem?_eq_some_iff.1 hb).1

theorem MapIs.kept {row : Option Nat} (h : MapIs enc d w b f) (hg : w.grownBy w1 row) (hne : some b ≠ row) : MapIs enc d w1 b f := by
  have hlt := h.lt
  obtain ⟨es, clock, hb, r⟩ := h
  exact ⟨es, clock, (hg.block b hlt hne).trans hb, r⟩
theorem MapIs.below (h : MapIs enc d w b f) (hb : Below w.heap.size w w1) : MapIs enc d w1 b f := by
  have hlt := h.lt
  obtain ⟨es, clock, h0, r⟩ := h
  exact ⟨es, clock, (hb.block b hlt).trans h0, r⟩
theorem MapIs.alloc (h : MapIs enc d w b f) (o : Obj) : MapIs enc d (w.alloc o) b f := h.kept (World.grownBy_alloc w o none) (by simp)
theorem MapIs.drewN (h : MapIs enc d w b f) (n : Nat) : MapIs enc d (w.drewN n) b f := h
theorem MapIs.drew (h : MapIs enc d w b f) : MapIs enc d w.drew b f := h
theorem MapIs.setCell (h : MapIs enc d w b f) {p : Addr} (hp : b ≠ p.block) (u : Value) : MapIs enc d (w.setCell p u) b f := by
  obtain ⟨es, clock, h0, r⟩ := h
  exact ⟨es, clock, (Below.heap_setCell w p u b hp).trans h0, r⟩

theorem MapIs.find (h : MapIs enc d w b f) (C : Coded enc d) (k : κ) : ∃ es clock, w.heap[b]? = some (.map es clock) ∧
    ((Instr.findNow d (enc k) es.toList 0 = some none ∧ f k = none) ∨ ∃ j x, Instr.findNow d (enc k) es.toList 0 = some (some (j, x.val)) ∧ es.toList[j]? = some x ∧ x.key = enc k ∧ f k = some x.val) := by
  obtain ⟨es, clock, hb, hk, hd, hf⟩ := h
  refine ⟨es, clock, hb, ?_⟩
  have hks : ∀ x ∈ es.toList, IsKey d x.key := fun x hx => by obtain ⟨q, hq⟩ := hk x hx; rw [hq]; exact C.key q
  rcases findNow_spec (C.key k) es.toList 0 hks with ⟨h1, h2⟩ | ⟨j, x, h1, h2, h3⟩
  · refine .inl ⟨h1, ?_⟩
    cases hv : f k with
    | none => rfl
    | some v =>
      obtain ⟨j, x, hx, hxk, _⟩ := (hf k v).1 hv
      exact absurd hxk (h2 x (List.mem_of_getElem? hx))
  · rw [Nat.zero_add] at h1
    exact .inr ⟨j, x, h1, h2, h3, (hf k x.val).2 ⟨j, x, h2, h3, rfl⟩⟩

/-- 'm[k]' -/
theorem MapIs.look (h : MapIs enc d w b f) (C : Coded enc d) (ht : P.underlying t = some (.map kt e)) (hkt : P.underlying kt = some d) {z : Value} (hz : (zeroValue e).run P w = .ok z w) (k : κ) :
    (Instr.lookup t (.map (some b)) (enc k) false).run P w = .ok ((f k).getD z) w := by
  obtain ⟨es, clock, hb, ⟨h1, h2⟩ | ⟨j, x, h1, _, _, h2⟩⟩ := h.find C k
  · simp [Instr.lookup, run_underlying ht, MapKept.run_getObj_map hb, run_checkKey hkt (C.key k), run_findKey hkt h1, hz, h2, Result.andThen]
  · simp [Instr.lookup, run_underlying ht, MapKept.run_getObj_map hb, run_checkKey hkt (C.key k), run_findKey hkt h1, h2, Result.andThen]
/-- 'v, ok := m[k]' -/
theorem MapIs.look_ok (h : MapIs enc d w b f) (C : Coded enc d) (ht : P.underlying t = some (.map kt e)) (hkt : P.underlying kt = some d) {z : Value} (hz : (zeroValue e).run P w = .ok z w) (k : κ) :
    (Instr.lookup t (.map (some b)) (enc k) true).run P w = .ok (.tuple #[(f k).getD z, .bool (f k).isSome]) w := by
  obtain ⟨es, clock, hb, ⟨h1, h2⟩ | ⟨j, x, h1, _, _, h2⟩⟩ := h.find C k
  · simp [Instr.lookup, run_underlying ht, MapKept.run_getObj_map hb, run_checkKey hkt (C.key k), run_findKey hkt h1, hz, h2, Result.andThen]
  · simp [Instr.lookup, run_underlying ht, MapKept.run_getObj_map hb, run_checkKey hkt (C.key k), run_findKey hkt h1, h2, Result.andThen]

theorem grownBy_setBlock {o o' : Obj} (hb : w.heap[b]? = some o) : w.grownBy { w with heap := w.heap.setIfInBounds b o' } (some b) := by
  refine ⟨rfl, rfl, rfl, by simp, fun i hi hne => ?_⟩
  exact (heap_set (o' := o') hb).2 i (fun e => hne (by rw [e]))

/-- What is at each key behind a store. -/
def put [DecidableEq κ] (f : κ → Option Value) (k : κ) (v : Value) : κ → Option Value := fun q => if q = k then some v else f q
/-- What is at each key behind a delete. -/
def drop [DecidableEq κ] (f : κ → Option Value) (k : κ) : κ → Option Value := fun q => if q = k then none else f q

/-- 'm[k] = v' -/
theorem MapIs.store [DecidableEq κ] (h : MapIs enc d w b f) (C : Coded enc d) (ht : P.underlying t = some (.map kt e)) (hkt : P.underlying kt = some d) (k : κ) (v : Value) :
    ∃ w', (Instr.mapUpdate t (.map (some b)) (enc k) v).run P w = .ok () w' ∧ MapIs enc d w' b (put f k v) ∧ w.grownBy w' (some b) := by
  have h0 := h
  obtain ⟨es, clock, hb, hcase⟩ := h.find C k
  obtain ⟨es', clock', hb', hk, hd, hf⟩ := h0
  rw [hb] at hb'
  cases hb'
  rcases hcase with ⟨h1, h2⟩ | ⟨j, x, h1, hj, hxk, h2⟩
  · refine ⟨_, by simp [Instr.mapUpdate, run_underlying ht, MapKept.run_getObj_map hb, run_checkKey hkt (C.key k), run_findKey hkt h1, MapKept.run_setObj_map _ hb, Result.andThen]; rfl, ⟨_, _, (heap_set hb).1, ?_, ?_, ?_⟩, grownBy_setBlock hb⟩
    · intro x hx
      simp only [Array.toList_push, List.mem_append, List.mem_singleton] at hx
      rcases hx with hx | rfl
      · exact hk x hx
      · exact ⟨k, rfl⟩
    · have hno : ∀ (i : Nat) (x : MapEntry), es.toList[i]? = some x → x.key ≠ enc k := fun i x hx he => by
        have := (hf k x.val).2 ⟨i, x, hx, he, rfl⟩
        rw [h2] at this
        cases this
      intro i j x y hx hy hxy
      simp only [Array.toList_push, List.getElem?_append] at hx hy
      split at hx <;> split at hy
      · exact hd i j x y hx hy hxy
      · rename_i hi hj'
        have hy2 := (List.getElem?_eq_some_iff.1 hy).2
        simp at hy2
        subst hy2
        exact absurd hxy (hno i x hx)
      · rename_i hi hj'
        have hx2 := (List.getElem?_eq_some_iff.1 hx).2
        simp at hx2
        subst hx2
        exact absurd hxy.symm (hno j y hy)
      · have hx2 := (List.getElem?_eq_some_iff.1 hx).1
        have hy2 := (List.getElem?_eq_some_iff.1 hy).1
        simp only [List.length_cons, List.length_nil] at hx2 hy2
        omega
    · intro q v'
      simp only [Array.toList_push, put]
      by_cases hq : q = k
      · subst hq
        rw [if_pos rfl]
        constructor
        · intro hv
          cases hv
          exact ⟨es.toList.length, { key := enc q, val := v, born := clock }, by simp, rfl, rfl⟩
        · rintro ⟨j, x, hx, hxk, rfl⟩
          simp only [List.getElem?_append] at hx
          split at hx
          · have := (hf q x.val).2 ⟨j, x, hx, hxk, rfl⟩
            rw [h2] at this
            cases this
          · have hx2 := (List.getElem?_eq_some_iff.1 hx).2
            simp at hx2
            subst hx2
            rfl
      · rw [if_neg hq, hf q v']
        constructor
        · rintro ⟨j, x, hx, r⟩
          refine ⟨j, x, ?_, r⟩
          rw [List.getElem?_append_left (List.getElem?_eq_some_iff.1 hx).1]
          exact hx
        · rintro ⟨j, x, hx, hxk, hv⟩
          simp only [List.getElem?_append] at hx
          split at hx
          · exact ⟨j, x, hx, hxk, hv⟩
          · have hx2 := (List.getElem?_eq_some_iff.1 hx).2
            simp at hx2
            subst hx2
            exact absurd (C.inj _ _ hxk).symm hq
  · have hj' : es[j]? = some x := by simpa using hj
    have hjl : j < es.size := by simpa using (List.getElem?_eq_some_iff.1 hj).1
    have hlist : (es.modify j (fun e' => { e' with key := enc k, val := v })).toList = es.toList.set j { x with key := enc k, val := v } := by
      apply List.ext_getElem?
      intro i
      rw [List.getElem?_set, Array.getElem?_toList, Array.getElem?_modify]
      by_cases hi : j = i
      · subst hi
        rw [if_pos rfl, if_pos rfl, if_pos (by simpa using hjl), hj']
        rfl
      · simp [hi]
    refine ⟨_, by simp [Instr.mapUpdate, run_underlying ht, MapKept.run_getObj_map hb, run_checkKey hkt (C.key k), run_findKey hkt h1, hj', hxk, run_keyThatStays (C.key k), MapKept.run_setObj_map _ hb, Result.andThen]; rfl, ⟨_, _, (heap_set hb).1, ?_, ?_, ?_⟩, grownBy_setBlock hb⟩
    · intro y hy
      rw [hlist] at hy
      rcases List.mem_or_eq_of_mem_set hy with hy | rfl
      · exact hk y hy
      · exact ⟨k, rfl⟩
    · intro i i' y y' hy hy' he
      rw [hlist, List.getElem?_set] at hy hy'
      split at hy <;> split at hy'
      · omega
      · rename_i hi hi'
        simp [hjl] at hy
        subst hy
        exact hi ▸ hd j i' x y' hj hy' (hxk.trans he)
      · rename_i hi hi'
        simp [hjl] at hy'
        subst hy'
        exact hi' ▸ hd i j y x hy hj (he.trans hxk.symm)
      · exact hd i i' y y' hy hy' he
    · intro q v'
      rw [hlist]
      simp only [put]
      by_cases hq : q = k
      · subst hq
        rw [if_pos rfl]
        constructor
        · intro hv
          cases hv
          exact ⟨j, { x with key := enc q, val := v }, by rw [List.getElem?_set]; simp [hjl], rfl, rfl⟩
        · rintro ⟨i, y, hy, hyk, rfl⟩
          rw [List.getElem?_set] at hy
          split at hy
          · simp [hjl] at hy
            subst hy
            rfl
          · rename_i hi
            exact absurd (hd j i x y hj hy (hxk.trans hyk.symm)) hi
      · rw [if_neg hq, hf q v']
        constructor
        · rintro ⟨i, y, hy, hyk, hv⟩
          refine ⟨i, y, ?_, hyk, hv⟩
          rw [List.getElem?_set]
          split
          · rename_i hi
            subst hi
            rw [hj] at hy
            cases hy
            exact absurd (C.inj _ _ (hyk.symm.trans hxk)) hq
          · exact hy
        · rintro ⟨i, y, hy, hyk, hv⟩
          rw [List.getElem?_set] at hy
          split at hy
          · simp [hjl] at hy
            subst hy
            exact absurd (C.inj _ _ hyk).symm hq
          · exact ⟨i, y, hy, hyk, hv⟩
end

/-! ### at the operation -/
section
variable {κ : Type} {enc : κ → Value} {d : TypeDesc} {P : Program} {b : Nat} {f : κ → Option Value} {t kt e : TypeId} {ops : Array Oper} {rest : List Oper} {o : Oper} {a : Act} {Q : Exit → Act → World → Prop}
theorem wpList_look (w : World) (hg : o.guard = none) (m x : Operand) (t : TypeId) (hop : o.op = Op.lookup t m x false) (C : Coded enc d) (ht : P.underlying t = some (.map kt e)) (hkt : P.underlying kt = some d) (z : Value) (hz : (zeroValue e).run P w = .ok z w)
    (hm : a.eval m = .map (some b)) (h : MapIs enc d w b f) (k : κ) (hx : a.eval x = enc k) (hK : wpList P ops Q rest (a.put o.dst ((f k).getD z)) w) : wpList P ops Q (o :: rest) a w := by
  refine wpList_plain hg fun K' hK' => ?_
  have hrun := h.look C ht hkt hz k
  unfold Oper.wp
  simp [execOp, hop, hm, hx, hrun, Result.andThen]
  exact hK' _ _ hK
theorem wpList_look_ok (w : World) (hg : o.guard = none) (m x : Operand) (t : TypeId) (hop : o.op = Op.lookup t m x true) (C : Coded enc d) (ht : P.underlying t = some (.map kt e)) (hkt : P.underlying kt = some d) (z : Value) (hz : (zeroValue e).run P w = .ok z w)
    (hm : a.eval m = .map (some b)) (h : MapIs enc d w b f) (k : κ) (hx : a.eval x = enc k) (hK : wpList P ops Q rest (a.put o.dst (.tuple #[(f k).getD z, .bool (f k).isSome])) w) : wpList P ops Q (o :: rest) a w := by
  refine wpList_plain hg fun K' hK' => ?_
  have hrun := h.look_ok C ht hkt hz k
  unfold Oper.wp
  simp [execOp, hop, hm, hx, hrun, Result.andThen]
  exact hK' _ _ hK
theorem wpList_store [DecidableEq κ] (w : World) (hg : o.guard = none) (m x v : Operand) (t : TypeId) (hop : o.op = Op.mapUpdate t m x v) (C : Coded enc d) (ht : P.underlying t = some (.map kt e)) (hkt : P.underlying kt = some d)
    (hm : a.eval m = .map (some b)) (h : MapIs enc d w b f) (k : κ) (hx : a.eval x = enc k) (val : Value) (hv : a.eval v = val) (hK : ∀ w', MapIs enc d w' b (put f k val) → w.grownBy w' (some b) → wpList P ops Q rest (a.put o.dst undef) w') : wpList P ops Q (o :: rest) a w := by
  refine wpList_plain hg fun K' hK' => ?_
  obtain ⟨w', hrun, r1, r2⟩ := h.store C ht hkt k val
  unfold Oper.wp
  simp [execOp, hop, hm, hx, hv, hrun, Result.andThen]
  exact hK' _ _ (hK w' r1 r2)
end
end Go.Proofs.Ytnmnojapacflgaa.M
