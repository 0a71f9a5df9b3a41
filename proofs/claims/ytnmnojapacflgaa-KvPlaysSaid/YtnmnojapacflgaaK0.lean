/-
  Proved here: a store's state: a block of two cells and a map from texts to entries, told as a rising list; what looking into the map, storing into it and deleting in it do. No condition.
-/
import Derived.Test.YtnmnojapacflgaaPKvPlaysx0
import Derived.Maps.OwnOps
import Derived.Maps.OwnSet
import Derived.Maps.RangeWalk
import Derived.Maps.Ext
import Derived.StringKeys
import Derived.Sort.KeysCollected
import Derived.Outline
import Derived.StillTailTactics
import Derived.Carry
namespace Go.Proofs.Ytnmnojapacflgaa.K0
open Go.RowKit Go.Maps Go.Sort Go.Proofs.YtnmnojapacflgaaW.PrintWords Go.Proofs.YtnmnojapacflgaaW.PrintLast Go.Proofs.YtnmnojapacflgaaW.PrintMore Go.Proofs.Ytnmnojapacflgaa.PKvPlays
set_option linter.unusedVariables false
set_option linter.unusedSimpArgs false

/-- Block g is these cells, none of them frozen. -/
def IsBlk (w : World) (g : Nat) (cs : Array Value) (t : TypeId) : Prop := w.heap[g]? = some (.cells cs t (0, 0))
section
variable {W w1 : World} {g : Nat} {t : TypeId} {cs : Array Value}
theorem IsBlk.below (h : IsBlk W g cs t) (hb : Below W.heap.size W w1) : IsBlk w1 g cs t := (hb.block g (blk_lt h)).trans h
theorem IsBlk.alloc (h : IsBlk W g cs t) (o : Obj) : IsBlk (W.alloc o) g cs t := (Below.heap_alloc W o g (blk_lt h)).trans h
theorem IsBlk.drewN (h : IsBlk W g cs t) (n : Nat) : IsBlk (W.drewN n) g cs t := h
theorem IsBlk.drew (h : IsBlk W g cs t) : IsBlk W.drew g cs t := h
theorem IsBlk.far (h : IsBlk W g cs t) {p : Addr} (hp : g ≠ p.block) (u : Value) : IsBlk (W.setCell p u) g cs t := blk_far h hp u
theorem IsBlk.new (t : TypeId) (cs : Array Value) (hg : g = W.heap.size) : IsBlk (W.alloc (.cells cs t)) g cs t := by
  subst hg; exact heap_alloc_new W _
theorem IsBlk.grownBy {q : Nat} (h : IsBlk W g cs t) (hg : W.grownBy w1 (some q)) (hne : g ≠ q) : IsBlk w1 g cs t := (hg.block g (blk_lt h) (by simpa using hne)).trans h
end
/-- w' is w but for what is new, and for the blocks g and q. -/
structure But2 (w w' : World) (g q : Nat) : Prop where
  os : w'.os = w.os
  tape : w'.tape = w.tape
  output : w'.output = w.output
  size : w.heap.size ≤ w'.heap.size
  block : ∀ i, i < w.heap.size → i ≠ g → i ≠ q → w'.heap[i]? = w.heap[i]?
section
variable {a w w1 : World} {g q B : Nat}
theorem But2.refl (w : World) (g q : Nat) : But2 w w g q := ⟨rfl, rfl, rfl, Nat.le_refl _, fun _ _ _ _ => rfl⟩
theorem But2.trans (h : But2 a w g q) (h1 : But2 w w1 g q) : But2 a w1 g q :=
  ⟨h1.os.trans h.os, h1.tape.trans h.tape, h1.output.trans h.output, Nat.le_trans h.size h1.size, fun i hi n1 n2 => (h1.block i (Nat.lt_of_lt_of_le hi h.size) n1 n2).trans (h.block i hi n1 n2)⟩
theorem But2.of_below (h : Below a.heap.size a w) (g q : Nat) : But2 a w g q := ⟨h.os, h.tape, h.output, h.size, fun i hi _ _ => h.block i hi⟩
theorem But2.of_two (h : a.grownBy w (some q)) (g : Nat) : But2 a w g q := ⟨h.os, h.tape, h.output, h.size, fun i hi _ n1 => h.block i hi (by simpa using n1)⟩
theorem But2.below (h : But2 a w g q) (hb : Below w.heap.size w w1) : But2 a w1 g q := h.trans (But2.of_below hb g q)
theorem But2.alloc (h : But2 a w g q) (o : Obj) : But2 a (w.alloc o) g q := h.below (below_alloc (Below.refl _ _) o)
theorem But2.drewN (h : But2 a w g q) (n : Nat) : But2 a (w.drewN n) g q := ⟨h.os, h.tape, h.output, h.size, h.block⟩
theorem But2.drew (h : But2 a w g q) : But2 a w.drew g q := ⟨h.os, h.tape, h.output, h.size, h.block⟩
theorem But2.own (h : But2 a w g q) (j : Nat) (u : Value) : But2 a (w.setCell ⟨g, j, none⟩ u) g q :=
  ⟨h.os, h.tape, h.output, by simpa using h.size, fun i hi n1 n2 => (Below.heap_setCell w ⟨g, j, none⟩ u i n1).trans (h.block i hi n1 n2)⟩
theorem But2.far (h : But2 w w1 g q) (hB : B ≤ w.heap.size) (hg : B ≤ g) (hq : B ≤ q) : Below B w w1 :=
  ⟨h.os, h.tape, h.output, h.size, fun i hi => h.block i (Nat.lt_of_lt_of_le hi hB) (by omega) (by omega)⟩
theorem But2.after (h : Below a.heap.size a w) (h1 : But2 w w1 g q) (hg : a.heap.size ≤ g) (hq : a.heap.size ≤ q) : Below a.heap.size a w1 := h.trans (h1.far h.size hg hq)
theorem IsBlk.but {g0 : Nat} {t : TypeId} {cs : Array Value} (h : IsBlk w g0 cs t) (hb : But2 w w1 g q) (n1 : g0 ≠ g) (n2 : g0 ≠ q) : IsBlk w1 g0 cs t := (hb.block g0 (blk_lt h) n1 n2).trans h
end

/-! ### the rising list -/
/-- The entry at a key. -/
def get (L : List S72) (k : ByteArray) : Option (ByteArray × Int) := (L.find? fun e => decide (e.f0 = k)).map fun e => (e.f1, e.f2)
def del (L : List S72) (k : ByteArray) : List S72 := L.filter fun e => !decide (e.f0 = k)
def ins : List S72 → S72 → List S72
  | [], e => [e]
  | x :: L, e => if e.f0.data.toList < x.f0.data.toList then e :: x :: L else x :: ins L e
def Rise (L : List S72) : Prop := L.Pairwise fun a b => a.f0.data.toList < b.f0.data.toList
theorem key_inj {a b : ByteArray} (h : a.data.toList = b.data.toList) : a = b := by
  obtain ⟨⟨a⟩⟩ := a
  obtain ⟨⟨b⟩⟩ := b
  simp only at h
  subst h
  rfl
theorem key_ne {a b : ByteArray} (h : a ≠ b) : a.data.toList ≠ b.data.toList := fun e => h (key_inj e)
theorem lt_ne {a b : ByteArray} (h : a.data.toList < b.data.toList) : a ≠ b := fun e => by subst e; exact absurd h (List.lt_irrefl _)
theorem get_nil (k : ByteArray) : get [] k = none := rfl
theorem get_cons (x : S72) (L : List S72) (k : ByteArray) : get (x :: L) k = if x.f0 = k then some (x.f1, x.f2) else get L k := by
  unfold get
  rw [List.find?_cons]
  by_cases h : x.f0 = k
  · rw [if_pos h, decide_eq_true h]; rfl
  · rw [if_neg h, decide_eq_false h]
theorem get_del (L : List S72) (k j : ByteArray) : get (del L k) j = if j = k then none else get L j := by
  induction L with
  | nil => unfold del; simp [get_nil]
  | cons x L ih =>
    unfold del at ih ⊢
    by_cases h : x.f0 = k
    · rw [List.filter_cons_of_neg (by simp [h]), ih, get_cons]
      by_cases hj : j = k
      · rw [if_pos hj, if_pos hj]
      · rw [if_neg hj, if_neg hj, if_neg (fun e => hj (e.symm.trans h))]
    · rw [List.filter_cons_of_pos (by simpa using h), get_cons, ih, get_cons]
      by_cases hj : j = k
      · rw [if_pos hj, if_pos hj, if_neg (fun e => h (e.trans hj))]
      · rw [if_neg hj, if_neg hj]
theorem get_ins (L : List S72) (e : S72) (hn : get L e.f0 = none) (j : ByteArray) : get (ins L e) j = if j = e.f0 then some (e.f1, e.f2) else get L j := by
  induction L with
  | nil =>
    unfold ins
    rw [get_cons, get_nil]
    by_cases h : j = e.f0
    · rw [if_pos h, if_pos h.symm]
    · rw [if_neg h, if_neg (fun x => h x.symm)]
  | cons x L ih =>
    rw [get_cons] at hn
    have hx : x.f0 ≠ e.f0 := fun h => by rw [if_pos h] at hn; cases hn
    rw [if_neg hx] at hn
    unfold ins
    split
    · rw [get_cons, get_cons]
      by_cases h : j = e.f0
      · rw [if_pos h, if_pos h.symm]
      · rw [if_neg h, if_neg (fun x => h x.symm)]
    · rw [get_cons, get_cons, ih hn]
      by_cases h : j = e.f0
      · rw [if_pos h]
        rw [if_neg (fun x => hx (x.trans h)), if_pos h]
      · rw [if_neg h, if_neg h]
theorem Rise.del {L : List S72} (h : Rise L) (k : ByteArray) : Rise (del L k) := h.filter _
theorem lt_total {a b : List UInt8} (h : ¬ a < b) (hn : b ≠ a) : b < a := by
  rcases List.le_total a b with h1 | h1
  · rcases Classical.em (a < b) with h2 | h2
    · exact absurd h2 h
    · exact absurd (List.le_antisymm (List.not_lt.1 h2) h1) hn
  · exact Classical.byContradiction fun h2 => hn (List.le_antisymm h1 (List.not_lt.1 h2))
theorem ins_mem (L : List S72) (e x : S72) : x ∈ ins L e ↔ x = e ∨ x ∈ L := by
  induction L with
  | nil => simp [ins]
  | cons y L ih =>
    unfold ins
    split
    · simp
    · simp only [List.mem_cons, ih]
      constructor
      · rintro (h | h | h)
        · exact .inr (.inl h)
        · exact .inl h
        · exact .inr (.inr h)
      · rintro (h | h | h)
        · exact .inr (.inl h)
        · exact .inl h
        · exact .inr (.inr h)
theorem get_mem {L : List S72} {x : S72} (h : x ∈ L) : (get L x.f0).isSome = true := by
  unfold get
  rw [Option.isSome_map, List.find?_isSome]
  exact ⟨x, h, by simp⟩
theorem Rise.ins {L : List S72} (h : Rise L) (e : S72) (hn : get L e.f0 = none) : Rise (ins L e) := by
  induction L with
  | nil => exact List.pairwise_singleton _ _
  | cons x L ih =>
    obtain ⟨h1, h2⟩ := List.pairwise_cons.1 h
    rw [get_cons] at hn
    have hx : x.f0 ≠ e.f0 := fun h => by rw [if_pos h] at hn; cases hn
    rw [if_neg hx] at hn
    unfold K0.ins
    split
    · rename_i hlt
      refine List.pairwise_cons.2 ⟨fun y hy => ?_, h⟩
      rcases List.mem_cons.1 hy with rfl | hy
      · exact hlt
      · exact List.lt_trans hlt (h1 y hy)
    · rename_i hlt
      refine List.pairwise_cons.2 ⟨fun y hy => ?_, ih h2 hn⟩
      rcases (ins_mem L e y).1 hy with rfl | hy
      · exact lt_total hlt (key_ne hx)
      · exact h1 y hy

/-! ### the map -/
abbrev KS (k : ByteArray) : Value := .string k
abbrev LS (k : ByteArray) : Lit := .string k.data.toList
/-- What an entry reads as. -/
def dat (v : ByteArray) (r : Int) : DataW Unit := .agg [.lit (.string v.data.toList), .lit (.int .i64 r)]
def ev (v : ByteArray) (r : Int) : Value := .agg #[.string v, .int .i64 r]
def Rs : Value → Option (DataW Unit × List MemPlace)
  | .agg cs => match cs.toList with
    | [.string v, .int .i64 r] => some (dat v r, [])
    | _ => none
  | _ => none
theorem Rs_ev (v : ByteArray) (r : Int) : Rs (ev v r) = some (dat v r, []) := rfl
theorem Rs_inv {x : Value} {z : DataW Unit × List MemPlace} (h : Rs x = some z) : ∃ v r, x = ev v r ∧ z = (dat v r, []) := by
  unfold Rs at h
  split at h
  · rename_i cs
    split at h
    · rename_i v r e
      cases h
      refine ⟨v, r, ?_, rfl⟩
      obtain ⟨l⟩ := cs
      simp only at e
      subst e
      rfl
    · cases h
  · cases h
theorem dat_inj {v v' : ByteArray} {r r' : Int} (h : dat v r = dat v' r') : v = v' ∧ r = r' := by
  simp [dat] at h
  exact ⟨key_inj (by simpa using h.1), h.2⟩
def ze : ByteArray := ⟨#[]⟩
set_option maxRecDepth 10000 in
theorem zero_entry (w : World) : (zeroValue 61).run Try.prog w = .ok (ev ze 0) w := by rfl
theorem key_of {k : ByteArray} (hk : k.size ≤ maxLen) : keyOf Try.prog 9 (KS k) = some (LS k) := WideMaps.keyOf_string_mk Try.underlying9 hk
theorem key_lit (k : ByteArray) : WideAt.IsKeyLit (LS k) := trivial
theorem LS_ne {a b : ByteArray} (h : a ≠ b) : LS a ≠ LS b := fun e => key_ne h (by injection e)

/-- What a datum holds of a list. -/
structure Of (D : DataW Unit) (L : List S72) : Prop where
  is : IsMap D
  has : ∀ k, Maps.has D (LS k) = (get L k).isSome
  at_ : ∀ k v r, get L k = some (v, r) → ∀ z, D.atKey (LS k) z = dat v r
theorem Of.nil : Of (.map []) [] := ⟨isMap_empty, fun k => by simp [get_nil, Maps.has], fun k v r h => by simp [get_nil] at h⟩
theorem Of.ins {D : DataW Unit} {L : List S72} (h : Of D L) (e : S72) (hn : get L e.f0 = none) : Of (D.put (LS e.f0) (dat e.f1 e.f2)) (ins L e) := by
  refine ⟨?_, fun k => ?_, fun k v r hk z => ?_⟩
  · exact h.is.put _ _
  · rw [get_ins L e hn]
    by_cases hk : k = e.f0
    · subst hk; rw [if_pos rfl, has_put_same h.is (key_lit _)]; rfl
    · rw [if_neg hk, has_put_other (LS_ne hk), h.has]
  · rw [get_ins L e hn] at hk
    by_cases he : k = e.f0
    · subst he
      rw [if_pos rfl] at hk
      cases hk
      exact atKey_put_same h.is (key_lit _) _ _
    · rw [if_neg he] at hk
      rw [atKey_put_other (LS_ne he)]
      exact h.at_ k v r hk z
theorem Of.del {D : DataW Unit} {L : List S72} (h : Of D L) (k : ByteArray) : Of (D.del (LS k)) (del L k) := by
  refine ⟨h.is.del _, fun j => ?_, fun j v r hj z => ?_⟩
  · rw [get_del]
    by_cases hk : j = k
    · subst hk; rw [if_pos rfl, has_del_same]; rfl
    · rw [if_neg hk, has_del_other (LS_ne hk), h.has]
  · rw [get_del] at hj
    by_cases he : j = k
    · rw [if_pos he] at hj; cases hj
    · rw [if_neg he] at hj
      rw [atKey_del_other (LS_ne he)]
      exact h.at_ j v r hj z
/-- Storing over what is there: as deleting and putting in. -/
theorem Of.put {D : DataW Unit} {L : List S72} (h : Of D L) (e : S72) : Of (D.put (LS e.f0) (dat e.f1 e.f2)) (K0.ins (K0.del L e.f0) e) := by
  have hn : get (K0.del L e.f0) e.f0 = none := by rw [get_del, if_pos rfl]
  refine ⟨h.is.put _ _, fun k => ?_, fun k v r hk z => ?_⟩
  · rw [get_ins _ e hn]
    by_cases hk : k = e.f0
    · subst hk; rw [if_pos rfl, has_put_same h.is (key_lit _)]; rfl
    · rw [if_neg hk, has_put_other (LS_ne hk), h.has, get_del, if_neg hk]
  · rw [get_ins _ e hn] at hk
    by_cases he : k = e.f0
    · subst he
      rw [if_pos rfl] at hk
      cases hk
      exact atKey_put_same h.is (key_lit _) _ _
    · rw [if_neg he, get_del, if_neg he] at hk
      rw [atKey_put_other (LS_ne he)]
      exact h.at_ k v r hk z
theorem Of.keys {D : DataW Unit} {L : List S72} {w : World} {q n : Nat} (h : Of D L) (hr : Rise L) (ho : w.ownsMap Try.prog 9 Rs q n D) : (L.map fun e => e.f0.data.toList).Perm (strKeys D) := by
  obtain ⟨es, rfl, hko⟩ := ho.keysOf
  obtain ⟨es2, e2, hpw, _⟩ := ho.entries (string_keyed Try.underlying9)
  injection e2 with e2
  subst e2
  have hk : ∀ p ∈ es, ∃ x, p.1 = .string x := fun p hp => by obtain ⟨v, hv⟩ := hko p hp; obtain ⟨x, _, hx, _⟩ := Maps.keyOf_str Try.underlying9 hv; exact ⟨x, hx⟩
  refine perm_strKeys hpw hk ?_ fun x => ?_
  · exact List.pairwise_map.2 (hr.imp fun hlt e => by rw [e] at hlt; exact absurd hlt (List.lt_irrefl _))
  · have h1 := h.has ⟨x.toArray⟩
    have e1 : LS ⟨x.toArray⟩ = .string x := by simp [LS]
    rw [e1] at h1
    rw [h1]
    constructor
    · intro hx
      obtain ⟨e, he, hxe⟩ := List.mem_map.1 hx
      have := get_mem he
      rw [show e.f0 = (⟨x.toArray⟩ : ByteArray) from key_inj (by simp [hxe])] at this
      exact this
    · intro hx
      unfold get at hx
      rw [Option.isSome_map, List.find?_isSome] at hx
      obtain ⟨e, he, hxe⟩ := hx
      have := of_decide_eq_true hxe
      exact List.mem_map.2 ⟨e, he, by rw [this]⟩
theorem Of.size {D : DataW Unit} {L : List S72} {w : World} {q n : Nat} (h : Of D L) (hr : Rise L) (ho : w.ownsMap Try.prog 9 Rs q n D) : Maps.size D = L.length := by
  have h1 := (h.keys hr ho).length_eq
  obtain ⟨es, rfl, _⟩ := ho.keysOf
  simp [strKeys] at h1
  simp [Maps.size, h1]
theorem Of.sort {D : DataW Unit} {L : List S72} {w : World} {q n : Nat} (h : Of D L) (hr : Rise L) (ho : w.ownsMap Try.prog 9 Rs q n D) {ss : List (List UInt8)} (hs : ss.Perm (strKeys D)) : (ss.mergeSort fun x y => decide (x ≤ y)) = L.map fun e => e.f0.data.toList := by
  rw [mergeSort_of_perm (hs.trans (h.keys hr ho).symm)]
  exact List.mergeSort_of_pairwise (List.pairwise_map.2 (hr.imp fun hlt => by simpa using List.le_of_lt hlt))

/-- Block q is a map that holds the list's entries. -/
structure KM (w : World) (q : Nat) (L : List S72) : Prop where
  own : ∃ (D : DataW Unit), w.ownsMap Try.prog 9 Rs q L.length D ∧ Of D L
  rise : Rise L
section
variable {w w1 : World} {q : Nat} {L : List S72}
theorem KM.made (w : World) : KM (w.alloc (.map #[] 0)) w.heap.size [] := ⟨⟨_, World.ownsMap_made w _ _ _, Of.nil⟩, List.Pairwise.nil⟩
theorem KM.lt (h : KM w q L) : q < w.heap.size := by obtain ⟨D, ho, _⟩ := h.own; exact ho.lt
theorem KM.kept {row : Option Nat} (h : KM w q L) (hg : w.grownBy w1 row) (hne : some q ≠ row) : KM w1 q L := ⟨by obtain ⟨D, ho, hd⟩ := h.own; exact ⟨D, ho.kept hg hne, hd⟩, h.rise⟩
theorem KM.below (h : KM w q L) (hb : Below w.heap.size w w1) : KM w1 q L := h.kept (grown_of_below hb none) (by simp)
theorem KM.alloc (h : KM w q L) (o : Obj) : KM (w.alloc o) q L := h.kept (World.grownBy_alloc w o none) (by simp)
theorem KM.drewN (h : KM w q L) (n : Nat) : KM (w.drewN n) q L := ⟨h.own, h.rise⟩
theorem KM.drew (h : KM w q L) : KM w.drew q L := ⟨h.own, h.rise⟩
theorem KM.far (h : KM w q L) {p : Addr} (hp : q ≠ p.block) (u : Value) : KM (w.setCell p u) q L := ⟨by obtain ⟨D, ho, hd⟩ := h.own; exact ⟨D, ho.setCell hp u, hd⟩, h.rise⟩
theorem tight {n : Nat} {D : DataW Unit} (ho : w.ownsMap Try.prog 9 Rs q n D) (hd : Of D L) (hr : Rise L) : w.ownsMap Try.prog 9 Rs q L.length D := by
  have h1 := hd.size hr ho
  obtain ⟨es, clock, hb, F, hs, rfl⟩ := ho
  exact ⟨es, clock, hb, F, by rw [← h1]; simp [Maps.size, length_sorted], rfl⟩
/-- The entry that a look gives. -/
def look (L : List S72) (k : ByteArray) : ByteArray × Int := (get L k).getD (ze, 0)
theorem KM.look (h : KM w q L) {k : ByteArray} (hk : k.size ≤ maxLen) : (Instr.lookup 56 (.map (some q)) (KS k) false).run Try.prog w = .ok (ev (K0.look L k).1 (K0.look L k).2) w := by
  obtain ⟨D, ho, hd⟩ := h.own
  obtain ⟨v, ps, hrun, hR⟩ := ho.lookup (string_keyed Try.underlying9) Try.underlying56 (zero_entry w) (Rs_ev ze 0) (key_of hk)
  rw [hrun]
  have e : v = ev (K0.look L k).1 (K0.look L k).2 := by
    obtain ⟨v', r', rfl, hz⟩ := Rs_inv hR
    have hz1 := congrArg Prod.fst hz
    dsimp only at hz1
    unfold K0.look
    cases hg : get L k with
    | none =>
      have h1 := hd.has k
      rw [hg] at h1
      have h2 : D.atKey (LS k) (dat ze 0) = dat ze 0 := atKey_of_not_has h1 _
      rw [h2] at hz1
      obtain ⟨rfl, rfl⟩ := dat_inj hz1
      rfl
    | some x =>
      obtain ⟨a, b⟩ := x
      rw [hd.at_ k a b hg] at hz1
      obtain ⟨rfl, rfl⟩ := dat_inj hz1
      rfl
  rw [e]
theorem KM.len (h : KM w q L) (ty : TypeId) : (Builtin.len_ #[56] ty #[.map (some q)]).run Try.prog w = .ok (.int .i64 (L.length : Int)) w := by
  obtain ⟨D, ho, hd⟩ := h.own
  rw [ho.len Try.underlying56, hd.size h.rise ho]
theorem KM.store (h : KM w q L) {k : ByteArray} (hk : k.size ≤ maxLen) (hl : L.length < maxLen) (v : ByteArray) (r : Int) : ∃ w', (Instr.mapUpdate 56 (.map (some q)) (KS k) (ev v r)).run Try.prog w = .ok () w' ∧ KM w' q (ins (del L k) ⟨k, v, r⟩) ∧ w.grownBy w' (some q) := by
  obtain ⟨D, ho, hd⟩ := h.own
  obtain ⟨w', hrun, ho2, hg⟩ := ho.update (string_keyed Try.underlying9) Try.underlying56 hl (key_of hk) (Rs_ev v r)
  have hd2 := hd.put ⟨k, v, r⟩
  have hr2 : Rise (ins (del L k) ⟨k, v, r⟩) := (h.rise.del k).ins ⟨k, v, r⟩ (by rw [get_del, if_pos rfl])
  exact ⟨w', hrun, ⟨⟨_, tight ho2 hd2 hr2, hd2⟩, hr2⟩, hg⟩
theorem KM.delete (h : KM w q L) {k : ByteArray} (hk : k.size ≤ maxLen) (ty : TypeId) : ∃ w', (Builtin.delete_ #[56, 9] ty #[.map (some q), KS k]).run Try.prog w = .ok (.tuple #[]) w' ∧ KM w' q (del L k) ∧ w.grownBy w' (some q) := by
  obtain ⟨D, ho, hd⟩ := h.own
  obtain ⟨w', hrun, ho2, hg⟩ := ho.drop (string_keyed Try.underlying9) Try.underlying56 (key_of hk) ty
  have hd2 := hd.del k
  have hr2 := h.rise.del k
  refine ⟨w', hrun, ⟨⟨_, tight ho2 hd2 hr2, hd2⟩, hr2⟩, ?_⟩
  obtain ⟨es, clock, es', clock', hb, rfl⟩ := hg
  exact ⟨rfl, rfl, rfl, by simp [ChangeMaps.setBlock], fun i _ hi => ChangeMaps.heap_setBlock_other hb _ (fun e => hi (by rw [e]))⟩
end
/-- Block g is a store: its map is block q: its revision, its entries. -/
structure Kv (w : World) (g q : Nat) (rev : Int) (L : List S72) : Prop where
  blk : IsBlk w g #[.map (some q), .int .i64 rev] 58
  map : KM w q L
section
variable {w w1 : World} {g q g1 q1 : Nat} {rev : Int} {L : List S72}
theorem Kv.below (h : Kv w g q rev L) (hb : Below w.heap.size w w1) : Kv w1 g q rev L := ⟨h.blk.below hb, h.map.below hb⟩
theorem Kv.alloc (h : Kv w g q rev L) (o : Obj) : Kv (w.alloc o) g q rev L := ⟨h.blk.alloc o, h.map.alloc o⟩
theorem Kv.drewN (h : Kv w g q rev L) (n : Nat) : Kv (w.drewN n) g q rev L := ⟨h.blk.drewN n, h.map.drewN n⟩
theorem Kv.drew (h : Kv w g q rev L) : Kv w.drew g q rev L := ⟨h.blk.drew, h.map.drew⟩
theorem Kv.ne (h : Kv w g q rev L) : g ≠ q := by
  obtain ⟨D, ⟨es, clock, hb, _⟩, _⟩ := h.map.own
  intro e
  have := h.blk
  unfold IsBlk at this
  rw [e, hb] at this
  cases this
end
end Go.Proofs.Ytnmnojapacflgaa.K0
