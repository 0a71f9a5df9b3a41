/-
  Proved here: a worker's state: a block of two cells and a map from units to slots; what looking into the map and storing into it do; which units there are. No condition.
-/
import Derived.Test.YtkjaeodnpgpfeaaS4
import Derived.Test.YtkjaeodnpgpfeaaM
import Derived.Test.YtkjaeodnpgpfeaaShelf
import Derived.Maps.OwnOps
import Derived.Maps.RangeWalk
import Derived.Outline
import Derived.StillTailTactics
import Derived.Carry
namespace Go.Proofs.Ytkjaeodnpgpfeaa.W0
open Go.RowKit Go.Maps Go.Sort Go.Shelf Go.Proofs.Ytkjaeodnpgpfeaa.M Go.Proofs.Ytkjaeodnpgpfeaa.S0 Go.Proofs.Ytkjaeodnpgpfeaa.S4 Go.Proofs.YtkjaeodnpgpfeaaW.PrintWords Go.Proofs.YtkjaeodnpgpfeaaW.PrintLast Go.Proofs.YtkjaeodnpgpfeaaW.PrintMore
set_option linter.unusedVariables false
set_option linter.unusedSimpArgs false

/-- Block g is these cells, none of them frozen. -/
def IsBlk (w : World) (g : Nat) (cs : Array Value) (t : TypeId) : Prop := w.heap[g]? = some (.cells cs t (0, 0))
section
variable {W w1 : World} {g : Nat} {t : TypeId} {cs : Array Value}
theorem IsBlk.below (h : IsBlk W g cs t) (hb : Below W.heap.size W w1) : IsBlk w1 g cs t := (hb.block g (blk_lt h)).trans h
theorem IsBlk.alloc (h : IsBlk W g cs t) (o : Obj) : IsBlk (W.alloc o) g cs t := (Below.heap_alloc W o g (blk_lt h)).trans h
theorem IsBlk.drewN (h : IsBlk W g cs t) (n : Nat) : IsBlk (W.drewN n) g cs t := h
theorem IsBlk.drew (h : IsBlk W g cs t) : IsBlk W.drew g cs t := h
theorem IsBlk.far (h : IsBlk W g cs t) {p : Addr} (hp : g ≠ p.block) (u : Value) : IsBlk (W.setCell p u) g cs t := blk_far h hp u
theorem IsBlk.new (t : TypeId) (cs : Array Value) (hg : g = W.heap.size) : IsBlk (W.alloc (.cells cs t)) g cs t := by
  subst hg; exact heap_alloc_new W _
theorem IsBlk.grownBy {q : Nat} (h : IsBlk W g cs t) (hg : W.grownBy w1 (some q)) (hne : g ≠ q) : IsBlk w1 g cs t := (hg.block g (blk_lt h) (by simpa using hne)).trans h
end

/-! ### all but two blocks -/
/-- w' is w but for what is new, and for the blocks g and q. -/
structure But2 (w w' : World) (g q : Nat) : Prop where
  os : w'.os = w.os
  tape : w'.tape = w.tape
  output : w'.output = w.output
  size : w.heap.size ≤ w'.heap.size
  block : ∀ i, i < w.heap.size → i ≠ g → i ≠ q → w'.heap[i]? = w.heap[i]?
section
variable {a w w1 : World} {g q B : Nat}
theorem But2.refl (w : World) (g q : Nat) : But2 w w g q := ⟨rfl, rfl, rfl, Nat.le_refl _, fun _ _ _ _ => rfl⟩
theorem But2.trans (h : But2 a w g q) (h1 : But2 w w1 g q) : But2 a w1 g q :=
  ⟨h1.os.trans h.os, h1.tape.trans h.tape, h1.output.trans h.output, Nat.le_trans h.size h1.size, fun i hi n1 n2 => (h1.block i (Nat.lt_of_lt_of_le hi h.size) n1 n2).trans (h.block i hi n1 n2)⟩
theorem But2.of_below (h : Below a.heap.size a w) (g q : Nat) : But2 a w g q := ⟨h.os, h.tape, h.output, h.size, fun i hi _ _ => h.block i hi⟩
theorem But2.of_one (h : a.grownBy w (some g)) (q : Nat) : But2 a w g q := ⟨h.os, h.tape, h.output, h.size, fun i hi n1 _ => h.block i hi (by simpa using n1)⟩
theorem But2.of_two (h : a.grownBy w (some q)) (g : Nat) : But2 a w g q := ⟨h.os, h.tape, h.output, h.size, fun i hi _ n1 => h.block i hi (by simpa using n1)⟩
theorem But2.below (h : But2 a w g q) (hb : Below w.heap.size w w1) : But2 a w1 g q := h.trans (But2.of_below hb g q)
theorem But2.alloc (h : But2 a w g q) (o : Obj) : But2 a (w.alloc o) g q := h.below (below_alloc (Below.refl _ _) o)
theorem But2.drewN (h : But2 a w g q) (n : Nat) : But2 a (w.drewN n) g q := ⟨h.os, h.tape, h.output, h.size, h.block⟩
theorem But2.drew (h : But2 a w g q) : But2 a w.drew g q := ⟨h.os, h.tape, h.output, h.size, h.block⟩
theorem But2.own (h : But2 a w g q) (j : Nat) (u : Value) : But2 a (w.setCell ⟨g, j, none⟩ u) g q :=
  ⟨h.os, h.tape, h.output, by simpa using h.size, fun i hi n1 n2 => (Below.heap_setCell w ⟨g, j, none⟩ u i n1).trans (h.block i hi n1 n2)⟩
theorem But2.new (h : But2 a w g q) {p : Addr} (hp : a.heap.size ≤ p.block) (u : Value) : But2 a (w.setCell p u) g q :=
  ⟨h.os, h.tape, h.output, by simpa using h.size, fun i hi n1 n2 => (Below.heap_setCell w p u i (by omega)).trans (h.block i hi n1 n2)⟩
theorem But2.far (h : But2 w w1 g q) (hB : B ≤ w.heap.size) (hg : B ≤ g) (hq : B ≤ q) : Below B w w1 :=
  ⟨h.os, h.tape, h.output, h.size, fun i hi => h.block i (Nat.lt_of_lt_of_le hi hB) (by omega) (by omega)⟩
theorem But2.after (h : Below a.heap.size a w) (h1 : But2 w w1 g q) (hg : a.heap.size ≤ g) (hq : a.heap.size ≤ q) : Below a.heap.size a w1 := h.trans (h1.far h.size hg hq)
/-- .. is one block's turning behind the other's. -/
theorem But2.parts (h : But2 w w1 g q) (hq : q < w.heap.size) (hne : g ≠ q) : ∃ wm, w.grownBy wm (some q) ∧ wm.grownBy w1 (some g) := by
  refine ⟨{ w with heap := w.heap.setIfInBounds q (w1.heap[q]'(Nat.lt_of_lt_of_le hq h.size)) }, ⟨rfl, rfl, rfl, by simp, fun i hi hn => ?_⟩, ⟨h.os, h.tape, h.output, by simpa using h.size, fun i hi hn => ?_⟩⟩
  · have : q ≠ i := fun e => hn (by rw [e])
    simp [Array.getElem?_setIfInBounds, this]
  · have hi' : i < w.heap.size := by simpa using hi
    have hg : i ≠ g := fun e => hn (by rw [e])
    by_cases e : q = i
    · subst e
      simp [Array.getElem?_setIfInBounds, hq]
    · rw [h.block i hi' hg (Ne.symm e)]
      simp [Array.getElem?_setIfInBounds, e]
theorem IsBlk.but {g0 : Nat} {t : TypeId} {cs : Array Value} (h : IsBlk w g0 cs t) (hb : But2 w w1 g q) (n1 : g0 ≠ g) (n2 : g0 ≠ q) : IsBlk w1 g0 cs t := (hb.block g0 (blk_lt h) n1 n2).trans h
end

/-! ### the map -/
abbrev KE : Int → Value := Value.int .i64
/-- What a slot reads as. -/
def dat (s : Sl) : DataW Unit := .agg [.lit (.int .i64 s.st), .lit (.int .i64 s.ver), .lit (.int .i64 s.want), .lit (.int .i64 s.seq)]
def Rs : Value → Option (DataW Unit × List MemPlace)
  | .agg cs => match cs.toList with
    | [.int .i64 a, .int .i64 b, .int .i64 c, .int .i64 d] => some (dat ⟨a, b, c, d⟩, [])
    | _ => none
  | _ => none
theorem Rs_sv (s : Sl) : Rs (sv s) = some (dat s, []) := rfl
theorem Rs_inv {v : Value} {z : DataW Unit × List MemPlace} (h : Rs v = some z) : ∃ s, v = sv s ∧ z = (dat s, []) := by
  unfold Rs at h
  split at h
  · rename_i cs
    split at h
    · rename_i a b c d e
      cases h
      refine ⟨⟨a, b, c, d⟩, ?_, rfl⟩
      obtain ⟨l⟩ := cs
      simp only at e
      subst e
      rfl
    · cases h
  · cases h
theorem dat_inj {s t : Sl} (h : dat s = dat t) : s = t := by
  obtain ⟨a, b, c, d⟩ := s
  obtain ⟨a', b', c', d'⟩ := t
  simpa [dat] using h

def zs : Sl := ⟨0, 0, 0, 0⟩
set_option maxRecDepth 10000 in
theorem zero_slot (w : World) : (zeroValue 35).run Try.prog w = .ok (sv zs) w := by rfl
theorem key_of (k : Int) (hk : (Lit.int .i64 k).wf = true) : keyOf Try.prog 3 (KE k) = some (.int .i64 k) := keyOf_int_mk Try.underlying3 hk
theorem wf_small {k : Int} (h : 0 ≤ k ∧ k < 16) : (Lit.int .i64 k).wf = true := by
  have h1 : IntKind.i64.min = -9223372036854775808 := by rfl
  have h2 : IntKind.i64.max = 9223372036854775807 := by rfl
  simp [Lit.wf, h1, h2]
  omega

/-- What a map of slots holds behind a store. -/
def upd (f : Int → Option Sl) (k : Int) (s : Sl) : Int → Option Sl := fun j => if j = k then some s else f j
theorem put_sv (f : Int → Option Sl) (k : Int) (s : Sl) : put (fun j => (f j).map sv) k (sv s) = fun j => (upd f k s j).map sv := by
  funext j
  unfold put upd
  split <;> rfl
theorem getD_sv (o : Option Sl) : (o.map sv).getD (sv zs) = sv (o.getD zs) := by cases o <;> rfl
theorem isSome_sv (o : Option Sl) : (o.map sv).isSome = o.isSome := by cases o <;> rfl

/-- Block q is a map from units to slots. -/
structure WM (w : World) (q : Nat) (f : Int → Option Sl) : Prop where
  is : MapIs KE (.int .i64) w q (fun k => (f k).map sv)
  own : ∃ (n : Nat) (D : DataW Unit), w.ownsMap Try.prog 3 Rs q n D
  low : ∀ k, (f k).isSome = true → 0 ≤ k ∧ k < 16
section
variable {w w1 : World} {q : Nat} {f : Int → Option Sl}
theorem WM.made (w : World) : WM (w.alloc (.map #[] 0)) w.heap.size (fun _ => none) := ⟨MapIs.made w _ _, ⟨0, _, World.ownsMap_made w _ _ _⟩, fun k h => by simp at h⟩
theorem WM.lt (h : WM w q f) : q < w.heap.size := h.is.lt
theorem WM.kept {row : Option Nat} (h : WM w q f) (hg : w.grownBy w1 row) (hne : some q ≠ row) : WM w1 q f :=
  ⟨h.is.kept hg hne, by obtain ⟨n, D, ho⟩ := h.own; exact ⟨n, D, ho.kept hg hne⟩, h.low⟩
theorem WM.below (h : WM w q f) (hb : Below w.heap.size w w1) : WM w1 q f := h.kept (grown_of_below hb none) (by simp)
theorem WM.alloc (h : WM w q f) (o : Obj) : WM (w.alloc o) q f := h.kept (World.grownBy_alloc w o none) (by simp)
theorem WM.drewN (h : WM w q f) (n : Nat) : WM (w.drewN n) q f := ⟨h.is, h.own, h.low⟩
theorem WM.drew (h : WM w q f) : WM w.drew q f := ⟨h.is, h.own, h.low⟩
theorem WM.far (h : WM w q f) {p : Addr} (hp : q ≠ p.block) (u : Value) : WM (w.setCell p u) q f :=
  ⟨h.is.setCell hp u, by obtain ⟨n, D, ho⟩ := h.own; exact ⟨n, D, ho.setCell hp u⟩, h.low⟩

theorem WM.has (h : WM w q f) {n : Nat} {D : DataW Unit} (ho : w.ownsMap Try.prog 3 Rs q n D) (k : Int) : has D (.int .i64 k) = (f k).isSome := by
  by_cases hk : (Lit.int .i64 k).wf = true
  · obtain ⟨v, ps, hrun, _⟩ := ho.look_ok (int_keyed Try.underlying3) Try.underlying63 (zero_slot w) (Rs_sv zs) (key_of k hk)
    have h1 := h.is.look_ok (coded_int .i64) Try.underlying63 Try.underlying3 (zero_slot w) k
    rw [isSome_sv] at h1
    have h2 := hrun.symm.trans h1
    simp only [Result.ok.injEq, Value.tuple.injEq, and_true] at h2
    have h3 := congrArg (fun z : Array Value => z[1]?) h2
    simpa using h3
  · have e1 : f k = none := by
      cases e : f k with
      | none => rfl
      | some s => exact absurd (wf_small (h.low k (by rw [e]; rfl))) hk
    rw [e1]
    obtain ⟨es, rfl, hko⟩ := ho.keysOf
    rw [has_eq]
    rw [Option.isSome_none, List.any_eq_false]
    intro p hp hs
    obtain ⟨v, hv⟩ := hko p hp
    obtain ⟨x, _, hx, hl⟩ := Maps.keyOf_i64 Try.underlying3 hv
    rw [hx] at hs
    have : x = k := by simpa [Lit.sameKey] using hs
    exact hk (this ▸ hl)

/-- The own units. -/
def ownL (f : Int → Option Sl) : List Int := ((List.range 16).map Int.ofNat).filter (fun k => (f k).isSome)
theorem ownL_mem (hf : ∀ k, (f k).isSome = true → 0 ≤ k ∧ k < 16) (k : Int) : k ∈ ownL f ↔ (f k).isSome = true := by
  unfold ownL
  simp only [List.mem_filter, List.mem_map, List.mem_range]
  constructor
  · rintro ⟨_, h⟩; exact h
  · intro h
    obtain ⟨h1, h2⟩ := hf k h
    exact ⟨⟨k.toNat, by omega, by simp; omega⟩, h⟩
theorem ownL_len (f : Int → Option Sl) : (ownL f).length ≤ 16 := by
  have := List.length_filter_le (fun k => (f k).isSome) ((List.range 16).map Int.ofNat)
  simpa [ownL] using this
theorem ownL_sorted (f : Int → Option Sl) : (ownL f).Pairwise (fun a b => a < b) := by
  have h : ((List.range 16).map Int.ofNat).Pairwise (fun a b => a < b) := by decide
  exact h.filter _
theorem WM.perm (h : WM w q f) {n : Nat} {D : DataW Unit} (ho : w.ownsMap Try.prog 3 Rs q n D) : (ownL f).Perm (intKeys D) := by
  have hC : CollectedI D (fun _ => false) (ownL f) := ⟨(ownL_sorted f).imp (fun h => Int.ne_of_lt h), fun x => by rw [ownL_mem h.low, h.has ho]; simp⟩
  exact hC.perm ho (int_keyed Try.underlying3) Try.underlying3 (fun _ => rfl)
theorem WM.size (h : WM w q f) {n : Nat} {D : DataW Unit} (ho : w.ownsMap Try.prog 3 Rs q n D) : Maps.size D ≤ 16 ∧ w.ownsMap Try.prog 3 Rs q 16 D := by
  have h1 := (h.perm ho).length_eq
  have h2 := ownL_len f
  have h3 : Maps.size D ≤ 16 := by
    obtain ⟨es, rfl, _⟩ := ho.keysOf
    simp [intKeys] at h1
    simp [Maps.size]
    omega
  refine ⟨h3, ?_⟩
  obtain ⟨es, clock, hb, F, hs, rfl⟩ := ho
  exact ⟨es, clock, hb, F, by simpa [Maps.size, length_sorted] using h3, rfl⟩
theorem WM.sort (h : WM w q f) {n : Nat} {D : DataW Unit} (ho : w.ownsMap Try.prog 3 Rs q n D) {ss : List Int} (hs : ss.Perm (intKeys D)) : ss.mergeSort leI = ownL f := by
  rw [mergeSort_of_perm_i (hs.trans (h.perm ho).symm)]
  exact List.mergeSort_of_pairwise ((ownL_sorted f).imp (fun h => by simp [leI]; omega))

theorem WM.store (h : WM w q f) (k : Int) (hk : 0 ≤ k ∧ k < 16) (s : Sl) : ∃ w', (Instr.mapUpdate 63 (.map (some q)) (KE k) (sv s)).run Try.prog w = .ok () w' ∧ WM w' q (upd f k s) ∧ w.grownBy w' (some q) := by
  obtain ⟨n, D, ho⟩ := h.own
  obtain ⟨w', hrun, hM, hg⟩ := h.is.store (coded_int .i64) Try.underlying63 Try.underlying3 k (sv s)
  obtain ⟨w2, hrun2, ho2, hg2⟩ := (h.size ho).2.update (int_keyed Try.underlying3) Try.underlying63 (by decide) (key_of k (wf_small hk)) (Rs_sv s)
  rw [hrun] at hrun2
  injection hrun2 with _ e
  subst e
  rw [put_sv] at hM
  refine ⟨w', hrun, ⟨hM, ⟨_, _, ho2⟩, fun j hj => ?_⟩, hg⟩
  unfold upd at hj
  split at hj
  · rename_i e; rw [e]; exact hk
  · exact h.low j hj
end

section
variable {q : Nat} {f : Int → Option Sl} {ops : Array Oper} {rest : List Oper} {o : Oper} {a : Act} {Q : Exit → Act → World → Prop}
theorem wpList_put (w : World) (hg : o.guard = none) (m x v : Operand) (hop : o.op = Op.mapUpdate 63 m x v) (hm : a.eval m = .map (some q)) (h : WM w q f) (k : Int) (hk : 0 ≤ k ∧ k < 16) (hx : a.eval x = KE k) (s : Sl) (hv : a.eval v = sv s)
    (hK : ∀ w', WM w' q (upd f k s) → w.grownBy w' (some q) → wpList Try.prog ops Q rest (a.put o.dst undef) w') : wpList Try.prog ops Q (o :: rest) a w := by
  refine wpList_plain hg fun K' hK' => ?_
  obtain ⟨w', hrun, r1, r2⟩ := h.store k hk s
  unfold Oper.wp
  simp [execOp, hop, hm, hx, hv, hrun, Result.andThen]
  exact hK' _ _ (hK w' r1 r2)
theorem wpList_get (w : World) (hg : o.guard = none) (m x : Operand) (hop : o.op = Op.lookup 63 m x true) (hm : a.eval m = .map (some q)) (h : WM w q f) (k : Int) (hx : a.eval x = KE k)
    (hK : wpList Try.prog ops Q rest (a.put o.dst (.tuple #[sv ((f k).getD zs), .bool (f k).isSome])) w) : wpList Try.prog ops Q (o :: rest) a w := by
  refine wpList_look_ok w hg m x 63 hop (coded_int .i64) Try.underlying63 Try.underlying3 (sv zs) (zero_slot w) hm h.is k hx ?_
  rw [getD_sv, isSome_sv]
  exact hK
end

/-- Block g is a worker: its map is block q: the highest epoch seen, who is where. -/
structure Wk (w : World) (g q : Nat) (seen : Int) (f : Int → Option Sl) : Prop where
  blk : IsBlk w g #[.map (some q), .int .i64 seen] 65
  map : WM w q f
section
variable {w w1 : World} {g q g1 q1 : Nat} {seen : Int} {f : Int → Option Sl}
theorem Wk.below (h : Wk w g q seen f) (hb : Below w.heap.size w w1) : Wk w1 g q seen f := ⟨h.blk.below hb, h.map.below hb⟩
theorem Wk.alloc (h : Wk w g q seen f) (o : Obj) : Wk (w.alloc o) g q seen f := ⟨h.blk.alloc o, h.map.alloc o⟩
theorem Wk.drewN (h : Wk w g q seen f) (n : Nat) : Wk (w.drewN n) g q seen f := ⟨h.blk.drewN n, h.map.drewN n⟩
theorem Wk.drew (h : Wk w g q seen f) : Wk w.drew g q seen f := ⟨h.blk.drew, h.map.drew⟩
theorem Wk.far (h : Wk w g q seen f) {p : Addr} (hb : g ≠ p.block) (hq : q ≠ p.block) (u : Value) : Wk (w.setCell p u) g q seen f := ⟨h.blk.far hb u, h.map.far hq u⟩
theorem Wk.ne (h : Wk w g q seen f) : g ≠ q := by
  intro e
  subst e
  obtain ⟨es, clock, h0, _⟩ := h.map.is
  have h1 := h.blk
  unfold IsBlk at h1
  rw [h1] at h0
  cases h0
theorem Wk.but (h : Wk w g q seen f) (hb : But2 w w1 g1 q1) (n1 : g ≠ g1) (n2 : g ≠ q1) (n3 : q ≠ g1) (n4 : q ≠ q1) (h1 : q1 < w.heap.size) (h2 : g1 ≠ q1) : Wk w1 g q seen f := by
  obtain ⟨wm, k1, k2⟩ := hb.parts h1 h2
  exact ⟨h.blk.but hb n1 n2, (h.map.kept k1 (by simpa using n4)).kept k2 (by simpa using n3)⟩
end
end Go.Proofs.Ytkjaeodnpgpfeaa.W0

