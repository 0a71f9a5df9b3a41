/-
  Proved here: what lease.New, Get answer and leave: a table is a margin and a function from names to leases. No condition.
-/
import Derived.Test.YtnjmhiglpapopaaPLeaseMarginx1
import Derived.Test.YtnjmhiglpapopaaM
import Derived.Maps.OwnOps
import Derived.Outline
namespace Go.Proofs.Ytnjmhiglpapopaa.L0
open Go.RowKit Go.Proofs.Ytnjmhiglpapopaa.M Go.Proofs.YtnjmhiglpapopaaW.PrintWords Go.Proofs.YtnjmhiglpapopaaW.PrintLast Go.Proofs.YtnjmhiglpapopaaW.PrintMore
set_option linter.unusedVariables false
set_option linter.unusedSimpArgs false
attribute [local go_sem] max2_int min2_int max_two min_two

/-- Block g is these cells, none of them frozen. -/
def IsBlk (w : World) (g : Nat) (cs : Array Value) (t : TypeId) : Prop := w.heap[g]? = some (.cells cs t (0, 0))
theorem IsBlk.below {W w1 : World} {g : Nat} {t : TypeId} {cs : Array Value} (h : IsBlk W g cs t) (hb : Below W.heap.size W w1) : IsBlk w1 g cs t := (hb.block g (blk_lt h)).trans h
theorem IsBlk.alloc {w : World} {g : Nat} {t : TypeId} {cs : Array Value} (h : IsBlk w g cs t) (o : Obj) : IsBlk (w.alloc o) g cs t := (Below.heap_alloc w o g (blk_lt h)).trans h
theorem IsBlk.drewN {w : World} {g : Nat} {t : TypeId} {cs : Array Value} (h : IsBlk w g cs t) (n : Nat) : IsBlk (w.drewN n) g cs t := h
theorem IsBlk.drew {w : World} {g : Nat} {t : TypeId} {cs : Array Value} (h : IsBlk w g cs t) : IsBlk w.drew g cs t := h
theorem IsBlk.far {w : World} {g : Nat} {t : TypeId} {cs : Array Value} (h : IsBlk w g cs t) {p : Addr} (hp : g ≠ p.block) (u : Value) : IsBlk (w.setCell p u) g cs t := blk_far h hp u
theorem IsBlk.new {W : World} {g : Nat} (t : TypeId) (cs : Array Value) (hg : g = W.heap.size) : IsBlk (W.alloc (.cells cs t)) g cs t := by
  subst hg; exact heap_alloc_new W _

/-- A lease. -/
structure Le where
  h : Int
  e : Int
  u : Int
deriving DecidableEq

abbrev lv (l : Le) : Value := .agg #[.int .i64 l.h, .int .i64 l.e, .int .i64 l.u]
abbrev enc (s : ByteArray) : Value := .string s
def noLe : Le := ⟨0, 0, 0⟩

/-- Block b is a table, its map block q: a margin, who holds what. -/
structure Tab (w : World) (b q : Nat) (m : Int) (g : ByteArray → Option Le) : Prop where
  blk : IsBlk w b #[.int .i64 m, .map (some q)] 51
  map : MapIs enc .string w q (fun k => (g k).map lv)

theorem Tab.below {w w1 : World} {b q : Nat} {m : Int} {g : ByteArray → Option Le} (h : Tab w b q m g) (hb : Below w.heap.size w w1) : Tab w1 b q m g := ⟨h.blk.below hb, h.map.below hb⟩
theorem Tab.alloc {w : World} {b q : Nat} {m : Int} {g : ByteArray → Option Le} (h : Tab w b q m g) (o : Obj) : Tab (w.alloc o) b q m g := ⟨h.blk.alloc o, h.map.alloc o⟩
theorem Tab.drewN {w : World} {b q : Nat} {m : Int} {g : ByteArray → Option Le} (h : Tab w b q m g) (n : Nat) : Tab (w.drewN n) b q m g := ⟨h.blk.drewN n, h.map.drewN n⟩
theorem Tab.far {w : World} {b q : Nat} {m : Int} {g : ByteArray → Option Le} (h : Tab w b q m g) {p : Addr} (hb : b ≠ p.block) (hq : q ≠ p.block) (u : Value) : Tab (w.setCell p u) b q m g := ⟨h.blk.far hb u, h.map.setCell hq u⟩
theorem Tab.ne {w : World} {b q : Nat} {m : Int} {g : ByteArray → Option Le} (h : Tab w b q m g) : b ≠ q := by
  intro e
  subst e
  obtain ⟨es, clock, h0, _⟩ := h.map
  have h1 := h.blk
  unfold IsBlk at h1
  rw [h1] at h0
  cases h0

theorem zero40 (w : World) : (zeroValue 40).run Try.prog w = .ok (lv noLe) w := by
  rfl

theorem getD_lv (o : Option Le) : (o.map lv).getD (lv noLe) = lv (o.getD noLe) := by cases o <;> rfl

set_option maxHeartbeats 1000000 in
theorem get_q (b q : Nat) (m : Int) (g : ByteArray → Option Le) (n : ByteArray) (w : World) (h : Tab w b q m g) :
    Calls Try.prog 17 #[.pointer (some ⟨b, 0, none⟩), .string n] w fun e w' => e = .returned (.tuple #[lv ((g n).getD noLe), .bool (g n).isSome]) ∧ Below w.heap.size w w' := by
  have HB := Aside0.mk (Below.refl w.heap.size w)
  have hc0 := blk_cell h.blk 0
  have hc1 := blk_cell h.blk 1
  simp only [List.getElem?_toArray, List.getElem?_cons_zero, List.getElem?_cons_succ] at hc0 hc1
  have hl := blk_lt h.blk
  have hM := Aside0.mk h.map
  clear h
  go_enter Try.func17, Try.ntmps17
  go_wp2_with (at_lookup; refine wpList_look_ok (f := fun k => (g k).map lv) (b := q) (enc := enc) _ rfl _ _ 49 rfl coded_string Try.underlying49 Try.underlying9 _ (zero40 _) rfl (hM.out.alloc _) n rfl ?_)
  exact bodyPost_ret (v := .tuple #[lv ((g n).getD noLe), .bool (g n).isSome]) (by simp [results, Try.results17, go_sem]) rfl ⟨rfl, by repeat (first | (with_reducible first | exact HB.out | apply below_alloc) | refine below_set ?_ (by omega))⟩

theorem get_nil (n : ByteArray) (w : World) :
    Calls Try.prog 17 #[.pointer none, .string n] w fun e w' => e = .returned (.tuple #[lv noLe, .bool false]) ∧ Below w.heap.size w w' := by
  have HB := Aside0.mk (Below.refl w.heap.size w)
  go_enter Try.func17, Try.ntmps17
  go_wp2
  exact bodyPost_ret (v := .tuple #[lv noLe, .bool false]) (by simp [results, Try.results17, go_sem, noLe]) rfl ⟨rfl, by repeat (first | (with_reducible first | exact HB.out | apply below_alloc) | refine below_set ?_ (by omega))⟩

/-! ### what a table answers -/
def late (a b : Int) : Int := mn (wrap64 (a + b)) 1099511627776
theorem late_q (a b : Int) (w : World) : Calls Try.prog 22 #[.int .i64 a, .int .i64 b] w fun e w' => e = .returned (.int .i64 (late a b)) ∧ w' = w := by
  obtain ⟨y, hy⟩ : ∃ y, wrap64 (a + b) = y := ⟨_, rfl⟩
  obtain ⟨x, hx⟩ : ∃ x, mn y 1099511627776 = x := ⟨_, rfl⟩
  have e : late a b = x := by unfold late; rw [hy, hx]
  have hx_ : (if 1099511627776 < y then 1099511627776 else y) = x := hx
  rw [e]
  clear e hx
  go_enter Try.func22, Try.ntmps22
  go_wp2
  go_ret
  exact ⟨rfl, rfl⟩

def free (g : ByteArray → Option Le) (m : Int) (n : ByteArray) (now : Int) : Bool :=
  match g n with
  | none => true
  | some l => (l.u == 0) || decide (now ≥ late l.u m)
def holds (g : ByteArray → Option Le) (n : ByteArray) (h e now : Int) : Bool :=
  match g n with
  | none => false
  | some l => (l.h == h) && (l.e == e) && decide (l.u > 0) && decide (now < l.u)

set_option maxHeartbeats 1000000 in
theorem free_none (b q : Nat) (m : Int) (g : ByteArray → Option Le) (n : ByteArray) (now : Int) (w : World) (h : Tab w b q m g) (hg : g n = none) :
    Calls Try.prog 11 #[.pointer (some ⟨b, 0, none⟩), .string n, .int .i64 now] w fun e w' => e = .returned (.bool true) ∧ Below w.heap.size w w' := by
  have HB := Aside0.mk (Below.refl w.heap.size w)
  have hT := Aside0.mk h
  clear h
  go_enter Try.func11, Try.ntmps11
  go_wp2_with fail
  refine (get_q b q m g n _ hT.out).mono ?_
  rw [hg]
  rintro e w1 ⟨rfl, hb1⟩
  have n0 := Aside0.mk (below_step (by repeat (first | (with_reducible first | exact HB.out | apply below_alloc) | refine below_set ?_ (by omega))) hb1)
  have T1 := Aside0.mk (hT.out.below hb1)
  have hl := blk_lt T1.out.blk
  have hc0 := blk_cell T1.out.blk 0
  simp only [List.getElem?_toArray, List.getElem?_cons_zero, List.getElem?_cons_succ] at hc0
  clear HB hb1 hT
  have HB := n0
  clear n0
  go_wp2_with fail
  go_quiet (fail)
  go_wp2
  go_ret
  exact ⟨rfl, by repeat (first | (with_reducible first | exact HB.out | apply below_alloc | apply pw_below_drewN | apply below_drew1) | refine below_set ?_ (by omega))⟩

set_option maxHeartbeats 1000000 in
theorem free_zero (b q : Nat) (m : Int) (g : ByteArray → Option Le) (n : ByteArray) (now : Int) (w : World) (h : Tab w b q m g) (l : Le) (hg : g n = some l) (h0 : (l.u == 0) = true) :
    Calls Try.prog 11 #[.pointer (some ⟨b, 0, none⟩), .string n, .int .i64 now] w fun e w' => e = .returned (.bool true) ∧ Below w.heap.size w w' := by
  have HB := Aside0.mk (Below.refl w.heap.size w)
  have hT := Aside0.mk h
  clear h
  go_enter Try.func11, Try.ntmps11
  go_wp2_with fail
  refine (get_q b q m g n _ hT.out).mono ?_
  rw [hg]
  rintro e w1 ⟨rfl, hb1⟩
  have n0 := Aside0.mk (below_step (by repeat (first | (with_reducible first | exact HB.out | apply below_alloc) | refine below_set ?_ (by omega))) hb1)
  have T1 := Aside0.mk (hT.out.below hb1)
  have hl := blk_lt T1.out.blk
  have hc0 := blk_cell T1.out.blk 0
  simp only [List.getElem?_toArray, List.getElem?_cons_zero, List.getElem?_cons_succ] at hc0
  clear HB hb1 hT
  have HB := n0
  clear n0
  go_wp2_with fail
  go_quiet (fail)
  go_wp2
  go_ret
  exact ⟨rfl, by repeat (first | (with_reducible first | exact HB.out | apply below_alloc | apply pw_below_drewN | apply below_drew1) | refine below_set ?_ (by omega))⟩

set_option maxHeartbeats 1000000 in
theorem free_some (b q : Nat) (m : Int) (g : ByteArray → Option Le) (n : ByteArray) (now : Int) (w : World) (h : Tab w b q m g) (l : Le) (hg : g n = some l) (h0 : (l.u == 0) = false) :
    Calls Try.prog 11 #[.pointer (some ⟨b, 0, none⟩), .string n, .int .i64 now] w fun e w' => e = .returned (.bool (decide (now ≥ late l.u m))) ∧ Below w.heap.size w w' := by
  have HB := Aside0.mk (Below.refl w.heap.size w)
  have hT := Aside0.mk h
  clear h
  go_enter Try.func11, Try.ntmps11
  go_wp2_with fail
  refine (get_q b q m g n _ hT.out).mono ?_
  rw [hg]
  rintro e w1 ⟨rfl, hb1⟩
  have n0 := Aside0.mk (below_step (by repeat (first | (with_reducible first | exact HB.out | apply below_alloc) | refine below_set ?_ (by omega))) hb1)
  have T1 := Aside0.mk (hT.out.below hb1)
  have hl := blk_lt T1.out.blk
  have hc0 := blk_cell T1.out.blk 0
  simp only [List.getElem?_toArray, List.getElem?_cons_zero, List.getElem?_cons_succ] at hc0
  clear HB hb1 hT
  have HB := n0
  clear n0
  go_wp2_with fail
  go_quiet ((go_at_call 22; exact Calls.quiet_of_same (late_q _ _ _)))
  go_wp2
  go_ret
  exact ⟨rfl, by repeat (first | (with_reducible first | exact HB.out | apply below_alloc | apply pw_below_drewN | apply below_drew1) | refine below_set ?_ (by omega))⟩

theorem free_q (b q : Nat) (m : Int) (g : ByteArray → Option Le) (n : ByteArray) (now : Int) (w : World) (h : Tab w b q m g) :
    Calls Try.prog 11 #[.pointer (some ⟨b, 0, none⟩), .string n, .int .i64 now] w fun e w' => e = .returned (.bool (free g m n now)) ∧ Below w.heap.size w w' := by
  unfold free
  cases hg : g n with
  | none => exact free_none b q m g n now w h hg
  | some l =>
    cases h0 : (l.u == 0) with
    | true => simpa [h0] using free_zero b q m g n now w h l hg h0
    | false => simpa [h0] using free_some b q m g n now w h l hg h0

set_option maxHeartbeats 1000000 in
theorem holds_none (b q : Nat) (m : Int) (g : ByteArray → Option Le) (n : ByteArray) (a c now : Int) (w : World) (h : Tab w b q m g) (hg : g n = none) :
    Calls Try.prog 12 #[.pointer (some ⟨b, 0, none⟩), .string n, .int .i64 a, .int .i64 c, .int .i64 now] w fun e w' => e = .returned (.bool false) ∧ Below w.heap.size w w' := by
  have HB := Aside0.mk (Below.refl w.heap.size w)
  have hT := Aside0.mk h
  clear h
  go_enter Try.func12, Try.ntmps12
  go_wp2_with fail
  refine (get_q b q m g n _ hT.out).mono ?_
  rw [hg]
  rintro e w1 ⟨rfl, hb1⟩
  have n0 := Aside0.mk (below_step (by repeat (first | (with_reducible first | exact HB.out | apply below_alloc) | refine below_set ?_ (by omega))) hb1)
  have T1 := Aside0.mk (hT.out.below hb1)
  have hl := blk_lt T1.out.blk
  have hc0 := blk_cell T1.out.blk 0
  simp only [List.getElem?_toArray, List.getElem?_cons_zero, List.getElem?_cons_succ] at hc0
  clear HB hb1 hT
  have HB := n0
  clear n0
  go_wp2
  go_ret
  exact ⟨rfl, by repeat (first | (with_reducible first | exact HB.out | apply below_alloc | apply pw_below_drewN | apply below_drew1) | refine below_set ?_ (by omega))⟩

set_option maxHeartbeats 1000000 in
theorem holds_some (b q : Nat) (m : Int) (g : ByteArray → Option Le) (n : ByteArray) (a c now : Int) (w : World) (h : Tab w b q m g) (l : Le) (hg : g n = some l) (x1 x2 y z : Bool) (hx1 : (l.h == a) = x1) (hx2 : (l.e == c) = x2) (hy : decide (l.u > 0) = y) (hz : decide (now < l.u) = z) :
    Calls Try.prog 12 #[.pointer (some ⟨b, 0, none⟩), .string n, .int .i64 a, .int .i64 c, .int .i64 now] w fun e w' => e = .returned (.bool (x1 && x2 && y && z)) ∧ Below w.heap.size w w' := by
  have HB := Aside0.mk (Below.refl w.heap.size w)
  have hT := Aside0.mk h
  clear h
  go_enter Try.func12, Try.ntmps12
  go_wp2_with fail
  refine (get_q b q m g n _ hT.out).mono ?_
  rw [hg]
  rintro e w1 ⟨rfl, hb1⟩
  have n0 := Aside0.mk (below_step (by repeat (first | (with_reducible first | exact HB.out | apply below_alloc) | refine below_set ?_ (by omega))) hb1)
  have T1 := Aside0.mk (hT.out.below hb1)
  have hl := blk_lt T1.out.blk
  have hc0 := blk_cell T1.out.blk 0
  simp only [List.getElem?_toArray, List.getElem?_cons_zero, List.getElem?_cons_succ] at hc0
  clear HB hb1 hT
  have HB := n0
  clear n0
  cases x1 <;> cases x2 <;> cases y <;> cases z <;> (go_wp2; go_ret; exact ⟨rfl, by repeat (first | (with_reducible first | exact HB.out | apply below_alloc | apply pw_below_drewN | apply below_drew1) | refine below_set ?_ (by omega))⟩)

theorem holds_q (b q : Nat) (m : Int) (g : ByteArray → Option Le) (n : ByteArray) (a c now : Int) (w : World) (h : Tab w b q m g) :
    Calls Try.prog 12 #[.pointer (some ⟨b, 0, none⟩), .string n, .int .i64 a, .int .i64 c, .int .i64 now] w fun e w' => e = .returned (.bool (holds g n a c now)) ∧ Below w.heap.size w w' := by
  unfold holds
  cases hg : g n with
  | none => exact holds_none b q m g n a c now w h hg
  | some l => exact holds_some b q m g n a c now w h l hg _ _ _ _ rfl rfl rfl rfl
end Go.Proofs.Ytnjmhiglpapopaa.L0
