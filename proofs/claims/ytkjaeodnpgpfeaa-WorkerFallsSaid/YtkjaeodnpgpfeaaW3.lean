/-
  Proved here: what worker.Go, Hurt, Heal, Report, Apply answer and leave; a worker that isn't there. No condition.
-/
import Derived.Test.YtkjaeodnpgpfeaaW2
namespace Go.Proofs.Ytkjaeodnpgpfeaa.W3
open Go.RowKit Go.Maps Go.Sort Go.Shelf Go.Proofs.Ytkjaeodnpgpfeaa.M Go.Proofs.Ytkjaeodnpgpfeaa.S0 Go.Proofs.Ytkjaeodnpgpfeaa.S4 Go.Proofs.Ytkjaeodnpgpfeaa.W0 Go.Proofs.YtkjaeodnpgpfeaaW.PrintWords Go.Proofs.YtkjaeodnpgpfeaaW.PrintLast Go.Proofs.YtkjaeodnpgpfeaaW.PrintMore Go.Proofs.Ytkjaeodnpgpfeaa.W1 Go.Proofs.Ytkjaeodnpgpfeaa.W2
set_option linter.unusedVariables false
set_option linter.unusedSimpArgs false
theorem min_five (ats : Array TypeId) (ty : TypeId) (a b c d e : Value) : Builtin.min_ ats ty #[a, b, c, d, e] = (Builtin.min2 a b >>= fun s => Builtin.min2 s c >>= fun s => Builtin.min2 s d >>= fun s => Builtin.min2 s e >>= fun s => pure s) := by
  simp only [Builtin.min_, List.foldlM_cons, List.foldlM_nil]
attribute [local go_sem] max2_int min2_int max_two min_two min_five run_makeMap

/-- A unit's turning: what the map is then; whether it did. -/
def app (f : Int → Option Sl) (k : Int) (t : Sl → Sl × Bool) : (Int → Option Sl) × Bool :=
  match f k with
  | none => (f, false)
  | some s => (upd f k (t s).1, (t s).2)
theorem kept_by {w w' : World} (g q : Nat) (seen : Int) (f : Int → Option Sl) (h : Wk w g q seen f) {f' : Int → Option Sl} (hm : WM w' q f') (hg : w.grownBy w' (some q)) : Wk w' g q seen f' := ⟨h.blk.grownBy hg h.ne, hm⟩

theorem go_turn (g q : Nat) (seen : Int) (f : Int → Option Sl) (k : Int) (w : World) (h : Wk w g q seen f) : Calls Try.prog 34 #[.pointer (some ⟨g, 0, none⟩), .int .i64 k, .func (.func 36) #[] #[]] w fun e w' => e = .returned (.bool (app f k (fun s => goes s)).2) ∧ Wk w' g q seen (app f k (fun s => goes s)).1 ∧ w.grownBy w' (some q) := by
  unfold app
  cases e : f k with
  | none =>
    refine (go_none g q seen f k w h e).mono ?_
    rintro e w' ⟨rfl, hb⟩
    exact ⟨rfl, h.below hb, grown_of_below hb _⟩
  | some s =>
    obtain ⟨a, b, c, d⟩ := s
    dsimp only
    rcases hx : goes ⟨a, b, c, d⟩ with ⟨⟨a', b', c', d'⟩, y⟩
    refine (go_l g q seen f k a b c d a' b' c' d' y w h e hx).mono ?_
    rintro e w' ⟨rfl, hm, hg⟩
    exact ⟨rfl, kept_by g q seen f h hm hg, hg⟩

theorem go_w (g q : Nat) (seen : Int) (f : Int → Option Sl) (k : Int) (w : World) (h : Wk w g q seen f) : Calls Try.prog 20 #[.pointer (some ⟨g, 0, none⟩), .int .i64 k] w fun e w' => e = .returned (.bool (app f k (fun s => goes s)).2) ∧ Wk w' g q seen (app f k (fun s => goes s)).1 ∧ w.grownBy w' (some q) := by
  have HK := Aside0.mk h
  clear h
  rcases hr : app f k (fun s => goes s) with ⟨f', y⟩
  dsimp only
  have HR := Aside0.mk hr
  clear hr
  go_enter Try.func20, Try.ntmps20
  go_wp2_with fail
  refine (go_turn g q seen f k _ HK.out).mono ?_
  rw [HR.out]
  dsimp only
  rintro e w1 ⟨rfl, hk, hg⟩
  have HK1 := Aside0.mk hk
  have HG := Aside0.mk hg
  clear hk hg
  go_wp2
  go_ret
  exact ⟨rfl, HK1.out, HG.out⟩
theorem go_wnil (k : Int) (w : World) : Calls Try.prog 20 #[.pointer none, .int .i64 k] w fun e w' => e = .returned (.bool false) ∧ Below w.heap.size w w' := by
  have HB := Aside0.mk (Below.refl w.heap.size w)
  go_enter Try.func20, Try.ntmps20
  go_wp2_with fail
  refine (go_nil k _).mono ?_
  rintro e w1 ⟨rfl, hb1⟩
  have n0 := Aside0.mk (below_step (by repeat (first | (with_reducible first | exact HB.out | apply below_alloc | apply pw_below_drewN | apply below_drew1) | refine below_set ?_ (by omega))) hb1)
  clear HB hb1
  have HB := n0
  clear n0
  go_wp2
  go_ret
  exact ⟨rfl, by repeat (first | (with_reducible first | exact HB.out | apply below_alloc | apply pw_below_drewN | apply below_drew1) | refine below_set ?_ (by omega))⟩

theorem hurt_turn (g q : Nat) (seen : Int) (f : Int → Option Sl) (k : Int) (w : World) (h : Wk w g q seen f) : Calls Try.prog 34 #[.pointer (some ⟨g, 0, none⟩), .int .i64 k, .func (.func 41) #[] #[]] w fun e w' => e = .returned (.bool (app f k (fun s => turns s 2 3)).2) ∧ Wk w' g q seen (app f k (fun s => turns s 2 3)).1 ∧ w.grownBy w' (some q) := by
  unfold app
  cases e : f k with
  | none =>
    refine (hurt_none g q seen f k w h e).mono ?_
    rintro e w' ⟨rfl, hb⟩
    exact ⟨rfl, h.below hb, grown_of_below hb _⟩
  | some s =>
    obtain ⟨a, b, c, d⟩ := s
    dsimp only
    rcases hx : turns ⟨a, b, c, d⟩ 2 3 with ⟨⟨a', b', c', d'⟩, y⟩
    refine (hurt_l g q seen f k a b c d a' b' c' d' y w h e hx).mono ?_
    rintro e w' ⟨rfl, hm, hg⟩
    exact ⟨rfl, kept_by g q seen f h hm hg, hg⟩

theorem hurt_w (g q : Nat) (seen : Int) (f : Int → Option Sl) (k : Int) (w : World) (h : Wk w g q seen f) : Calls Try.prog 23 #[.pointer (some ⟨g, 0, none⟩), .int .i64 k] w fun e w' => e = .returned (.bool (app f k (fun s => turns s 2 3)).2) ∧ Wk w' g q seen (app f k (fun s => turns s 2 3)).1 ∧ w.grownBy w' (some q) := by
  have HK := Aside0.mk h
  clear h
  rcases hr : app f k (fun s => turns s 2 3) with ⟨f', y⟩
  dsimp only
  have HR := Aside0.mk hr
  clear hr
  go_enter Try.func23, Try.ntmps23
  go_wp2_with fail
  refine (hurt_turn g q seen f k _ HK.out).mono ?_
  rw [HR.out]
  dsimp only
  rintro e w1 ⟨rfl, hk, hg⟩
  have HK1 := Aside0.mk hk
  have HG := Aside0.mk hg
  clear hk hg
  go_wp2
  go_ret
  exact ⟨rfl, HK1.out, HG.out⟩
theorem hurt_wnil (k : Int) (w : World) : Calls Try.prog 23 #[.pointer none, .int .i64 k] w fun e w' => e = .returned (.bool false) ∧ Below w.heap.size w w' := by
  have HB := Aside0.mk (Below.refl w.heap.size w)
  go_enter Try.func23, Try.ntmps23
  go_wp2_with fail
  refine (hurt_nil k _).mono ?_
  rintro e w1 ⟨rfl, hb1⟩
  have n0 := Aside0.mk (below_step (by repeat (first | (with_reducible first | exact HB.out | apply below_alloc | apply pw_below_drewN | apply below_drew1) | refine below_set ?_ (by omega))) hb1)
  clear HB hb1
  have HB := n0
  clear n0
  go_wp2
  go_ret
  exact ⟨rfl, by repeat (first | (with_reducible first | exact HB.out | apply below_alloc | apply pw_below_drewN | apply below_drew1) | refine below_set ?_ (by omega))⟩

theorem heal_turn (g q : Nat) (seen : Int) (f : Int → Option Sl) (k : Int) (w : World) (h : Wk w g q seen f) : Calls Try.prog 34 #[.pointer (some ⟨g, 0, none⟩), .int .i64 k, .func (.func 42) #[] #[]] w fun e w' => e = .returned (.bool (app f k (fun s => turns s 3 2)).2) ∧ Wk w' g q seen (app f k (fun s => turns s 3 2)).1 ∧ w.grownBy w' (some q) := by
  unfold app
  cases e : f k with
  | none =>
    refine (heal_none g q seen f k w h e).mono ?_
    rintro e w' ⟨rfl, hb⟩
    exact ⟨rfl, h.below hb, grown_of_below hb _⟩
  | some s =>
    obtain ⟨a, b, c, d⟩ := s
    dsimp only
    rcases hx : turns ⟨a, b, c, d⟩ 3 2 with ⟨⟨a', b', c', d'⟩, y⟩
    refine (heal_l g q seen f k a b c d a' b' c' d' y w h e hx).mono ?_
    rintro e w' ⟨rfl, hm, hg⟩
    exact ⟨rfl, kept_by g q seen f h hm hg, hg⟩

theorem heal_w (g q : Nat) (seen : Int) (f : Int → Option Sl) (k : Int) (w : World) (h : Wk w g q seen f) : Calls Try.prog 24 #[.pointer (some ⟨g, 0, none⟩), .int .i64 k] w fun e w' => e = .returned (.bool (app f k (fun s => turns s 3 2)).2) ∧ Wk w' g q seen (app f k (fun s => turns s 3 2)).1 ∧ w.grownBy w' (some q) := by
  have HK := Aside0.mk h
  clear h
  rcases hr : app f k (fun s => turns s 3 2) with ⟨f', y⟩
  dsimp only
  have HR := Aside0.mk hr
  clear hr
  go_enter Try.func24, Try.ntmps24
  go_wp2_with fail
  refine (heal_turn g q seen f k _ HK.out).mono ?_
  rw [HR.out]
  dsimp only
  rintro e w1 ⟨rfl, hk, hg⟩
  have HK1 := Aside0.mk hk
  have HG := Aside0.mk hg
  clear hk hg
  go_wp2
  go_ret
  exact ⟨rfl, HK1.out, HG.out⟩
theorem heal_wnil (k : Int) (w : World) : Calls Try.prog 24 #[.pointer none, .int .i64 k] w fun e w' => e = .returned (.bool false) ∧ Below w.heap.size w w' := by
  have HB := Aside0.mk (Below.refl w.heap.size w)
  go_enter Try.func24, Try.ntmps24
  go_wp2_with fail
  refine (heal_nil k _).mono ?_
  rintro e w1 ⟨rfl, hb1⟩
  have n0 := Aside0.mk (below_step (by repeat (first | (with_reducible first | exact HB.out | apply below_alloc | apply pw_below_drewN | apply below_drew1) | refine below_set ?_ (by omega))) hb1)
  clear HB hb1
  have HB := n0
  clear n0
  go_wp2
  go_ret
  exact ⟨rfl, by repeat (first | (with_reducible first | exact HB.out | apply below_alloc | apply pw_below_drewN | apply below_drew1) | refine below_set ?_ (by omega))⟩

theorem fall_turn (g q : Nat) (seen : Int) (f : Int → Option Sl) (k : Int) (w : World) (h : Wk w g q seen f) : Calls Try.prog 34 #[.pointer (some ⟨g, 0, none⟩), .int .i64 k, .func (.func 35) #[] #[]] w fun e w' => e = .returned (.bool (app f k (fun s => falls s)).2) ∧ Wk w' g q seen (app f k (fun s => falls s)).1 ∧ w.grownBy w' (some q) := by
  unfold app
  cases e : f k with
  | none =>
    refine (fall_none g q seen f k w h e).mono ?_
    rintro e w' ⟨rfl, hb⟩
    exact ⟨rfl, h.below hb, grown_of_below hb _⟩
  | some s =>
    obtain ⟨a, b, c, d⟩ := s
    dsimp only
    rcases hx : falls ⟨a, b, c, d⟩ with ⟨⟨a', b', c', d'⟩, y⟩
    refine (fall_l g q seen f k a b c d a' b' c' d' y w h e hx).mono ?_
    rintro e w' ⟨rfl, hm, hg⟩
    exact ⟨rfl, kept_by g q seen f h hm hg, hg⟩

/-! ### Report -/
set_option maxHeartbeats 1000000 in
theorem report_none (g q : Nat) (seen : Int) (f : Int → Option Sl) (k : Int) (w : World) (h : Wk w g q seen f) (he : f k = none) : Calls Try.prog 22 #[.pointer (some ⟨g, 0, none⟩), .int .i64 k] w fun e w' => e = .returned (.tuple #[.agg #[.int .i64 0, .int .i64 0, .int .i64 0, .int .i64 0, .int .i64 0, .int .i64 0], .bool false]) ∧ Below w.heap.size w w' := by
  have HB := Aside0.mk (Below.refl w.heap.size w)
  have HK := Aside0.mk h
  have HE := Aside0.mk he
  clear h he
  go_enter Try.func22, Try.ntmps22
  go_wp2_with fail
  refine (slot_l g q seen f k 0 0 0 0 false _ (by repeat (with_reducible first | exact HK.out | apply Wk.alloc | apply Wk.drewN | apply Wk.drew)) (nil_slot f k HE.out) (by rw [HE.out]; rfl)).mono ?_
  rintro e w1 ⟨rfl, hb1⟩
  have D : IsBlk w1 w.heap.size #[.int .i64 0, .int .i64 0, .int .i64 0, .int .i64 0, .int .i64 0, .int .i64 0] 26 := IsBlk.below (by repeat (first | ((refine IsBlk.new _ _ ?_); (first | rfl | simp); done) | apply IsBlk.alloc | apply IsBlk.drewN | apply IsBlk.drew)) hb1
  have D_0 := blk_cell D 0
  have D_1 := blk_cell D 1
  have D_2 := blk_cell D 2
  have D_3 := blk_cell D 3
  have D_4 := blk_cell D 4
  have D_5 := blk_cell D 5
  simp only [List.getElem?_toArray, List.getElem?_cons_zero, List.getElem?_cons_succ] at D_0 D_1 D_2 D_3 D_4 D_5
  have D_z0 := blk_frozen D 0
  have D_z1 := blk_frozen D 1
  have D_z2 := blk_frozen D 2
  have D_z3 := blk_frozen D 3
  have D_z4 := blk_frozen D 4
  have D_z5 := blk_frozen D 5
  have D_l := blk_lt D
  have HD := Aside0.mk D
  clear D
  have n0 := Aside0.mk (below_step (by repeat (first | (with_reducible first | exact HB.out | apply below_alloc | apply pw_below_drewN | apply below_drew1) | refine below_set ?_ (by omega))) hb1)
  clear HB hb1
  have HB := n0
  clear n0
  go_wp2
  exact bodyPost_ret (v := .tuple #[.agg #[.int .i64 0, .int .i64 0, .int .i64 0, .int .i64 0, .int .i64 0, .int .i64 0], .bool false]) (by simp [results, Try.results22, go_sem, *]) rfl ⟨rfl, by repeat (first | (with_reducible first | exact HB.out | apply below_alloc | apply pw_below_drewN | apply below_drew1) | refine below_set ?_ (by omega))⟩
set_option maxHeartbeats 1000000 in
theorem report_nil (k : Int) (w : World) : Calls Try.prog 22 #[.pointer none, .int .i64 k] w fun e w' => e = .returned (.tuple #[.agg #[.int .i64 0, .int .i64 0, .int .i64 0, .int .i64 0, .int .i64 0, .int .i64 0], .bool false]) ∧ Below w.heap.size w w' := by
  have HB := Aside0.mk (Below.refl w.heap.size w)
  go_enter Try.func22, Try.ntmps22
  go_wp2_with fail
  refine (slot_nil k _).mono ?_
  rw [show sv zs = S1.sval 0 0 0 0 from rfl]
  rintro e w1 ⟨rfl, hb1⟩
  have D : IsBlk w1 w.heap.size #[.int .i64 0, .int .i64 0, .int .i64 0, .int .i64 0, .int .i64 0, .int .i64 0] 26 := IsBlk.below (by repeat (first | ((refine IsBlk.new _ _ ?_); (first | rfl | simp); done) | apply IsBlk.alloc | apply IsBlk.drewN | apply IsBlk.drew)) hb1
  have D_0 := blk_cell D 0
  have D_1 := blk_cell D 1
  have D_2 := blk_cell D 2
  have D_3 := blk_cell D 3
  have D_4 := blk_cell D 4
  have D_5 := blk_cell D 5
  simp only [List.getElem?_toArray, List.getElem?_cons_zero, List.getElem?_cons_succ] at D_0 D_1 D_2 D_3 D_4 D_5
  have D_z0 := blk_frozen D 0
  have D_z1 := blk_frozen D 1
  have D_z2 := blk_frozen D 2
  have D_z3 := blk_frozen D 3
  have D_z4 := blk_frozen D 4
  have D_z5 := blk_frozen D 5
  have D_l := blk_lt D
  have HD := Aside0.mk D
  clear D
  have n0 := Aside0.mk (below_step (by repeat (first | (with_reducible first | exact HB.out | apply below_alloc | apply pw_below_drewN | apply below_drew1) | refine below_set ?_ (by omega))) hb1)
  clear HB hb1
  have HB := n0
  clear n0
  go_wp2
  exact bodyPost_ret (v := .tuple #[.agg #[.int .i64 0, .int .i64 0, .int .i64 0, .int .i64 0, .int .i64 0, .int .i64 0], .bool false]) (by simp [results, Try.results22, go_sem, *]) rfl ⟨rfl, by repeat (first | (with_reducible first | exact HB.out | apply below_alloc | apply pw_below_drewN | apply below_drew1) | refine below_set ?_ (by omega))⟩

/-! ### Apply -/
def lowM (m1 m2 m3 m4 m5 : Int) : Int := mn (mn (mn (mn m1 m2) m3) m4) m5
set_option maxHeartbeats 1000000 in
theorem apply_nil (m0 m1 m2 m3 m4 m5 : Int) (w : World) : Calls Try.prog 12 #[.pointer none, .agg #[.int .i64 m0, .int .i64 m1, .int .i64 m2, .int .i64 m3, .int .i64 m4, .int .i64 m5]] w fun e w' => e = .returned (.int .i64 1) ∧ Below w.heap.size w w' := by
  have HB := Aside0.mk (Below.refl w.heap.size w)
  go_enter Try.func12, Try.ntmps12
  go_wp2_with fail
  refine (slot_nil m3 _).mono ?_
  rw [show sv zs = S1.sval 0 0 0 0 from rfl]
  rintro e w1 ⟨rfl, hb1⟩
  have M : IsBlk w1 w.heap.size #[.int .i64 m0, .int .i64 m1, .int .i64 m2, .int .i64 m3, .int .i64 m4, .int .i64 m5] 26 := IsBlk.below (by repeat (first | ((refine IsBlk.new _ _ ?_); (first | rfl | simp); done) | apply IsBlk.alloc | apply IsBlk.drewN | apply IsBlk.drew)) hb1
  have M_0 := blk_cell M 0
  have M_1 := blk_cell M 1
  have M_2 := blk_cell M 2
  have M_3 := blk_cell M 3
  have M_4 := blk_cell M 4
  have M_5 := blk_cell M 5
  simp only [List.getElem?_toArray, List.getElem?_cons_zero, List.getElem?_cons_succ] at M_0 M_1 M_2 M_3 M_4 M_5
  have M_z0 := blk_frozen M 0
  have M_z1 := blk_frozen M 1
  have M_z2 := blk_frozen M 2
  have M_z3 := blk_frozen M 3
  have M_z4 := blk_frozen M 4
  have M_z5 := blk_frozen M 5
  have M_l := blk_lt M
  have HM := Aside0.mk M
  clear M
  have n0 := Aside0.mk (below_step (by repeat (first | (with_reducible first | exact HB.out | apply below_alloc | apply pw_below_drewN | apply below_drew1) | refine below_set ?_ (by omega))) hb1)
  clear HB hb1
  have HB := n0
  clear n0
  go_wp2
  go_ret
  exact ⟨rfl, by repeat (first | (with_reducible first | exact HB.out | apply below_alloc | apply pw_below_drewN | apply below_drew1) | refine below_set ?_ (by omega))⟩
set_option maxHeartbeats 1000000 in
theorem apply_kind (g q : Nat) (seen : Int) (f : Int → Option Sl) (m0 m1 m2 m3 m4 m5 : Int) (w : World) (h : Wk w g q seen f) (hx1 : (m0 != 1) = true) : Calls Try.prog 12 #[.pointer (some ⟨g, 0, none⟩), .agg #[.int .i64 m0, .int .i64 m1, .int .i64 m2, .int .i64 m3, .int .i64 m4, .int .i64 m5]] w fun e w' => e = .returned (.int .i64 1) ∧ Below w.heap.size w w' := by
  have HB := Aside0.mk (Below.refl w.heap.size w)
  have HK := Aside0.mk h
  clear h
  go_enter Try.func12, Try.ntmps12
  go_wp2_with fail
  obtain ⟨⟨a, b, c, d⟩, hs⟩ : ∃ s, (f m3).getD zs = s := ⟨_, rfl⟩
  obtain ⟨is, hi⟩ : ∃ i, (f m3).isSome = i := ⟨_, rfl⟩
  refine (slot_l g q seen f m3 a b c d is _ (by repeat (with_reducible first | exact HK.out | apply Wk.alloc | apply Wk.drewN | apply Wk.drew)) hs hi).mono ?_
  rintro e w1 ⟨rfl, hb1⟩
  have HS := Aside0.mk hs
  have HI := Aside0.mk hi
  clear hs hi
  have M : IsBlk w1 w.heap.size #[.int .i64 m0, .int .i64 m1, .int .i64 m2, .int .i64 m3, .int .i64 m4, .int .i64 m5] 26 := IsBlk.below (by repeat (first | ((refine IsBlk.new _ _ ?_); (first | rfl | simp); done) | apply IsBlk.alloc | apply IsBlk.drewN | apply IsBlk.drew)) hb1
  have M_0 := blk_cell M 0
  have M_1 := blk_cell M 1
  have M_2 := blk_cell M 2
  have M_3 := blk_cell M 3
  have M_4 := blk_cell M 4
  have M_5 := blk_cell M 5
  simp only [List.getElem?_toArray, List.getElem?_cons_zero, List.getElem?_cons_succ] at M_0 M_1 M_2 M_3 M_4 M_5
  have M_z0 := blk_frozen M 0
  have M_z1 := blk_frozen M 1
  have M_z2 := blk_frozen M 2
  have M_z3 := blk_frozen M 3
  have M_z4 := blk_frozen M 4
  have M_z5 := blk_frozen M 5
  have M_l := blk_lt M
  have HM := Aside0.mk M
  clear M
  have n0 := Aside0.mk (below_step (by repeat (first | (with_reducible first | exact HB.out | apply below_alloc | apply pw_below_drewN | apply below_drew1) | refine below_set ?_ (by omega))) hb1)
  clear HB hb1
  have HB := n0
  clear n0
  go_wp2
  go_ret
  exact ⟨rfl, by repeat (first | (with_reducible first | exact HB.out | apply below_alloc | apply pw_below_drewN | apply below_drew1) | refine below_set ?_ (by omega))⟩
set_option maxHeartbeats 1000000 in
theorem apply_low (g q : Nat) (seen : Int) (f : Int → Option Sl) (m0 m1 m2 m3 m4 m5 : Int) (w : World) (h : Wk w g q seen f) (hx1 : (m0 != 1) = false) (hx2 : decide (lowM m1 m2 m3 m4 m5 < 0) = true) : Calls Try.prog 12 #[.pointer (some ⟨g, 0, none⟩), .agg #[.int .i64 m0, .int .i64 m1, .int .i64 m2, .int .i64 m3, .int .i64 m4, .int .i64 m5]] w fun e w' => e = .returned (.int .i64 1) ∧ Below w.heap.size w w' := by
  obtain ⟨y1, hy1⟩ : ∃ y, mn m1 m2 = y := ⟨_, rfl⟩
  obtain ⟨y2, hy2⟩ : ∃ y, mn y1 m3 = y := ⟨_, rfl⟩
  obtain ⟨y3, hy3⟩ : ∃ y, mn y2 m4 = y := ⟨_, rfl⟩
  obtain ⟨y4, hy4⟩ : ∃ y, mn y3 m5 = y := ⟨_, rfl⟩
  have hy : lowM m1 m2 m3 m4 m5 = y4 := by unfold lowM; rw [hy1, hy2, hy3, hy4]
  rw [hy] at hx2
  replace hy1 : (if m2 < m1 then m2 else m1) = y1 := hy1
  replace hy2 : (if m3 < y1 then m3 else y1) = y2 := hy2
  replace hy3 : (if m4 < y2 then m4 else y2) = y3 := hy3
  replace hy4 : (if m5 < y3 then m5 else y3) = y4 := hy4
  clear hy
  have HB := Aside0.mk (Below.refl w.heap.size w)
  have HK := Aside0.mk h
  clear h
  go_enter Try.func12, Try.ntmps12
  go_wp2_with fail
  obtain ⟨⟨a, b, c, d⟩, hs⟩ : ∃ s, (f m3).getD zs = s := ⟨_, rfl⟩
  obtain ⟨is, hi⟩ : ∃ i, (f m3).isSome = i := ⟨_, rfl⟩
  refine (slot_l g q seen f m3 a b c d is _ (by repeat (with_reducible first | exact HK.out | apply Wk.alloc | apply Wk.drewN | apply Wk.drew)) hs hi).mono ?_
  rintro e w1 ⟨rfl, hb1⟩
  have HS := Aside0.mk hs
  have HI := Aside0.mk hi
  clear hs hi
  have M : IsBlk w1 w.heap.size #[.int .i64 m0, .int .i64 m1, .int .i64 m2, .int .i64 m3, .int .i64 m4, .int .i64 m5] 26 := IsBlk.below (by repeat (first | ((refine IsBlk.new _ _ ?_); (first | rfl | simp); done) | apply IsBlk.alloc | apply IsBlk.drewN | apply IsBlk.drew)) hb1
  have M_0 := blk_cell M 0
  have M_1 := blk_cell M 1
  have M_2 := blk_cell M 2
  have M_3 := blk_cell M 3
  have M_4 := blk_cell M 4
  have M_5 := blk_cell M 5
  simp only [List.getElem?_toArray, List.getElem?_cons_zero, List.getElem?_cons_succ] at M_0 M_1 M_2 M_3 M_4 M_5
  have M_z0 := blk_frozen M 0
  have M_z1 := blk_frozen M 1
  have M_z2 := blk_frozen M 2
  have M_z3 := blk_frozen M 3
  have M_z4 := blk_frozen M 4
  have M_z5 := blk_frozen M 5
  have M_l := blk_lt M
  have HM := Aside0.mk M
  clear M
  have n0 := Aside0.mk (below_step (by repeat (first | (with_reducible first | exact HB.out | apply below_alloc | apply pw_below_drewN | apply below_drew1) | refine below_set ?_ (by omega))) hb1)
  clear HB hb1
  have HB := n0
  clear n0
  go_wp2
  go_ret
  exact ⟨rfl, by repeat (first | (with_reducible first | exact HB.out | apply below_alloc | apply pw_below_drewN | apply below_drew1) | refine below_set ?_ (by omega))⟩
set_option maxHeartbeats 1000000 in
theorem apply_none (g q : Nat) (seen : Int) (f : Int → Option Sl) (m0 m1 m2 m3 m4 m5 : Int) (w : World) (h : Wk w g q seen f) (hx1 : (m0 != 1) = false) (hx2 : decide (lowM m1 m2 m3 m4 m5 < 0) = false) (he : f m3 = none) : Calls Try.prog 12 #[.pointer (some ⟨g, 0, none⟩), .agg #[.int .i64 m0, .int .i64 m1, .int .i64 m2, .int .i64 m3, .int .i64 m4, .int .i64 m5]] w fun e w' => e = .returned (.int .i64 5) ∧ Below w.heap.size w w' := by
  obtain ⟨y1, hy1⟩ : ∃ y, mn m1 m2 = y := ⟨_, rfl⟩
  obtain ⟨y2, hy2⟩ : ∃ y, mn y1 m3 = y := ⟨_, rfl⟩
  obtain ⟨y3, hy3⟩ : ∃ y, mn y2 m4 = y := ⟨_, rfl⟩
  obtain ⟨y4, hy4⟩ : ∃ y, mn y3 m5 = y := ⟨_, rfl⟩
  have hy : lowM m1 m2 m3 m4 m5 = y4 := by unfold lowM; rw [hy1, hy2, hy3, hy4]
  rw [hy] at hx2
  replace hy1 : (if m2 < m1 then m2 else m1) = y1 := hy1
  replace hy2 : (if m3 < y1 then m3 else y1) = y2 := hy2
  replace hy3 : (if m4 < y2 then m4 else y2) = y3 := hy3
  replace hy4 : (if m5 < y3 then m5 else y3) = y4 := hy4
  clear hy
  have HB := Aside0.mk (Below.refl w.heap.size w)
  have HK := Aside0.mk h
  have HE := Aside0.mk he
  clear h he
  go_enter Try.func12, Try.ntmps12
  go_wp2_with fail
  refine (slot_l g q seen f m3 0 0 0 0 false _ (by repeat (with_reducible first | exact HK.out | apply Wk.alloc | apply Wk.drewN | apply Wk.drew)) (nil_slot f m3 HE.out) (by rw [HE.out]; rfl)).mono ?_
  rintro e w1 ⟨rfl, hb1⟩
  have M : IsBlk w1 w.heap.size #[.int .i64 m0, .int .i64 m1, .int .i64 m2, .int .i64 m3, .int .i64 m4, .int .i64 m5] 26 := IsBlk.below (by repeat (first | ((refine IsBlk.new _ _ ?_); (first | rfl | simp); done) | apply IsBlk.alloc | apply IsBlk.drewN | apply IsBlk.drew)) hb1
  have M_0 := blk_cell M 0
  have M_1 := blk_cell M 1
  have M_2 := blk_cell M 2
  have M_3 := blk_cell M 3
  have M_4 := blk_cell M 4
  have M_5 := blk_cell M 5
  simp only [List.getElem?_toArray, List.getElem?_cons_zero, List.getElem?_cons_succ] at M_0 M_1 M_2 M_3 M_4 M_5
  have M_z0 := blk_frozen M 0
  have M_z1 := blk_frozen M 1
  have M_z2 := blk_frozen M 2
  have M_z3 := blk_frozen M 3
  have M_z4 := blk_frozen M 4
  have M_z5 := blk_frozen M 5
  have M_l := blk_lt M
  have HM := Aside0.mk M
  clear M
  have n0 := Aside0.mk (below_step (by repeat (first | (with_reducible first | exact HB.out | apply below_alloc | apply pw_below_drewN | apply below_drew1) | refine below_set ?_ (by omega))) hb1)
  clear HB hb1
  have HB := n0
  clear n0
  go_wp2
  go_ret
  exact ⟨rfl, by repeat (first | (with_reducible first | exact HB.out | apply below_alloc | apply pw_below_drewN | apply below_drew1) | refine below_set ?_ (by omega))⟩
set_option maxHeartbeats 2000000 in
theorem apply_old (g q : Nat) (seen : Int) (f : Int → Option Sl) (m0 m1 m2 m3 m4 m5 : Int) (w : World) (h : Wk w g q seen f) (hx1 : (m0 != 1) = false) (hx2 : decide (lowM m1 m2 m3 m4 m5 < 0) = false) (a b c d : Int) (he : f m3 = some ⟨a, b, c, d⟩) (hx3 : decide (m1 < seen) = true) : Calls Try.prog 12 #[.pointer (some ⟨g, 0, none⟩), .agg #[.int .i64 m0, .int .i64 m1, .int .i64 m2, .int .i64 m3, .int .i64 m4, .int .i64 m5]] w fun e w' => e = .returned (.int .i64 8) ∧ Below w.heap.size w w' := by
  obtain ⟨y1, hy1⟩ : ∃ y, mn m1 m2 = y := ⟨_, rfl⟩
  obtain ⟨y2, hy2⟩ : ∃ y, mn y1 m3 = y := ⟨_, rfl⟩
  obtain ⟨y3, hy3⟩ : ∃ y, mn y2 m4 = y := ⟨_, rfl⟩
  obtain ⟨y4, hy4⟩ : ∃ y, mn y3 m5 = y := ⟨_, rfl⟩
  have hy : lowM m1 m2 m3 m4 m5 = y4 := by unfold lowM; rw [hy1, hy2, hy3, hy4]
  rw [hy] at hx2
  replace hy1 : (if m2 < m1 then m2 else m1) = y1 := hy1
  replace hy2 : (if m3 < y1 then m3 else y1) = y2 := hy2
  replace hy3 : (if m4 < y2 then m4 else y2) = y3 := hy3
  replace hy4 : (if m5 < y3 then m5 else y3) = y4 := hy4
  clear hy
  have HB := Aside0.mk (Below.refl w.heap.size w)
  have HK := Aside0.mk h
  have HE := Aside0.mk he
  have D := h.blk
  have D_0 := blk_cell D 0
  have D_1 := blk_cell D 1
  simp only [List.getElem?_toArray, List.getElem?_cons_zero, List.getElem?_cons_succ] at D_0 D_1
  have D_z0 := blk_frozen D 0
  have D_z1 := blk_frozen D 1
  have D_l := blk_lt D
  have HD := Aside0.mk D
  clear D
  have HP := Aside0.mk h.map
  have HNE := Aside0.mk h.ne
  have hql := h.map.lt
  have hkl := Aside0.mk (h.map.low m3 (by rw [he]; rfl))
  clear h he
  go_enter Try.func12, Try.ntmps12
  go_wp2_with fail
  refine (slot_l g q seen f m3 a b c d true _ (by repeat (with_reducible first | exact HK.out | apply Wk.alloc | apply Wk.drewN | apply Wk.drew)) (some_slot f m3 _ HE.out) (by rw [HE.out]; rfl)).mono ?_
  rintro e w1 ⟨rfl, hb1⟩
  have M : IsBlk w1 w.heap.size #[.int .i64 m0, .int .i64 m1, .int .i64 m2, .int .i64 m3, .int .i64 m4, .int .i64 m5] 26 := IsBlk.below (by repeat (first | ((refine IsBlk.new _ _ ?_); (first | rfl | simp); done) | apply IsBlk.alloc | apply IsBlk.drewN | apply IsBlk.drew)) hb1
  have M_0 := blk_cell M 0
  have M_1 := blk_cell M 1
  have M_2 := blk_cell M 2
  have M_3 := blk_cell M 3
  have M_4 := blk_cell M 4
  have M_5 := blk_cell M 5
  simp only [List.getElem?_toArray, List.getElem?_cons_zero, List.getElem?_cons_succ] at M_0 M_1 M_2 M_3 M_4 M_5
  have M_z0 := blk_frozen M 0
  have M_z1 := blk_frozen M 1
  have M_z2 := blk_frozen M 2
  have M_z3 := blk_frozen M 3
  have M_z4 := blk_frozen M 4
  have M_z5 := blk_frozen M 5
  have M_l := blk_lt M
  have HM := Aside0.mk M
  clear M
  clear HK
  have D' := IsBlk.below (by repeat (with_reducible first | exact HD.out | apply IsBlk.alloc | apply IsBlk.drewN | apply IsBlk.drew)) hb1
  have HP' := Aside0.mk (WM.below (by repeat (with_reducible first | exact HP.out | apply WM.alloc | apply WM.drewN | apply WM.drew)) hb1)
  clear D_0 D_1 D_z0 D_z1 D_l HD
  clear HP
  have D := D'
  have HP := HP'
  clear D' HP'
  have D_0 := blk_cell D 0
  have D_1 := blk_cell D 1
  simp only [List.getElem?_toArray, List.getElem?_cons_zero, List.getElem?_cons_succ] at D_0 D_1
  have D_z0 := blk_frozen D 0
  have D_z1 := blk_frozen D 1
  have D_l := blk_lt D
  have HD := Aside0.mk D
  clear D
  have n0 := Aside0.mk (below_step (by repeat (first | (with_reducible first | exact HB.out | apply below_alloc | apply pw_below_drewN | apply below_drew1) | refine below_set ?_ (by omega))) hb1)
  clear HB hb1
  have HB := n0
  clear n0
  go_wp2
  go_quiet (fail)
  go_wp2
  go_ret
  exact ⟨rfl, by repeat (first | (with_reducible first | exact HB.out | apply below_alloc | apply pw_below_drewN | apply below_drew1) | refine below_set ?_ (by omega))⟩
theorem grownBy_set {a w : World} {g : Nat} (h : a.grownBy w (some g)) (j : Nat) (u : Value) : a.grownBy (w.setCell ⟨g, j, none⟩ u) (some g) :=
  ⟨h.os, h.tape, h.output, by simpa using h.size, fun i hi hn => (Below.heap_setCell w ⟨g, j, none⟩ u i (fun e => hn (by rw [e]))).trans (h.block i hi hn)⟩
theorem grown_alloc {a w : World} {row : Option Nat} (h : a.grownBy w row) (o : Obj) : a.grownBy (w.alloc o) row := h.trans (grown_of_below (below_alloc (Below.refl _ _) o) row)
set_option maxHeartbeats 4000000 in
set_option maxRecDepth 100000 in
theorem apply_rev (g q : Nat) (seen : Int) (f : Int → Option Sl) (m0 m1 m2 m3 m4 m5 : Int) (w : World) (h : Wk w g q seen f) (hx1 : (m0 != 1) = false) (hx2 : decide (lowM m1 m2 m3 m4 m5 < 0) = false) (a b c d : Int) (he : f m3 = some ⟨a, b, c, d⟩) (hx3 : decide (m1 < seen) = false) (a' b' c' d' : Int) (hx4 : wants ⟨a, b, c, d⟩ m4 m2 = (⟨a', b', c', d'⟩, false)) : Calls Try.prog 12 #[.pointer (some ⟨g, 0, none⟩), .agg #[.int .i64 m0, .int .i64 m1, .int .i64 m2, .int .i64 m3, .int .i64 m4, .int .i64 m5]] w fun e w' => e = .returned (.int .i64 7) ∧ Wk w' g q m1 f ∧ w.grownBy w' (some g) := by
  have hc : ∀ w, Calls Try.prog 26 #[S1.sval a b c d, .int .i64 m4, .int .i64 m2] w fun e w' => e = .returned (.tuple #[S1.sval a' b' c' d', .bool false]) ∧ Below w.heap.size w w' := fun w => by
    have hh := want_any ⟨a, b, c, d⟩ m4 m2 w
    rw [hx4] at hh
    exact hh
  clear hx4
  have hgl : g < w.heap.size := blk_lt h.blk
  obtain ⟨y1, hy1⟩ : ∃ y, mn m1 m2 = y := ⟨_, rfl⟩
  obtain ⟨y2, hy2⟩ : ∃ y, mn y1 m3 = y := ⟨_, rfl⟩
  obtain ⟨y3, hy3⟩ : ∃ y, mn y2 m4 = y := ⟨_, rfl⟩
  obtain ⟨y4, hy4⟩ : ∃ y, mn y3 m5 = y := ⟨_, rfl⟩
  have hy : lowM m1 m2 m3 m4 m5 = y4 := by unfold lowM; rw [hy1, hy2, hy3, hy4]
  rw [hy] at hx2
  replace hy1 : (if m2 < m1 then m2 else m1) = y1 := hy1
  replace hy2 : (if m3 < y1 then m3 else y1) = y2 := hy2
  replace hy3 : (if m4 < y2 then m4 else y2) = y3 := hy3
  replace hy4 : (if m5 < y3 then m5 else y3) = y4 := hy4
  clear hy
  have HB := Aside0.mk (Below.refl w.heap.size w)
  have HK := Aside0.mk h
  have HE := Aside0.mk he
  have D := h.blk
  have D_0 := blk_cell D 0
  have D_1 := blk_cell D 1
  simp only [List.getElem?_toArray, List.getElem?_cons_zero, List.getElem?_cons_succ] at D_0 D_1
  have D_z0 := blk_frozen D 0
  have D_z1 := blk_frozen D 1
  have D_l := blk_lt D
  have HD := Aside0.mk D
  clear D
  have HP := Aside0.mk h.map
  have HNE := Aside0.mk h.ne
  have hql := h.map.lt
  have hkl := Aside0.mk (h.map.low m3 (by rw [he]; rfl))
  clear h he
  go_enter Try.func12, Try.ntmps12
  go_wp2_with fail
  refine (slot_l g q seen f m3 a b c d true _ (by repeat (with_reducible first | exact HK.out | apply Wk.alloc | apply Wk.drewN | apply Wk.drew)) (some_slot f m3 _ HE.out) (by rw [HE.out]; rfl)).mono ?_
  rintro e w1 ⟨rfl, hb1⟩
  have M : IsBlk w1 w.heap.size #[.int .i64 m0, .int .i64 m1, .int .i64 m2, .int .i64 m3, .int .i64 m4, .int .i64 m5] 26 := IsBlk.below (by repeat (first | ((refine IsBlk.new _ _ ?_); (first | rfl | simp); done) | apply IsBlk.alloc | apply IsBlk.drewN | apply IsBlk.drew)) hb1
  have M_0 := blk_cell M 0
  have M_1 := blk_cell M 1
  have M_2 := blk_cell M 2
  have M_3 := blk_cell M 3
  have M_4 := blk_cell M 4
  have M_5 := blk_cell M 5
  simp only [List.getElem?_toArray, List.getElem?_cons_zero, List.getElem?_cons_succ] at M_0 M_1 M_2 M_3 M_4 M_5
  have M_z0 := blk_frozen M 0
  have M_z1 := blk_frozen M 1
  have M_z2 := blk_frozen M 2
  have M_z3 := blk_frozen M 3
  have M_z4 := blk_frozen M 4
  have M_z5 := blk_frozen M 5
  have M_l := blk_lt M
  have HM := Aside0.mk M
  clear M
  clear HK
  have D' := IsBlk.below (by repeat (with_reducible first | exact HD.out | apply IsBlk.alloc | apply IsBlk.drewN | apply IsBlk.drew)) hb1
  have HP' := Aside0.mk (WM.below (by repeat (with_reducible first | exact HP.out | apply WM.alloc | apply WM.drewN | apply WM.drew)) hb1)
  clear D_0 D_1 D_z0 D_z1 D_l HD
  clear HP
  have D := D'
  have HP := HP'
  clear D' HP'
  have D_0 := blk_cell D 0
  have D_1 := blk_cell D 1
  simp only [List.getElem?_toArray, List.getElem?_cons_zero, List.getElem?_cons_succ] at D_0 D_1
  have D_z0 := blk_frozen D 0
  have D_z1 := blk_frozen D 1
  have D_l := blk_lt D
  have HD := Aside0.mk D
  clear D
  have n0 := Aside0.mk (below_step (by repeat (first | (with_reducible first | exact HB.out | apply below_alloc | apply pw_below_drewN | apply below_drew1) | refine below_set ?_ (by omega))) hb1)
  clear HB hb1
  have HB := n0
  clear n0
  go_wp2
  go_quiet (fail)
  go_wp2_with fail
  refine (hc _).mono ?_
  rintro e w2 ⟨rfl, hb1⟩
  have D' : IsBlk w2 g #[.map (some q), .int .i64 m1] 65 := IsBlk.below (blk_set (IsBlk.drewN (IsBlk.alloc HD.out _) _) 1 _) hb1
  have M' : IsBlk w2 w.heap.size #[.int .i64 m0, .int .i64 m1, .int .i64 m2, .int .i64 m3, .int .i64 m4, .int .i64 m5] 26 := IsBlk.below (IsBlk.far (IsBlk.drewN (IsBlk.alloc HM.out _) _) (show w.heap.size ≠ g by omega) _) hb1
  have HP' := Aside0.mk (WM.below (WM.far (WM.drewN (WM.alloc HP.out _) _) (show q ≠ g from fun e => HNE.out e.symm) _) hb1)
  have HG := Aside0.mk ((grownBy_set (below_grownBy (pw_below_drewN (below_alloc HB.out _) _) (some g)) 1 _).trans (grown_of_below hb1 (some g)))
  clear D_0 D_1 D_z0 D_z1 D_l HD
  clear M_0 M_1 M_2 M_3 M_4 M_5 M_z0 M_z1 M_z2 M_z3 M_z4 M_z5 M_l HM
  clear HP HB hb1
  have D := D'
  have M := M'
  have HP := HP'
  clear D' M' HP'
  have D_0 := blk_cell D 0
  have D_1 := blk_cell D 1
  simp only [List.getElem?_toArray, List.getElem?_cons_zero, List.getElem?_cons_succ] at D_0 D_1
  have D_z0 := blk_frozen D 0
  have D_z1 := blk_frozen D 1
  have D_l := blk_lt D
  have HD := Aside0.mk D
  clear D
  have M_0 := blk_cell M 0
  have M_1 := blk_cell M 1
  have M_2 := blk_cell M 2
  have M_3 := blk_cell M 3
  have M_4 := blk_cell M 4
  have M_5 := blk_cell M 5
  simp only [List.getElem?_toArray, List.getElem?_cons_zero, List.getElem?_cons_succ] at M_0 M_1 M_2 M_3 M_4 M_5
  have M_z0 := blk_frozen M 0
  have M_z1 := blk_frozen M 1
  have M_z2 := blk_frozen M 2
  have M_z3 := blk_frozen M 3
  have M_z4 := blk_frozen M 4
  have M_z5 := blk_frozen M 5
  have M_l := blk_lt M
  have HM := Aside0.mk M
  clear M
  go_wp2
  go_ret
  exact ⟨rfl, ⟨HD.out.alloc _, HP.out.alloc _⟩, grown_alloc HG.out _⟩
set_option maxHeartbeats 4000000 in
set_option maxRecDepth 100000 in
theorem apply_ok (g q : Nat) (seen : Int) (f : Int → Option Sl) (m0 m1 m2 m3 m4 m5 : Int) (w : World) (h : Wk w g q seen f) (hx1 : (m0 != 1) = false) (hx2 : decide (lowM m1 m2 m3 m4 m5 < 0) = false) (a b c d : Int) (he : f m3 = some ⟨a, b, c, d⟩) (hx3 : decide (m1 < seen) = false) (a' b' c' d' : Int) (hx4 : wants ⟨a, b, c, d⟩ m4 m2 = (⟨a', b', c', d'⟩, true)) : Calls Try.prog 12 #[.pointer (some ⟨g, 0, none⟩), .agg #[.int .i64 m0, .int .i64 m1, .int .i64 m2, .int .i64 m3, .int .i64 m4, .int .i64 m5]] w fun e w' => e = .returned (.int .i64 0) ∧ Wk w' g q m1 (upd f m3 ⟨a', b', c', d'⟩) ∧ But2 w w' g q := by
  have hc : ∀ w, Calls Try.prog 26 #[S1.sval a b c d, .int .i64 m4, .int .i64 m2] w fun e w' => e = .returned (.tuple #[S1.sval a' b' c' d', .bool true]) ∧ Below w.heap.size w w' := fun w => by
    have hh := want_any ⟨a, b, c, d⟩ m4 m2 w
    rw [hx4] at hh
    exact hh
  clear hx4
  have hgl : g < w.heap.size := blk_lt h.blk
  obtain ⟨y1, hy1⟩ : ∃ y, mn m1 m2 = y := ⟨_, rfl⟩
  obtain ⟨y2, hy2⟩ : ∃ y, mn y1 m3 = y := ⟨_, rfl⟩
  obtain ⟨y3, hy3⟩ : ∃ y, mn y2 m4 = y := ⟨_, rfl⟩
  obtain ⟨y4, hy4⟩ : ∃ y, mn y3 m5 = y := ⟨_, rfl⟩
  have hy : lowM m1 m2 m3 m4 m5 = y4 := by unfold lowM; rw [hy1, hy2, hy3, hy4]
  rw [hy] at hx2
  replace hy1 : (if m2 < m1 then m2 else m1) = y1 := hy1
  replace hy2 : (if m3 < y1 then m3 else y1) = y2 := hy2
  replace hy3 : (if m4 < y2 then m4 else y2) = y3 := hy3
  replace hy4 : (if m5 < y3 then m5 else y3) = y4 := hy4
  clear hy
  have HB := Aside0.mk (Below.refl w.heap.size w)
  have HK := Aside0.mk h
  have HE := Aside0.mk he
  have D := h.blk
  have D_0 := blk_cell D 0
  have D_1 := blk_cell D 1
  simp only [List.getElem?_toArray, List.getElem?_cons_zero, List.getElem?_cons_succ] at D_0 D_1
  have D_z0 := blk_frozen D 0
  have D_z1 := blk_frozen D 1
  have D_l := blk_lt D
  have HD := Aside0.mk D
  clear D
  have HP := Aside0.mk h.map
  have HNE := Aside0.mk h.ne
  have hql := h.map.lt
  have hkl := Aside0.mk (h.map.low m3 (by rw [he]; rfl))
  clear h he
  go_enter Try.func12, Try.ntmps12
  go_wp2_with fail
  refine (slot_l g q seen f m3 a b c d true _ (by repeat (with_reducible first | exact HK.out | apply Wk.alloc | apply Wk.drewN | apply Wk.drew)) (some_slot f m3 _ HE.out) (by rw [HE.out]; rfl)).mono ?_
  rintro e w1 ⟨rfl, hb1⟩
  have M : IsBlk w1 w.heap.size #[.int .i64 m0, .int .i64 m1, .int .i64 m2, .int .i64 m3, .int .i64 m4, .int .i64 m5] 26 := IsBlk.below (by repeat (first | ((refine IsBlk.new _ _ ?_); (first | rfl | simp); done) | apply IsBlk.alloc | apply IsBlk.drewN | apply IsBlk.drew)) hb1
  have M_0 := blk_cell M 0
  have M_1 := blk_cell M 1
  have M_2 := blk_cell M 2
  have M_3 := blk_cell M 3
  have M_4 := blk_cell M 4
  have M_5 := blk_cell M 5
  simp only [List.getElem?_toArray, List.getElem?_cons_zero, List.getElem?_cons_succ] at M_0 M_1 M_2 M_3 M_4 M_5
  have M_z0 := blk_frozen M 0
  have M_z1 := blk_frozen M 1
  have M_z2 := blk_frozen M 2
  have M_z3 := blk_frozen M 3
  have M_z4 := blk_frozen M 4
  have M_z5 := blk_frozen M 5
  have M_l := blk_lt M
  have HM := Aside0.mk M
  clear M
  clear HK
  have D' := IsBlk.below (by repeat (with_reducible first | exact HD.out | apply IsBlk.alloc | apply IsBlk.drewN | apply IsBlk.drew)) hb1
  have HP' := Aside0.mk (WM.below (by repeat (with_reducible first | exact HP.out | apply WM.alloc | apply WM.drewN | apply WM.drew)) hb1)
  clear D_0 D_1 D_z0 D_z1 D_l HD
  clear HP
  have D := D'
  have HP := HP'
  clear D' HP'
  have D_0 := blk_cell D 0
  have D_1 := blk_cell D 1
  simp only [List.getElem?_toArray, List.getElem?_cons_zero, List.getElem?_cons_succ] at D_0 D_1
  have D_z0 := blk_frozen D 0
  have D_z1 := blk_frozen D 1
  have D_l := blk_lt D
  have HD := Aside0.mk D
  clear D
  have n0 := Aside0.mk (below_step (by repeat (first | (with_reducible first | exact HB.out | apply below_alloc | apply pw_below_drewN | apply below_drew1) | refine below_set ?_ (by omega))) hb1)
  clear HB hb1
  have HB := n0
  clear n0
  go_wp2
  go_quiet (fail)
  go_wp2_with fail
  refine (hc _).mono ?_
  rintro e w2 ⟨rfl, hb1⟩
  have D' : IsBlk w2 g #[.map (some q), .int .i64 m1] 65 := IsBlk.below (blk_set (IsBlk.drewN (IsBlk.alloc HD.out _) _) 1 _) hb1
  have M' : IsBlk w2 w.heap.size #[.int .i64 m0, .int .i64 m1, .int .i64 m2, .int .i64 m3, .int .i64 m4, .int .i64 m5] 26 := IsBlk.below (IsBlk.far (IsBlk.drewN (IsBlk.alloc HM.out _) _) (show w.heap.size ≠ g by omega) _) hb1
  have HP' := Aside0.mk (WM.below (WM.far (WM.drewN (WM.alloc HP.out _) _) (show q ≠ g from fun e => HNE.out e.symm) _) hb1)
  have HG := Aside0.mk ((grownBy_set (below_grownBy (pw_below_drewN (below_alloc HB.out _) _) (some g)) 1 _).trans (grown_of_below hb1 (some g)))
  clear D_0 D_1 D_z0 D_z1 D_l HD
  clear M_0 M_1 M_2 M_3 M_4 M_5 M_z0 M_z1 M_z2 M_z3 M_z4 M_z5 M_l HM
  clear HP HB hb1
  have D := D'
  have M := M'
  have HP := HP'
  clear D' M' HP'
  have D_0 := blk_cell D 0
  have D_1 := blk_cell D 1
  simp only [List.getElem?_toArray, List.getElem?_cons_zero, List.getElem?_cons_succ] at D_0 D_1
  have D_z0 := blk_frozen D 0
  have D_z1 := blk_frozen D 1
  have D_l := blk_lt D
  have HD := Aside0.mk D
  clear D
  have M_0 := blk_cell M 0
  have M_1 := blk_cell M 1
  have M_2 := blk_cell M 2
  have M_3 := blk_cell M 3
  have M_4 := blk_cell M 4
  have M_5 := blk_cell M 5
  simp only [List.getElem?_toArray, List.getElem?_cons_zero, List.getElem?_cons_succ] at M_0 M_1 M_2 M_3 M_4 M_5
  have M_z0 := blk_frozen M 0
  have M_z1 := blk_frozen M 1
  have M_z2 := blk_frozen M 2
  have M_z3 := blk_frozen M 3
  have M_z4 := blk_frozen M 4
  have M_z5 := blk_frozen M 5
  have M_l := blk_lt M
  have HM := Aside0.mk M
  clear M
  go_upto_region 12 with fail
  have R4 : IsBlk (w2.alloc (.cells #[.int .i64 a', .int .i64 b', .int .i64 c', .int .i64 d'] 35)) w2.heap.size #[.int .i64 a', .int .i64 b', .int .i64 c', .int .i64 d'] 35 := IsBlk.new _ _ rfl
  have D4 : IsBlk (w2.alloc (.cells #[.int .i64 a', .int .i64 b', .int .i64 c', .int .i64 d'] 35)) g #[.map (some q), .int .i64 m1] 65 := HD.out.alloc _
  have M4 : IsBlk (w2.alloc (.cells #[.int .i64 a', .int .i64 b', .int .i64 c', .int .i64 d'] 35)) w.heap.size #[.int .i64 m0, .int .i64 m1, .int .i64 m2, .int .i64 m3, .int .i64 m4, .int .i64 m5] 26 := HM.out.alloc _
  have HP4 : Aside0 (WM (w2.alloc (.cells #[.int .i64 a', .int .i64 b', .int .i64 c', .int .i64 d'] 35)) q f) := ⟨HP.out.alloc _⟩
  have HG4 : Aside0 (w.grownBy (w2.alloc (.cells #[.int .i64 a', .int .i64 b', .int .i64 c', .int .i64 d'] 35)) (some g)) := ⟨grown_alloc HG.out _⟩
  clear D_0 D_1 D_z0 D_z1 D_l HD
  clear M_0 M_1 M_2 M_3 M_4 M_5 M_z0 M_z1 M_z2 M_z3 M_z4 M_z5 M_l HM
  clear HP HG
  generalize (w2.alloc (.cells #[.int .i64 a', .int .i64 b', .int .i64 c', .int .i64 d'] 35)) = w4 at *
  have HG := HG4
  have HP := HP4
  have D := D4
  have R := R4
  have M := M4
  clear HG4 HP4 D4 R4 M4
  have D_0 := blk_cell D 0
  have D_1 := blk_cell D 1
  simp only [List.getElem?_toArray, List.getElem?_cons_zero, List.getElem?_cons_succ] at D_0 D_1
  have D_z0 := blk_frozen D 0
  have D_z1 := blk_frozen D 1
  have D_l := blk_lt D
  have HD := Aside0.mk D
  clear D
  have R_0 := blk_cell R 0
  have R_1 := blk_cell R 1
  have R_2 := blk_cell R 2
  have R_3 := blk_cell R 3
  simp only [List.getElem?_toArray, List.getElem?_cons_zero, List.getElem?_cons_succ] at R_0 R_1 R_2 R_3
  have R_z0 := blk_frozen R 0
  have R_z1 := blk_frozen R 1
  have R_z2 := blk_frozen R 2
  have R_z3 := blk_frozen R 3
  have R_l := blk_lt R
  have HR := Aside0.mk R
  clear R
  have M_0 := blk_cell M 0
  have M_1 := blk_cell M 1
  have M_2 := blk_cell M 2
  have M_3 := blk_cell M 3
  have M_4 := blk_cell M 4
  have M_5 := blk_cell M 5
  simp only [List.getElem?_toArray, List.getElem?_cons_zero, List.getElem?_cons_succ] at M_0 M_1 M_2 M_3 M_4 M_5
  have M_z0 := blk_frozen M 0
  have M_z1 := blk_frozen M 1
  have M_z2 := blk_frozen M 2
  have M_z3 := blk_frozen M 3
  have M_z4 := blk_frozen M 4
  have M_z5 := blk_frozen M 5
  have M_l := blk_lt M
  have HM := Aside0.mk M
  clear M
  refine wp_region_still_tail 7 (by kernel_rfl) (by kernel_rfl) ?_
  simp only [List.take_succ_cons, List.take_zero, List.drop_succ_cons, List.drop_zero]
  repeat still_step
  refine wpStill_nil ?_
  refine wpList_put (f := f) (q := q) _ rfl _ _ _ rfl rfl HP.out.drew m3 hkl.out rfl ⟨a', b', c', d'⟩ rfl ?_
  intro w5 hM hg
  have D5 := Aside0.mk (IsBlk.grownBy (HD.out.drew) hg HNE.out)
  have HP5 := Aside0.mk hM
  have HG5 := Aside0.mk (But2.trans (But2.drew (But2.of_one HG.out q)) (But2.of_two hg g))
  clear hM hg HG HP
  clear D_0 D_1 D_z0 D_z1 D_l HD
  clear R_0 R_1 R_2 R_3 R_z0 R_z1 R_z2 R_z3 R_l HR
  clear M_0 M_1 M_2 M_3 M_4 M_5 M_z0 M_z1 M_z2 M_z3 M_z4 M_z5 M_l HM
  go_wp2
  go_ret
  exact ⟨rfl, ⟨D5.out, HP5.out⟩, HG5.out⟩

/-- What Apply answers; the highest epoch then; the map then. -/
def applyV (seen : Int) (f : Int → Option Sl) (m0 m1 m2 m3 m4 m5 : Int) : Int × Int × (Int → Option Sl) :=
  if m0 ≠ 1 ∨ lowM m1 m2 m3 m4 m5 < 0 then (1, seen, f) else
  match f m3 with
  | none => (5, seen, f)
  | some s => if m1 < seen then (8, seen, f) else if (wants s m4 m2).2 = true then (0, m1, upd f m3 (wants s m4 m2).1) else (7, m1, f)
theorem apply_q (g q : Nat) (seen : Int) (f : Int → Option Sl) (m0 m1 m2 m3 m4 m5 : Int) (w : World) (h : Wk w g q seen f) : Calls Try.prog 12 #[.pointer (some ⟨g, 0, none⟩), .agg #[.int .i64 m0, .int .i64 m1, .int .i64 m2, .int .i64 m3, .int .i64 m4, .int .i64 m5]] w fun e w' => e = .returned (.int .i64 (applyV seen f m0 m1 m2 m3 m4 m5).1) ∧ Wk w' g q (applyV seen f m0 m1 m2 m3 m4 m5).2.1 (applyV seen f m0 m1 m2 m3 m4 m5).2.2 ∧ But2 w w' g q := by
  unfold applyV
  by_cases h0 : m0 = 1
  · have hx1 : (m0 != 1) = false := by simp [h0]
    by_cases h1 : lowM m1 m2 m3 m4 m5 < 0
    · rw [if_pos (.inr h1)]
      refine (apply_low g q seen f m0 m1 m2 m3 m4 m5 w h hx1 (decide_eq_true h1)).mono ?_
      rintro e w' ⟨rfl, hb⟩
      exact ⟨rfl, h.below hb, But2.of_below hb _ _⟩
    · rw [if_neg (by rintro (h2 | h2); exact h2 h0; exact h1 h2)]
      have hx2 := decide_eq_false h1
      cases he : f m3 with
      | none =>
        refine (apply_none g q seen f m0 m1 m2 m3 m4 m5 w h hx1 hx2 he).mono ?_
        rintro e w' ⟨rfl, hb⟩
        exact ⟨rfl, h.below hb, But2.of_below hb _ _⟩
      | some s =>
        dsimp only
        by_cases h3 : m1 < seen
        · rw [if_pos h3]
          refine (apply_old g q seen f m0 m1 m2 m3 m4 m5 w h hx1 hx2 s.st s.ver s.want s.seq he (decide_eq_true h3)).mono ?_
          rintro e w' ⟨rfl, hb⟩
          exact ⟨rfl, h.below hb, But2.of_below hb _ _⟩
        · rw [if_neg h3]
          rcases hw : wants s m4 m2 with ⟨⟨a', b', c', d'⟩, y⟩
          cases y
          · rw [if_neg (by simp)]
            refine (apply_rev g q seen f m0 m1 m2 m3 m4 m5 w h hx1 hx2 s.st s.ver s.want s.seq he (decide_eq_false h3) a' b' c' d' hw).mono ?_
            rintro e w' ⟨rfl, hk, hg⟩
            exact ⟨rfl, hk, But2.of_one hg _⟩
          · rw [if_pos rfl]
            exact apply_ok g q seen f m0 m1 m2 m3 m4 m5 w h hx1 hx2 s.st s.ver s.want s.seq he (decide_eq_false h3) a' b' c' d' hw
  · rw [if_pos (.inl h0)]
    refine (apply_kind g q seen f m0 m1 m2 m3 m4 m5 w h (by simp [h0])).mono ?_
    rintro e w' ⟨rfl, hb⟩
    exact ⟨rfl, h.below hb, But2.of_below hb _ _⟩
end Go.Proofs.Ytkjaeodnpgpfeaa.W3
