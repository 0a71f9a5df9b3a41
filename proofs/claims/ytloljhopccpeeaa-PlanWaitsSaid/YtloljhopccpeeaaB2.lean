/-
  Proved here: what spec.Steps, batch.Targets, Stages, Target answer. No condition.
-/
import Derived.Test.YtloljhopccpeeaaB1z
namespace Go.Proofs.Ytloljhopccpeeaa.B2
open Go.RowKit Go.Proofs.Ytloljhopccpeeaa.B0 Go.Proofs.Ytloljhopccpeeaa.B1 Go.Proofs.Ytloljhopccpeeaa.B1z Go.Proofs.YtloljhopccpeeaaW.PrintWords Go.Proofs.YtloljhopccpeeaaW.PrintLast Go.Proofs.YtloljhopccpeeaaW.PrintMore
set_option linter.unusedVariables false
set_option linter.unusedSimpArgs false
theorem ia0 (c0 c1 c2 c3 : Value) (w : World) : (Instr.index 22 (.agg #[c0, c1, c2, c3]) (.int .i64 0)).run Try.prog w = .ok c0 w := by rfl
theorem ia1 (c0 c1 c2 c3 : Value) (w : World) : (Instr.index 22 (.agg #[c0, c1, c2, c3]) (.int .i64 1)).run Try.prog w = .ok c1 w := by rfl
theorem ia2 (c0 c1 c2 c3 : Value) (w : World) : (Instr.index 22 (.agg #[c0, c1, c2, c3]) (.int .i64 2)).run Try.prog w = .ok c2 w := by rfl
theorem ia3 (c0 c1 c2 c3 : Value) (w : World) : (Instr.index 22 (.agg #[c0, c1, c2, c3]) (.int .i64 3)).run Try.prog w = .ok c3 w := by rfl
attribute [local go_sem] max2_int min2_int max_two min_two ia0 ia1 ia2 ia3
theorem info3 : (Try.prog.info? 3).map (fun i => (i.zero, i.size, i.bytes)) = some (some (.int .i64 0), 1, 8) := by kernel_rfl

theorem IsBlk_grown {w w1 : World} {b : Nat} {cs : Array Value} {t : TypeId} {row : Option Nat} (h : IsBlk w b cs t) (hg : w.grownBy w1 row) (hne : some b ≠ row) : IsBlk w1 b cs t := (hg.block b (blk_lt h) hne).trans h
/-- The steps that there are. -/
def stepsL (s0 s1 s2 s3 : Int) : List Int := [s0, s1, s2, s3].takeWhile (fun n => n != 0)
abbrev RowI (w : World) (base : Nat) (v : Value) (xs : List Int) : Prop := Kd.R (Kd.int .i64) 3 w base (fun _ => True) v xs
theorem steps_upto (s0 s1 s2 s3 : Int) : (stepsL s0 s1 s2 s3).length ≤ 4 := by
  unfold stepsL
  exact (List.takeWhile_sublist _).length_le

set_option maxRecDepth 100000 in
set_option maxHeartbeats 4000000 in
theorem steps_q (v d s u st s0 s1 s2 s3 p q r : Int) (w : World) : Calls Try.prog 39 #[.agg #[.int .i64 v, .int .i64 d, .int .i64 s, .int .i64 u, .int .i64 st, .int .i64 s0, .int .i64 s1, .int .i64 s2, .int .i64 s3, .int .i64 p, .int .i64 q, .int .i64 r]] w fun e w' => ∃ vv, e = .returned vv ∧ RowI w' w.heap.size vv (stepsL s0 s1 s2 s3) ∧ Below w.heap.size w w' := by
  have HB := Aside0.mk (Below.refl w.heap.size w)
  obtain ⟨l, hl⟩ : ∃ l, stepsL s0 s1 s2 s3 = l := ⟨_, rfl⟩
  rw [hl]
  have HL := Aside0.mk hl
  clear hl
  go_enter Try.func39, Try.ntmps39
  go_wp2
  go_loopw [3, 8] (fun v3 v8 wr => ∃ (k : Int) (x : List Int), v8 = .int .i64 k ∧ 0 ≤ k ∧ k ≤ 4 ∧ Aside0 (x.length ≤ 4) ∧ Aside0 (x ++ ([s0, s1, s2, s3].drop k.toNat).takeWhile (fun n => n != 0) = l) ∧ Aside0 (RowI wr w.heap.size v3 x) ∧ Aside0 (Below w.heap.size w wr)) (fun _ v8 _ => 4 - (intOf v8).toNat)
  case atStart => exact ⟨0, [], rfl, by omega, by omega, ⟨by simp⟩, ⟨HL.out⟩, ⟨Kd.R_nil _ _ _ _ _⟩, ⟨by repeat (first | (with_reducible first | exact HB.out | apply below_alloc | apply pw_below_drewN | apply below_drew1) | refine below_set ?_ (by omega))⟩⟩
  case round =>
    obtain ⟨k, x, rfl, hk0, hk, HX0, HE, HO, HB⟩ := hrel
    have HX : Aside0 (x.length ≤ 1000) := ⟨by have := HX0.out; omega⟩
    rcases (by omega : k = 0 ∨ k = 1 ∨ k = 2 ∨ k = 3 ∨ k = 4) with rfl | rfl | rfl | rfl | rfl
    · clear hk0 hk
      by_cases hz : s0 = 0
      · have hz1 : (s0 == 0) = true := by simp [hz]
        have hE := HE.out
        simp [hz] at hE
        subst hE
        go_wp2
        go_ret
        exact ⟨_, rfl, HO.out, HB.out⟩
      · have hz1 : (s0 == 0) = false := by simp [hz]
        have hE := HE.out
        have hlen : x.length + 1 ≤ 4 := by
          have h4 := steps_upto s0 s1 s2 s3
          rw [HL.out] at h4
          rw [← hE] at h4
          simp [List.takeWhile_cons, hz] at h4
          omega
        have HN := Aside0.mk hlen
        have hE2 : (x ++ [s0]) ++ ([s0, s1, s2, s3].drop (1 : Int).toNat).takeWhile (fun n => n != 0) = l := by
          rw [← hE]
          simp [List.takeWhile_cons, hz]
        have HE2 := Aside0.mk hE2
        clear hE hE2 hlen hz
        go_wp2_with (
          (with_reducible refine gate_builtin (b := .append) (xs := #[.tmp 13, .tmp 15]) rfl ?_)
          at_builtin
          refine Kd.R_append (Kd.int .i64) (w0 := w) w.heap.size rfl (.tmp 13) (.tmp 15) 43 3 (.int .i64 0) 8 rfl Try.underlying43 info3 rfl (by decide) (by omega) u3 x s0 [.int .i64 s0] (fun _ => True) (fun _ => False) rfl (by first | (go_simp; done) | (go_simp; rfl)) ?aP (fun _ hk => hk.elim) (fun _ _ => trivial) ?aO ?aB ?aS ?aL ?_
          case aP => exact rfl
          case aO => exact (by (with_reducible repeat (first | apply Kd.R_alloc | apply Kd.R_drewN | apply Kd.R_drew)); exact HO.out)
          case aB => exact (by repeat (first | (with_reducible first | exact HB.out | apply below_alloc | apply pw_below_drewN | apply below_drew1) | refine below_set ?_ (by omega)))
          case aS => exact below_size (by repeat (first | (with_reducible first | exact HB.out | apply below_alloc | apply pw_below_drewN | apply below_drew1) | refine below_set ?_ (by omega)))
          case aL => have := HX.out; omega
          intro v1 w1 ho hb hg hat
          have HO1 := Aside0.mk ho
          have HB1 := Aside0.mk hb
          clear ho hb hg hat)
        go_roundw
        case rel => exact ⟨1, _, rfl, by omega, by omega, ⟨by rw [List.length_append]; exact HN.out⟩, HE2, HO1, HB1⟩
        case measure => simp [intOf]
    · clear hk0 hk
      by_cases hz : s1 = 0
      · have hz1 : (s1 == 0) = true := by simp [hz]
        have hE := HE.out
        simp [hz] at hE
        subst hE
        go_wp2
        go_ret
        exact ⟨_, rfl, HO.out, HB.out⟩
      · have hz1 : (s1 == 0) = false := by simp [hz]
        have hE := HE.out
        have hlen : x.length + 1 ≤ 4 := by
          have h4 := steps_upto s0 s1 s2 s3
          rw [HL.out] at h4
          rw [← hE] at h4
          simp [List.takeWhile_cons, hz] at h4
          omega
        have HN := Aside0.mk hlen
        have hE2 : (x ++ [s1]) ++ ([s0, s1, s2, s3].drop (2 : Int).toNat).takeWhile (fun n => n != 0) = l := by
          rw [← hE]
          simp [List.takeWhile_cons, hz]
        have HE2 := Aside0.mk hE2
        clear hE hE2 hlen hz
        go_wp2_with (
          (with_reducible refine gate_builtin (b := .append) (xs := #[.tmp 13, .tmp 15]) rfl ?_)
          at_builtin
          refine Kd.R_append (Kd.int .i64) (w0 := w) w.heap.size rfl (.tmp 13) (.tmp 15) 43 3 (.int .i64 0) 8 rfl Try.underlying43 info3 rfl (by decide) (by omega) u3 x s1 [.int .i64 s1] (fun _ => True) (fun _ => False) rfl (by first | (go_simp; done) | (go_simp; rfl)) ?aP (fun _ hk => hk.elim) (fun _ _ => trivial) ?aO ?aB ?aS ?aL ?_
          case aP => exact rfl
          case aO => exact (by (with_reducible repeat (first | apply Kd.R_alloc | apply Kd.R_drewN | apply Kd.R_drew)); exact HO.out)
          case aB => exact (by repeat (first | (with_reducible first | exact HB.out | apply below_alloc | apply pw_below_drewN | apply below_drew1) | refine below_set ?_ (by omega)))
          case aS => exact below_size (by repeat (first | (with_reducible first | exact HB.out | apply below_alloc | apply pw_below_drewN | apply below_drew1) | refine below_set ?_ (by omega)))
          case aL => have := HX.out; omega
          intro v1 w1 ho hb hg hat
          have HO1 := Aside0.mk ho
          have HB1 := Aside0.mk hb
          clear ho hb hg hat)
        go_roundw
        case rel => exact ⟨2, _, rfl, by omega, by omega, ⟨by rw [List.length_append]; exact HN.out⟩, HE2, HO1, HB1⟩
        case measure => simp [intOf]
    · clear hk0 hk
      by_cases hz : s2 = 0
      · have hz1 : (s2 == 0) = true := by simp [hz]
        have hE := HE.out
        simp [hz] at hE
        subst hE
        go_wp2
        go_ret
        exact ⟨_, rfl, HO.out, HB.out⟩
      · have hz1 : (s2 == 0) = false := by simp [hz]
        have hE := HE.out
        have hlen : x.length + 1 ≤ 4 := by
          have h4 := steps_upto s0 s1 s2 s3
          rw [HL.out] at h4
          rw [← hE] at h4
          simp [List.takeWhile_cons, hz] at h4
          omega
        have HN := Aside0.mk hlen
        have hE2 : (x ++ [s2]) ++ ([s0, s1, s2, s3].drop (3 : Int).toNat).takeWhile (fun n => n != 0) = l := by
          rw [← hE]
          simp [List.takeWhile_cons, hz]
        have HE2 := Aside0.mk hE2
        clear hE hE2 hlen hz
        go_wp2_with (
          (with_reducible refine gate_builtin (b := .append) (xs := #[.tmp 13, .tmp 15]) rfl ?_)
          at_builtin
          refine Kd.R_append (Kd.int .i64) (w0 := w) w.heap.size rfl (.tmp 13) (.tmp 15) 43 3 (.int .i64 0) 8 rfl Try.underlying43 info3 rfl (by decide) (by omega) u3 x s2 [.int .i64 s2] (fun _ => True) (fun _ => False) rfl (by first | (go_simp; done) | (go_simp; rfl)) ?aP (fun _ hk => hk.elim) (fun _ _ => trivial) ?aO ?aB ?aS ?aL ?_
          case aP => exact rfl
          case aO => exact (by (with_reducible repeat (first | apply Kd.R_alloc | apply Kd.R_drewN | apply Kd.R_drew)); exact HO.out)
          case aB => exact (by repeat (first | (with_reducible first | exact HB.out | apply below_alloc | apply pw_below_drewN | apply below_drew1) | refine below_set ?_ (by omega)))
          case aS => exact below_size (by repeat (first | (with_reducible first | exact HB.out | apply below_alloc | apply pw_below_drewN | apply below_drew1) | refine below_set ?_ (by omega)))
          case aL => have := HX.out; omega
          intro v1 w1 ho hb hg hat
          have HO1 := Aside0.mk ho
          have HB1 := Aside0.mk hb
          clear ho hb hg hat)
        go_roundw
        case rel => exact ⟨3, _, rfl, by omega, by omega, ⟨by rw [List.length_append]; exact HN.out⟩, HE2, HO1, HB1⟩
        case measure => simp [intOf]
    · clear hk0 hk
      by_cases hz : s3 = 0
      · have hz1 : (s3 == 0) = true := by simp [hz]
        have hE := HE.out
        simp [hz] at hE
        subst hE
        go_wp2
        go_ret
        exact ⟨_, rfl, HO.out, HB.out⟩
      · have hz1 : (s3 == 0) = false := by simp [hz]
        have hE := HE.out
        have hlen : x.length + 1 ≤ 4 := by
          have h4 := steps_upto s0 s1 s2 s3
          rw [HL.out] at h4
          rw [← hE] at h4
          simp [List.takeWhile_cons, hz] at h4
          omega
        have HN := Aside0.mk hlen
        have hE2 : (x ++ [s3]) ++ ([s0, s1, s2, s3].drop (4 : Int).toNat).takeWhile (fun n => n != 0) = l := by
          rw [← hE]
          simp [List.takeWhile_cons, hz]
        have HE2 := Aside0.mk hE2
        clear hE hE2 hlen hz
        go_wp2_with (
          (with_reducible refine gate_builtin (b := .append) (xs := #[.tmp 13, .tmp 15]) rfl ?_)
          at_builtin
          refine Kd.R_append (Kd.int .i64) (w0 := w) w.heap.size rfl (.tmp 13) (.tmp 15) 43 3 (.int .i64 0) 8 rfl Try.underlying43 info3 rfl (by decide) (by omega) u3 x s3 [.int .i64 s3] (fun _ => True) (fun _ => False) rfl (by first | (go_simp; done) | (go_simp; rfl)) ?aP (fun _ hk => hk.elim) (fun _ _ => trivial) ?aO ?aB ?aS ?aL ?_
          case aP => exact rfl
          case aO => exact (by (with_reducible repeat (first | apply Kd.R_alloc | apply Kd.R_drewN | apply Kd.R_drew)); exact HO.out)
          case aB => exact (by repeat (first | (with_reducible first | exact HB.out | apply below_alloc | apply pw_below_drewN | apply below_drew1) | refine below_set ?_ (by omega)))
          case aS => exact below_size (by repeat (first | (with_reducible first | exact HB.out | apply below_alloc | apply pw_below_drewN | apply below_drew1) | refine below_set ?_ (by omega)))
          case aL => have := HX.out; omega
          intro v1 w1 ho hb hg hat
          have HO1 := Aside0.mk ho
          have HB1 := Aside0.mk hb
          clear ho hb hg hat)
        go_roundw
        case rel => exact ⟨4, _, rfl, by omega, by omega, ⟨by rw [List.length_append]; exact HN.out⟩, HE2, HO1, HB1⟩
        case measure => simp [intOf]
    · clear hk0 hk
      have hE := HE.out
      simp at hE
      subst hE
      go_wp2
      go_ret
      exact ⟨_, rfl, HO.out, HB.out⟩

/-- So many percent, rounded up. -/
def pct (a0 a1 : Int) : Int := wrap64 (Int.tdiv (wrap64 ((wrap64 ((mn (mx a0 0) 100) * (mn (mx a1 0) 1048576))) + 99)) 100)
theorem pct_q (a0 a1 : Int) (w : World) : Calls Try.prog 40 #[.int .i64 a0, .int .i64 a1, .bool true] w fun e w' => e = .returned (.int .i64 (pct a0 a1)) ∧ Below w.heap.size w w' :=
  PPlanEnds.num_Percent.calls a0 a1 true _ w rfl

/-- The targets of a spec. -/
def targetsL (v d s u st s0 s1 s2 s3 p q r : Int) : List Int := if okB v d s u st s0 s1 s2 s3 p q r = true then (stepsL s0 s1 s2 s3).map (fun n => pct n d) ++ [d] else []
theorem targets_upto (v d s u st s0 s1 s2 s3 p q r : Int) : (targetsL v d s u st s0 s1 s2 s3 p q r).length ≤ 5 := by
  unfold targetsL
  split
  · have := steps_upto s0 s1 s2 s3
    simp
    omega
  · simp

theorem row_at {w : World} {base : Nat} {A : Option Addr} {n c : Nat} {xs : List Int} (h : RowI w base (.slice A n c) xs) (k : Nat) (hk : k < xs.length) : ∃ (rb ro : Nat), A = some ⟨rb, ro, none⟩ ∧ rb < w.heap.size ∧ w.cell? ⟨rb, ro + k, none⟩ = some (.int .i64 (xs.getD k 0)) := by
  obtain ⟨A', c', e, _, hC⟩ := Kd.R_reads h
  cases e
  obtain ⟨ad0, cs0, e_, hl0, hK0, hcell0⟩ := Kd.C_get hC 0 0 (by omega) (by omega)
  obtain ⟨ad, cs, e2_, hl, hK, hcell⟩ := Kd.C_get hC 0 (k : Int) (by omega) (by omega)
  obtain rfl : ad0 = ad := by rw [e_] at e2_; exact Option.some.inj e2_
  have hK0' : cs0 = [Value.int .i64 (xs.getD (Int.toNat 0) 0)] := hK0
  have hK' : cs = [Value.int .i64 (xs.getD (Int.toNat (k : Int)) 0)] := hK
  subst hK0' hK'
  have g0 := hcell0 0 _ rfl
  have e0 := hcell 0 _ rfl
  rw [show Int.toNat 0 * (Kd.int .i64).sz + 0 = 0 from rfl, show ad0.add 0 = ad0 from rfl] at g0
  have hsp := World.cell?_spot g0
  obtain ⟨rb, ro, sp⟩ := ad0
  dsimp only at hsp
  subst hsp
  have hadd : ∀ j, (⟨rb, ro, none⟩ : Addr).add j = ⟨rb, ro + j, none⟩ := fun j => by unfold Addr.add; split <;> simp_all
  rw [show Int.toNat (k : Int) * (Kd.int .i64).sz + 0 = k by simp [Kd.int, Kd.scalar], hadd] at e0
  exact ⟨rb, ro, e_, World.block_lt_of_cell? w _ e0, by simpa using e0⟩

set_option maxRecDepth 100000 in
set_option maxHeartbeats 4000000 in
theorem targets_q (v d s u st s0 s1 s2 s3 p q r : Int) (w : World) : Calls Try.prog 32 #[.agg #[.int .i64 v, .int .i64 d, .int .i64 s, .int .i64 u, .int .i64 st, .int .i64 s0, .int .i64 s1, .int .i64 s2, .int .i64 s3, .int .i64 p, .int .i64 q, .int .i64 r]] w fun e w' => ∃ vv, e = .returned vv ∧ RowI w' w.heap.size vv (targetsL v d s u st s0 s1 s2 s3 p q r) ∧ Below w.heap.size w w' := by
  have HB := Aside0.mk (Below.refl w.heap.size w)
  cases hok : okB v d s u st s0 s1 s2 s3 p q r with
  | false =>
    have hl : targetsL v d s u st s0 s1 s2 s3 p q r = [] := by unfold targetsL; rw [hok]; rfl
    rw [hl]
    clear hl
    go_enter Try.func32, Try.ntmps32
    go_wp2_with fail
    refine (right_q v d s u st s0 s1 s2 s3 p q r _).mono ?_
    rw [hok]
    rintro e w1 ⟨rfl, hb1⟩
    have n0 := Aside0.mk (below_step (by repeat (first | (with_reducible first | exact HB.out | apply below_alloc | apply pw_below_drewN | apply below_drew1) | refine below_set ?_ (by omega))) hb1)
    clear HB hb1
    have HB := n0
    clear n0
    go_wp2
    go_ret
    exact ⟨_, rfl, Kd.R_nil _ _ _ _ _, by repeat (first | (with_reducible first | exact HB.out | apply below_alloc | apply pw_below_drewN | apply below_drew1) | refine below_set ?_ (by omega))⟩
  | true =>
    obtain ⟨l, hl⟩ : ∃ l, stepsL s0 s1 s2 s3 = l := ⟨_, rfl⟩
    have hl4 := steps_upto s0 s1 s2 s3
    rw [hl] at hl4
    have ht : targetsL v d s u st s0 s1 s2 s3 p q r = l.map (fun n => pct n d) ++ [d] := by unfold targetsL; rw [hok, hl]; rfl
    rw [ht]
    have HL := Aside0.mk hl
    clear ht hl
    go_enter Try.func32, Try.ntmps32
    go_wp2_with fail
    refine (right_q v d s u st s0 s1 s2 s3 p q r _).mono ?_
    rw [hok]
    rintro e w1 ⟨rfl, hb1⟩
    have D : IsBlk w1 w.heap.size #[.int .i64 v, .int .i64 d, .int .i64 s, .int .i64 u, .int .i64 st, .int .i64 s0, .int .i64 s1, .int .i64 s2, .int .i64 s3, .int .i64 p, .int .i64 q, .int .i64 r] 24 := IsBlk.below (by repeat (first | ((refine IsBlk.new _ _ ?_); (simp; done)) | apply IsBlk.alloc | apply IsBlk.drewN)) hb1
    have D_0 := blk_cell D 0
    have D_1 := blk_cell D 1
    have D_2 := blk_cell D 2
    have D_3 := blk_cell D 3
    have D_4 := blk_cell D 4
    have D_5 := blk_cell D 5
    have D_6 := blk_cell D 6
    have D_7 := blk_cell D 7
    have D_8 := blk_cell D 8
    have D_9 := blk_cell D 9
    have D_10 := blk_cell D 10
    have D_11 := blk_cell D 11
    simp only [List.getElem?_toArray, List.getElem?_cons_zero, List.getElem?_cons_succ] at D_0 D_1 D_2 D_3 D_4 D_5 D_6 D_7 D_8 D_9 D_10 D_11
    have D_l := blk_lt D
    have HD := Aside0.mk D
    clear D
    have n0 := Aside0.mk (below_step (by repeat (first | (with_reducible first | exact HB.out | apply below_alloc | apply pw_below_drewN | apply below_drew1) | refine below_set ?_ (by omega))) hb1)
    clear HB hb1
    have HB := n0
    clear n0
    go_wp2_with fail
    refine (steps_q v d s u st s0 s1 s2 s3 p q r _).mono ?_
    rintro e w2 ⟨vv, rfl, hR, hb1⟩
    rw [HL.out] at hR
    obtain ⟨A1, c1, rfl, hlc, _⟩ := Kd.R_reads hR
    have HR := Aside0.mk hR
    clear hR
    have D' := IsBlk.below (by repeat (with_reducible first | exact HD.out | apply IsBlk.alloc | apply IsBlk.drewN | apply IsBlk.drew)) hb1
    clear D_0 D_1 D_2 D_3 D_4 D_5 D_6 D_7 D_8 D_9 D_10 D_11 D_l HD
    have HD := Aside0.mk D'
    clear D'
    have n0 := Aside0.mk (below_step (by repeat (first | (with_reducible first | exact HB.out | apply below_alloc | apply pw_below_drewN | apply below_drew1) | refine below_set ?_ (by omega))) hb1)
    clear HB hb1
    have HB := n0
    clear n0
    go_wp2_with fail
    have hD2 := blk_lt HD.out
    go_loopw [3, 13] (fun v3 v13 wr => ∃ (k : Nat), v13 = .int .i64 k ∧ k ≤ l.length ∧ Aside0 (RowI wr w2.heap.size v3 ((l.take k).map (fun n => pct n d))) ∧ Aside0 (Kd.R (Kd.int .i64) 3 wr w1.heap.size (fun k => k < w2.heap.size) (.slice A1 l.length c1) l) ∧ Aside0 (IsBlk wr w.heap.size #[.int .i64 v, .int .i64 d, .int .i64 s, .int .i64 u, .int .i64 st, .int .i64 s0, .int .i64 s1, .int .i64 s2, .int .i64 s3, .int .i64 p, .int .i64 q, .int .i64 r] 24) ∧ Aside0 (Below w2.heap.size w2 wr)) (fun _ v13 _ => l.length - (intOf v13).toNat)
    case atStart => exact ⟨0, rfl, by omega, ⟨Kd.R_nil _ _ _ _ _⟩, ⟨Kd.R_mono (Kd.R_bound HR.out) (fun k hk => hk.2.2.1)⟩, HD, ⟨Below.refl _ _⟩⟩
    case round =>
      have HBw := HB
      clear HR HD HB
      obtain ⟨k, rfl, hk, HO, HR, HD0, HB⟩ := hrel
      have D := HD0.out
      clear HD0
      have D_0 := blk_cell D 0
      have D_1 := blk_cell D 1
      have D_2 := blk_cell D 2
      have D_3 := blk_cell D 3
      have D_4 := blk_cell D 4
      have D_5 := blk_cell D 5
      have D_6 := blk_cell D 6
      have D_7 := blk_cell D 7
      have D_8 := blk_cell D 8
      have D_9 := blk_cell D 9
      have D_10 := blk_cell D 10
      have D_11 := blk_cell D 11
      simp only [List.getElem?_toArray, List.getElem?_cons_zero, List.getElem?_cons_succ] at D_0 D_1 D_2 D_3 D_4 D_5 D_6 D_7 D_8 D_9 D_10 D_11
      have D_l := blk_lt D
      have HD := Aside0.mk D
      clear D
      have HX : Aside0 (((l.take k).map (fun n => pct n d)).length ≤ 1000) := ⟨by rw [List.length_map]; have := List.length_take_le k l; omega⟩
      by_cases hlt : k < l.length
      · have hi1 : decide ((k : Int) < (l.length : Int)) = true := by simp; omega
        have hki : (k : Int) < (l.length : Int) := by omega
        have hmax : (l.length : Int) ≤ 4 := by omega
        obtain ⟨rb, ro, rfl, hrb, ck⟩ := row_at (Kd.R_mono HR.out (fun _ _ => trivial)) k hlt
        obtain ⟨n, hn⟩ : ∃ n, l.getD k 0 = n := ⟨_, rfl⟩
        rw [hn] at ck
        go_wp2_with fail
        refine (pct_q n d _).mono ?_
        rintro e w3 ⟨rfl, hb1⟩
        have nO := Aside0.mk (Kd.R_below (by (with_reducible repeat (first | apply Kd.R_alloc | apply Kd.R_drewN | apply Kd.R_drew)); exact HO.out) hb1)
        have nR := Aside0.mk (Kd.R_below (by (with_reducible repeat (first | apply Kd.R_alloc | apply Kd.R_drewN | apply Kd.R_drew)); exact HR.out) hb1)
        have D' := IsBlk.below (by repeat (with_reducible first | exact HD.out | apply IsBlk.alloc | apply IsBlk.drewN | apply IsBlk.drew)) hb1
        clear D_0 D_1 D_2 D_3 D_4 D_5 D_6 D_7 D_8 D_9 D_10 D_11 D_l HD
        have HD := Aside0.mk D'
        clear D'
        have n0 := Aside0.mk (below_step (by repeat (first | (with_reducible first | exact HB.out | apply below_alloc | apply pw_below_drewN | apply below_drew1) | refine below_set ?_ (by omega))) hb1)
        clear HB hb1 HO HR ck hrb
        have HB := n0
        have HO := nO
        have HR := nR
        clear n0 nO nR
        have he : (l.take (k + 1)).map (fun n => pct n d) = (l.take k).map (fun n => pct n d) ++ [pct n d] := by
          rw [List.take_succ_eq_append_getElem hlt, List.map_append, ← hn]
          simp [hlt]
        have HE := Aside0.mk he
        clear he hn
        obtain ⟨y, hy⟩ : ∃ y, pct n d = y := ⟨_, rfl⟩
        rw [hy] at HE ⊢
        clear hy
        have hsep : ∀ k, k < w2.heap.size → some k ≠ u3.ownBlock := fun k hk e => by
          obtain ⟨inner, ho⟩ := Kd.R_own HO.out
          have := own_base ho k e.symm
          omega
        have HS := Aside0.mk hsep
        clear hsep
        go_wp2_with (
          (with_reducible refine gate_builtin (b := .append) (xs := #[.tmp 17, .tmp 22]) rfl ?_)
          at_builtin
          refine Kd.R_append (Kd.int .i64) (w0 := w2) w2.heap.size rfl (.tmp 17) (.tmp 22) 43 3 (.int .i64 0) 8 rfl Try.underlying43 info3 rfl (by decide) (by omega) u3 ((l.take k).map (fun n => pct n d)) y [.int .i64 y] (fun _ => True) (fun _ => False) rfl (by first | (go_simp; done) | (go_simp; rfl)) ?aP (fun _ hk => hk.elim) (fun _ _ => trivial) ?aO ?aB ?aS ?aL ?_
          case aP => exact rfl
          case aO => exact (by (with_reducible repeat (first | apply Kd.R_alloc | apply Kd.R_drewN | apply Kd.R_drew)); exact HO.out)
          case aB => exact (by repeat (first | (with_reducible first | exact HB.out | apply below_alloc | apply pw_below_drewN | apply below_drew1) | refine below_set ?_ (by omega)))
          case aS => exact below_size (by repeat (first | (with_reducible first | exact HB.out | apply below_alloc | apply pw_below_drewN | apply below_drew1) | refine below_set ?_ (by omega)))
          case aL => have := HX.out; omega
          intro v1 w1 ho hb hg hat
          have nR := Aside0.mk (Kd.R_grown (by (with_reducible repeat (first | apply Kd.R_alloc | apply Kd.R_drewN | apply Kd.R_drew)); exact HR.out) hg HS.out)
          have DD := Aside0.mk (IsBlk_grown (by repeat (with_reducible first | exact HD.out | apply IsBlk.alloc | apply IsBlk.drewN | apply IsBlk.drew)) hg (HS.out _ hD2))
          have HO1 := Aside0.mk ho
          have HB1 := Aside0.mk hb
          clear ho hb hg hat)
        go_roundw
        case rel => exact ⟨k + 1, by go_num, by omega, ⟨by rw [HE.out]; exact HO1.out⟩, nR, DD, HB1⟩
        case measure => simp [intOf]; omega
      · have hi1 : decide ((k : Int) < (l.length : Int)) = false := by simp; omega
        have hkl : k = l.length := by omega
        subst hkl
        go_wp2_with (
          (with_reducible refine gate_builtin (b := .append) (xs := #[.tmp 25, .tmp 28]) rfl ?_)
          at_builtin
          refine Kd.R_append (Kd.int .i64) (w0 := w2) w2.heap.size rfl (.tmp 25) (.tmp 28) 43 3 (.int .i64 0) 8 rfl Try.underlying43 info3 rfl (by decide) (by omega) u3 ((l.take l.length).map (fun n => pct n d)) d [.int .i64 d] (fun _ => True) (fun _ => False) rfl (by first | (go_simp; done) | (go_simp; rfl)) ?aP (fun _ hk => hk.elim) (fun _ _ => trivial) ?aO ?aB ?aS ?aL ?_
          case aP => exact rfl
          case aO => exact (by (with_reducible repeat (first | apply Kd.R_alloc | apply Kd.R_drewN | apply Kd.R_drew)); exact HO.out)
          case aB => exact (by repeat (first | (with_reducible first | exact HB.out | apply below_alloc | apply pw_below_drewN | apply below_drew1) | refine below_set ?_ (by omega)))
          case aS => exact below_size (by repeat (first | (with_reducible first | exact HB.out | apply below_alloc | apply pw_below_drewN | apply below_drew1) | refine below_set ?_ (by omega)))
          case aL => have := HX.out; omega
          intro v1 w1 ho hb hg hat
          have HO1 := Aside0.mk ho
          have HB1 := Aside0.mk hb
          clear ho hb hg hat)
        go_ret
        refine ⟨_, rfl, ?_, below_step HBw.out HB1.out⟩
        have h := HO1.out
        rw [List.take_length] at h
        exact Kd.R_lower h (below_size HBw.out)

theorem stages_q (v d s u st s0 s1 s2 s3 p q r : Int) (w : World) : Calls Try.prog 20 #[.agg #[.int .i64 v, .int .i64 d, .int .i64 s, .int .i64 u, .int .i64 st, .int .i64 s0, .int .i64 s1, .int .i64 s2, .int .i64 s3, .int .i64 p, .int .i64 q, .int .i64 r]] w fun e w' => e = .returned (.int .i64 (targetsL v d s u st s0 s1 s2 s3 p q r).length) ∧ Below w.heap.size w w' := by
  have HB := Aside0.mk (Below.refl w.heap.size w)
  go_enter Try.func20, Try.ntmps20
  go_wp2_with fail
  refine (targets_q v d s u st s0 s1 s2 s3 p q r _).mono ?_
  rintro e w1 ⟨vv, rfl, hR, hb1⟩
  obtain ⟨A1, c1, rfl, hlc, _⟩ := Kd.R_reads hR
  have n0 := Aside0.mk (below_step (by repeat (first | (with_reducible first | exact HB.out | apply below_alloc | apply pw_below_drewN | apply below_drew1) | refine below_set ?_ (by omega))) hb1)
  clear HB hb1 hR
  have HB := n0
  clear n0
  go_wp2
  go_ret
  exact ⟨rfl, by repeat (first | (with_reducible first | exact HB.out | apply below_alloc | apply pw_below_drewN | apply below_drew1) | refine below_set ?_ (by omega))⟩

/-- The target of a stage. -/
def targetV (v d s u st s0 s1 s2 s3 p q r i : Int) : Int := if 0 ≤ i ∧ i < (targetsL v d s u st s0 s1 s2 s3 p q r).length then (targetsL v d s u st s0 s1 s2 s3 p q r).getD i.toNat 0 else 0
set_option maxHeartbeats 2000000 in
theorem target_q (v d s u st s0 s1 s2 s3 p q r i : Int) (w : World) : Calls Try.prog 31 #[.agg #[.int .i64 v, .int .i64 d, .int .i64 s, .int .i64 u, .int .i64 st, .int .i64 s0, .int .i64 s1, .int .i64 s2, .int .i64 s3, .int .i64 p, .int .i64 q, .int .i64 r], .int .i64 i] w fun e w' => e = .returned (.int .i64 (targetV v d s u st s0 s1 s2 s3 p q r i)) ∧ Below w.heap.size w w' := by
  have HB := Aside0.mk (Below.refl w.heap.size w)
  obtain ⟨l, hl⟩ : ∃ l, targetsL v d s u st s0 s1 s2 s3 p q r = l := ⟨_, rfl⟩
  have ht := targets_upto v d s u st s0 s1 s2 s3 p q r
  unfold targetV
  rw [hl] at ht ⊢
  have HL := Aside0.mk hl
  clear hl
  obtain ⟨z, hz⟩ : ∃ z, (if 0 ≤ i ∧ i < (l.length : Int) then l.getD i.toNat 0 else 0) = z := ⟨_, rfl⟩
  rw [hz]
  have HZ := Aside0.mk hz
  clear hz
  go_enter Try.func31, Try.ntmps31
  go_wp2_with fail
  refine (targets_q v d s u st s0 s1 s2 s3 p q r _).mono ?_
  rintro e w1 ⟨vv, rfl, hR, hb1⟩
  rw [HL.out] at hR
  obtain ⟨A1, c1, rfl, hlc, _⟩ := Kd.R_reads hR
  have HR := Aside0.mk hR
  have n0 := Aside0.mk (below_step (by repeat (first | (with_reducible first | exact HB.out | apply below_alloc | apply pw_below_drewN | apply below_drew1) | refine below_set ?_ (by omega))) hb1)
  clear HB hb1 hR
  have HB := n0
  clear n0
  have hmax : (l.length : Int) ≤ 5 := by omega
  by_cases h0 : i < 0
  · have h1 : decide (i < 0) = true := by simpa using h0
    have hv : ¬ (0 ≤ i ∧ i < (l.length : Int)) := by omega
    obtain rfl : z = 0 := by rw [← HZ.out, if_neg hv]
    clear hv
    go_wp2
    go_ret
    exact ⟨rfl, by repeat (first | (with_reducible first | exact HB.out | apply below_alloc | apply pw_below_drewN | apply below_drew1) | refine below_set ?_ (by omega))⟩
  · have h1 : decide (i < 0) = false := by simpa using h0
    by_cases hlt : i < (l.length : Int)
    · have h2 : decide ((l.length : Int) ≤ i) = false := by simp; omega
      obtain ⟨rb, ro, rfl, hrb, ck⟩ := row_at HR.out i.toNat (by omega)
      have hi0 : (0 : Int) ≤ i := by omega
      have hzz := HZ.out
      rw [if_pos ⟨hi0, hlt⟩] at hzz
      rw [hzz] at ck
      clear hzz
      clear h0
      go_wp2
      go_ret
      exact ⟨rfl, by repeat (first | (with_reducible first | exact HB.out | apply below_alloc | apply pw_below_drewN | apply below_drew1) | refine below_set ?_ (by omega))⟩
    · have h2 : decide ((l.length : Int) ≤ i) = true := by simp; omega
      have hv : ¬ (0 ≤ i ∧ i < (l.length : Int)) := by omega
      obtain rfl : z = 0 := by rw [← HZ.out, if_neg hv]
      clear hv
      go_wp2
      go_ret
      exact ⟨rfl, by repeat (first | (with_reducible first | exact HB.out | apply below_alloc | apply pw_below_drewN | apply below_drew1) | refine below_set ?_ (by omega))⟩
end Go.Proofs.Ytloljhopccpeeaa.B2
