/-
  Proved here: what pacesetterlaw16.WorkerFalls returns, whatever the input: true. No condition but how the slice reads.
-/
import Derived.Test.YtkjaeodnpgpfeaaV9
import Derived.Test.YtkjaeodnpgpfeaaO2
import Derived.Deep.RegionWith
import Derived.Deep.DeepCutAuto
namespace Go.Proofs.Ytkjaeodnpgpfeaa.WalkWorkerFalls
open Go.RowKit Go.Maps Go.Sort Go.Shelf Go.Proofs.Ytkjaeodnpgpfeaa.M Go.Proofs.Ytkjaeodnpgpfeaa.S0 Go.Proofs.Ytkjaeodnpgpfeaa.S4 Go.Proofs.Ytkjaeodnpgpfeaa.W0 Go.Proofs.YtkjaeodnpgpfeaaW.PrintWords Go.Proofs.YtkjaeodnpgpfeaaW.PrintLast Go.Proofs.YtkjaeodnpgpfeaaW.PrintMore Go.Proofs.Ytkjaeodnpgpfeaa.W1 Go.Proofs.Ytkjaeodnpgpfeaa.W2 Go.Proofs.Ytkjaeodnpgpfeaa.W3 Go.Proofs.Ytkjaeodnpgpfeaa.W4 Go.Proofs.Ytkjaeodnpgpfeaa.W5 Go.Proofs.Ytkjaeodnpgpfeaa.W8 Go.Proofs.Ytkjaeodnpgpfeaa.V0 Go.Proofs.Ytkjaeodnpgpfeaa.V1 Go.Proofs.Ytkjaeodnpgpfeaa.V2 Go.Proofs.Ytkjaeodnpgpfeaa.V3 Go.Proofs.Ytkjaeodnpgpfeaa.V4 Go.Proofs.Ytkjaeodnpgpfeaa.V5 Go.Proofs.Ytkjaeodnpgpfeaa.V6 Go.Proofs.Ytkjaeodnpgpfeaa.V7 Go.Proofs.Ytkjaeodnpgpfeaa.V8 Go.Proofs.Ytkjaeodnpgpfeaa.V9 Go.Proofs.Ytkjaeodnpgpfeaa.O2
set_option linter.unusedVariables false
set_option linter.unusedSimpArgs false
attribute [local go_sem] max2_int min2_int max_two min_two run_makeMap

theorem all_own {f : Int → Option Sl} (hd : Dom 0 1 f) {k : Int} (h0 : 0 ≤ k) (h1 : k < 16) : ∃ s, f k = some s := by
  refine Option.isSome_iff_exists.1 ?_
  rw [hd k]
  unfold ownB
  have h2 : k ≤ 15 := by omega
  simp [h0, h2, Int.emod_one]
theorem own_16 {f : Int → Option Sl} (hd : Dom 0 1 f) : (ownL f).length = 16 := by
  rw [range_own hd]
  kernel_rfl
theorem falls_at {s : Sl} (h : right s = true) : falls s = (⟨0, 0, s.want, s.seq⟩, decide (s.st ≠ 0)) := by unfold falls; rw [if_pos h]
theorem countP_or (l : List Int) (p q : Int → Bool) (h : ∀ x ∈ l, p x = !q x) : l.countP p + l.countP q = l.length := by
  induction l with
  | nil => rfl
  | cons a l ih =>
    have h1 := ih (fun x hx => h x (List.mem_cons_of_mem _ hx))
    have h2 := h a (List.mem_cons_self ..)
    simp only [List.countP_cons, List.length_cons]
    cases hq : q a <;> rw [hq] at h2 <;> simp [h2] <;> omega
theorem stops {f : Int → Option Sl} (hd : Dom 0 1 f) (hr : Rt f) : cntW f 0 + cntFW f (ownL f) = 16 := by
  unfold cntW cntFW
  rw [← own_16 hd]
  refine countP_or _ _ _ fun k hk => ?_
  obtain ⟨s, hs⟩ := Option.isSome_iff_exists.1 ((ownL_mem hd.low k).1 hk)
  rw [hs]
  show (s.st == 0) = !(falls s).2
  rw [falls_at (hr k s hs)]
  by_cases h : s.st = 0 <;> simp [h]
theorem fallen {f : Int → Option Sl} (hd : Dom 0 1 f) (hr : Rt f) : ∀ k s, gI f (ownL f) k = some s → s.st = 0 ∧ s.ver = 0 ∧ 0 ≤ s.want ∧ right s = true := fun k s hs => by
  have hm : k ∈ ownL f := (ownL_mem hd.low k).2 (by
    have h1 := Dom.fall hd (ownL f) k
    rw [hs] at h1
    rw [hd k, ← h1]; rfl)
  have hs2 := hs
  unfold gI at hs2
  rw [if_pos hm] at hs2
  cases hf0 : f k with
  | none => rw [hf0] at hs2; cases hs2
  | some t =>
    rw [hf0] at hs2
    have e : s = (falls t).1 := (Option.some.inj hs2).symm
    have hrt := hr k t hf0
    have h3 := falls_right t hrt
    rw [← e] at h3
    rw [falls_at hrt] at e
    subst e
    exact ⟨rfl, rfl, ((right_iff t).1 hrt).2.2.2.1, h3⟩
theorem all_stop {f : Int → Option Sl} (hd : Dom 0 1 f) (hr : Rt f) : cntW (gI f (ownL f)) 0 = 16 := by
  have hd2 := Dom.fall hd (ownL f)
  rw [← own_16 hd2]
  unfold cntW
  rw [List.countP_eq_length]
  intro k hk
  obtain ⟨s, hs⟩ := Option.isSome_iff_exists.1 ((ownL_mem hd2.low k).1 hk)
  rw [hs]
  simp [(fallen hd hr k s hs).1]
/-- The slots from i on are as a Fall leaves them. -/
def Low (f : Int → Option Sl) (i : Int) : Prop := ∀ k s, i ≤ k → f k = some s → s.st = 0 ∧ s.ver = 0 ∧ 0 ≤ s.want ∧ right s = true
theorem Low.upd {f : Int → Option Sl} {i : Int} (h : Low f i) (s : Sl) : Low (W0.upd f i s) (i + 1) := fun k t hk ht => by
  unfold W0.upd at ht
  rw [if_neg (by omega)] at ht
  exact h k t (by omega) ht
theorem Low.next {f : Int → Option Sl} {i : Int} (h : Low f i) : Low f (i + 1) := fun k t hk ht => h k t (by omega) ht
theorem Low.upd2 {f : Int → Option Sl} {i : Int} (h : Low f (i + 1)) (s : Sl) : Low (W0.upd f i s) (i + 1) := fun k t hk ht => by
  unfold W0.upd at ht
  rw [if_neg (by omega)] at ht
  exact h k t hk ht
theorem app_at {f : Int → Option Sl} {k : Int} {s : Sl} (t : Sl → Sl × Bool) (h : f k = some s) : app f k t = (upd f k (t s).1, (t s).2) := by unfold app; rw [h]
theorem go_first {c d : Int} (h : right ⟨0, 0, c, d⟩ = true) (hc : 0 < c) : goes ⟨0, 0, c, d⟩ = (⟨1, c, c, d⟩, true) := by unfold goes; rw [if_pos h, if_pos rfl, if_pos hc]
theorem go_second {c d : Int} (h : right ⟨0, 0, c, d⟩ = true) (hc : 0 < c) : goes ⟨1, c, c, d⟩ = (⟨2, c, c, d⟩, true) := by
  have h1 := (right_iff _).1 h
  dsimp only at h1
  unfold goes
  rw [if_pos (by rw [right_iff]; dsimp only; omega), if_neg (show ¬ (1 : Int) = 0 by decide), if_pos rfl]
theorem go_none {d : Int} (h : right ⟨0, 0, 0, d⟩ = true) : goes ⟨0, 0, 0, d⟩ = (⟨0, 0, 0, d⟩, false) := by unfold goes; rw [if_pos h, if_pos rfl, if_neg (show ¬ (0 : Int) < 0 by decide)]
theorem upd_same {f : Int → Option Sl} {k : Int} {s : Sl} (h : f k = some s) : upd f k s = f := by
  funext j
  unfold W0.upd
  by_cases e : j = k
  · rw [if_pos e, e, h]
  · rw [if_neg e]
theorem upd_get (f : Int → Option Sl) (k : Int) (s : Sl) : upd f k s k = some s := by unfold W0.upd; rw [if_pos rfl]
set_option maxRecDepth 100000 in
set_option maxHeartbeats 8000000 in
theorem walk (A : Option Addr) (c0 : Nat) (l : List (Int × Int × Int × Int × Int × Int × Int × Int)) (w : World) (hr : Rowz Is53 8 w A l) (hc : l.length ≤ c0) : Calls Try.prog 6 #[.slice A l.length c0] w fun e w' => e = .returned (.bool true) ∧ Below w.heap.size w w' := by
  obtain ⟨n, hn⟩ : ∃ n : Int, n = 0 := ⟨_, rfl⟩
  obtain ⟨m, hm⟩ : ∃ m : Int, m = 1 := ⟨_, rfl⟩
  have HNM := Aside0.mk (And.intro hn hm)
  have HX : Aside0 (1 ≤ m ∧ m ≤ 16 ∧ 0 ≤ n ∧ n < m) := ⟨by omega⟩
  have HM : Aside0 (1 ≤ m ∧ m ≤ 16) := ⟨by omega⟩
  have HR0 := Aside0.mk hr
  have HNEW := Aside0.mk (fun w => new_q n m w HX.out.1 HX.out.2.1 HX.out.2.2.1 HX.out.2.2.2)
  have HNEW16 := Aside0.mk (fun w => new16_q n m w HX.out.1 HX.out.2.1 HX.out.2.2.1 HX.out.2.2.2)
  rw [hn, hm] at HNEW HNEW16
  rw [← hn, ← hm, ← hf_fresh n m, hn, hm] at HNEW16
  clear hr hn hm
  have HB := Aside0.mk (Below.refl w.heap.size w)
  go_enter Try.func6, Try.ntmps6
  go_wp2_with fail
  refine (lives_q _).mono ?_
  rintro e w1 ⟨rfl, hb1⟩
  have HW1 := Aside0.mk hb1.size
  have n0 := Aside0.mk (below_step (by repeat (first | (with_reducible first | exact HB.out | apply below_alloc | apply pw_below_drewN | apply below_drew1) | refine below_set ?_ (by omega))) hb1)
  clear HB hb1
  have HB := n0
  clear n0
  go_wp2_with fail
  refine (HNEW.out _).mono ?_
  rintro e w2 ⟨rfl, hk, hb1⟩
  have HK : Aside0 (Wk w2 (w1.heap.size + 1) w1.heap.size 0 (fresh n m 16)) := ⟨by rw [HNM.out.1, HNM.out.2]; exact hk⟩
  have HGR0 : Aside0 (w.heap.size ≤ w1.heap.size + 1 ∧ w.heap.size ≤ w1.heap.size ∧ w1.heap.size + 1 < w2.heap.size ∧ w1.heap.size < w2.heap.size) := ⟨by have := HW1.out; have := blk_lt hk.blk; omega⟩
  clear hk
  have n0 := Aside0.mk (below_step (by repeat (first | (with_reducible first | exact HB.out | apply below_alloc | apply pw_below_drewN | apply below_drew1) | refine below_set ?_ (by omega))) hb1)
  clear HB hb1
  have HB := n0
  clear n0
  generalize w1.heap.size + 1 = g at HK HGR0 ⊢
  generalize w1.heap.size = q at HK HGR0 ⊢
  go_wp2_with fail
  refine (new16_q 0 1 _ (by decide) (by decide) (by decide) (by decide)).mono ?_
  rw [show (rv 0 1 0 fun _ => zs) = rv n m 0 (hf (fresh n m 16)) by rw [hf_fresh, HNM.out.1, HNM.out.2]]
  rintro e w3 ⟨rfl, hb1⟩
  have HKn := Aside0.mk (Wk.below HK.out hb1)
  have HGR1 : Aside0 (w.heap.size ≤ g ∧ w.heap.size ≤ q ∧ g < w3.heap.size ∧ q < w3.heap.size ∧ w.heap.size ≤ w3.heap.size) := ⟨by have := HGR0.out; have := hb1.size; have := HB.out.size; omega⟩
  clear HK HGR0 HNEW HNEW16
  have HK := HKn
  clear HKn
  have n0 := Aside0.mk (below_step (by repeat (first | (with_reducible first | exact HB.out | apply below_alloc | apply pw_below_drewN | apply below_drew1) | refine below_set ?_ (by omega))) hb1)
  clear HB hb1
  have HB := n0
  clear n0
  go_upto_block 0 with ((with_reducible refine wpList_storeW w3.heap.size Try.zeroCells47 (rv n m 0 (hf (fresh n m 16))) ?_ ?_ ?_ z67_size (rv_size _ _ _ _) (rv_one _ _ _ _) ?_); rfl; rfl; exact IsBlk.new _ _ rfl; intro w4 hb4 hg4)
  have HR := Aside0.mk hb4
  have HKn : Aside0 (Wk w4 g q 0 (fresh n m 16)) := ⟨wk_new (HK.out.alloc _) hg4 (by have := HGR1.out; omega) (by have := HGR1.out; omega)⟩
  have HB4 : Aside0 (Below w.heap.size w w4) := ⟨below_of_new (below_alloc HB.out _) hg4 HB.out.size (by have := HB.out.size; simp; omega)⟩
  clear HB HK hb4 hg4
  have HK := HKn
  have HB := HB4
  clear HKn HB4
  obtain ⟨r9, hr9⟩ : ∃ x, w3.heap.size = x := ⟨_, rfl⟩
  have HGR : Aside0 (w.heap.size ≤ g ∧ w.heap.size ≤ q ∧ g < r9 ∧ q < r9 ∧ w.heap.size ≤ r9) := ⟨by have := HGR1.out; omega⟩
  rw [hr9] at HR ⊢
  clear hr9 HGR1
  go_cut [7] (fun v7 wc => ∃ (seen : Int) (f : Int → Option Sl), Aside0 (Wk wc g q seen f) ∧ Aside0 (Dom n m f) ∧ Aside0 (Rt f) ∧ Aside0 (Below w.heap.size w wc))
  case first =>
    go_wp2_with fail
    go_loopw [7] (fun v7 wr => ∃ (i seen : Int) (f : Int → Option Sl), v7 = .int .i64 i ∧ Aside0 (0 ≤ i ∧ i ≤ 40 ∧ i ≤ l.length) ∧ Aside0 (IsBlk wr r9 (rv n m seen (hf f)) 47) ∧ Aside0 (Wk wr g q seen f) ∧ Aside0 (Dom n m f) ∧ Aside0 (Rt f) ∧ Aside0 (Below w.heap.size w wr)) (fun v7 _ => 100 - (intOf v7).toNat)
    case atStart => exact ⟨0, 0, _, rfl, ⟨by omega⟩, HR, HK, ⟨Dom.fresh HX.out.2.2.1 HX.out.2.2.2⟩, ⟨Rt.fresh n m 16⟩, HB⟩
    case round =>
      clear HB HK HR
      obtain ⟨i, seen, f, rfl, HI, HR, HK, HD, HT, HB⟩ := hrel
      obtain ⟨wq, hwq⟩ : ∃ x, x = wr := ⟨_, rfl⟩
      subst hwq
      have hmax : l.length ≤ 9223372036854775807 := HR0.out.1
      by_cases hi : i < l.length
      · by_cases h60 : i < 40
        · have t1 : decide (i < (l.length : Int)) = true := decide_eq_true hi
          have t2 : decide (i < 40) = true := decide_eq_true h60
          have hi0 : 0 ≤ i := HI.out.1
          have H60 := Aside0.mk (And.intro h60 hi)
          have hkn : i.toNat < l.length := by omega
          obtain ⟨kb, ko, cs, rfl, _, hcs, hkb, hcell⟩ := Rowz.at' (Rowz.below HR0.out HB.out) (by omega) (0, 0, 0, 0, 0, 0, 0, 0) i.toNat hkn
          obtain ⟨kb0, ko0, cs0, hA0, _, _, hkb0, _⟩ := Rowz.at' HR0.out (by omega) (0, 0, 0, 0, 0, 0, 0, 0) i.toNat hkn
          cases hA0
          obtain ⟨⟨p0, p1, p2, p3, p4, p5, p6, p7⟩, hpp⟩ : ∃ x, l.getD i.toNat (0, 0, 0, 0, 0, 0, 0, 0) = x := ⟨_, rfl⟩
          rw [hpp] at hcs
          obtain ⟨rfl, _⟩ := hcs
          clear hpp
          have ck0 := hcell 0 _ rfl
          have ck1 := hcell 1 _ rfl
          have ck2 := hcell 2 _ rfl
          have ck3 := hcell 3 _ rfl
          have ck4 := hcell 4 _ rfl
          have ck5 := hcell 5 _ rfl
          have ck6 := hcell 6 _ rfl
          have ck7 := hcell 7 _ rfl
          rw [Nat.add_zero] at ck0
          rw [← Nat.add_assoc] at ck1
          rw [← Nat.add_assoc] at ck2
          rw [← Nat.add_assoc] at ck3
          rw [← Nat.add_assoc] at ck4
          rw [← Nat.add_assoc] at ck5
          rw [← Nat.add_assoc] at ck6
          rw [← Nat.add_assoc] at ck7
          have HKB := Aside0.mk hkb0
          have HRL := Aside0.mk (show r9 < wq.heap.size from blk_lt HR.out)
          obtain ⟨sa, fa, hd2, hr2, hdoes⟩ := does_q n m seen g q f p0 p1 p2 p3 p4 p5 p6 p7 HD.out HM.out HT.out
          have HD2 := Aside0.mk hd2
          have HT2 := Aside0.mk hr2
          have HDOES := Aside0.mk hdoes
          clear hcell hkn hkb hkb0 hd2 hr2 hdoes h60
          go_upto_region 8 with fail
          refine start_ (n := 13) (S := fun w' => IsBlk w' r9 (rv n m seen (hf f)) 47 ∧ w'.cell? ⟨kb, ko + i.toNat * 8, none⟩ = some (.int .i64 p0) ∧ w'.cell? ⟨kb, ko + i.toNat * 8 + 1, none⟩ = some (.int .i64 p1) ∧ w'.cell? ⟨kb, ko + i.toNat * 8 + 2, none⟩ = some (.int .i64 p2) ∧ w'.cell? ⟨kb, ko + i.toNat * 8 + 3, none⟩ = some (.int .i64 p3) ∧ w'.cell? ⟨kb, ko + i.toNat * 8 + 4, none⟩ = some (.int .i64 p4) ∧ w'.cell? ⟨kb, ko + i.toNat * 8 + 5, none⟩ = some (.int .i64 p5) ∧ w'.cell? ⟨kb, ko + i.toNat * 8 + 6, none⟩ = some (.int .i64 p6) ∧ w'.cell? ⟨kb, ko + i.toNat * 8 + 7, none⟩ = some (.int .i64 p7)) (ds := [11]) #[false, false, false, false, false, false, false, false, false, false, false, false, false] (by kernel_rfl) rfl rfl ⟨HR.out.drew, ck0, ck1, ck2, ck3, ck4, ck5, ck6, ck7⟩ (fun hHeld => ?_)
          refine pure_ (i := 0) (N := some 38) (v := ?_) (a' := ?_) #[true, false, false, false, false, false, false, false, false, false, false, false, false] rfl rfl (by kernel_rfl) (fun _ _ _ h => h) (Or.inl ⟨by rfl, ?_⟩) ?_ ?_
          rotate_left
          · intro w'
            go_simp
            with_reducible rfl
          rotate_left
          · simp only [Act.put, List.setIfInBounds_toArray, List.set_cons_zero, List.set_cons_succ, i64_w, i32_w]
            rfl
          refine pure_ (i := 2) (N := some 40) (v := ?_) (a' := ?_) #[true, false, true, false, false, false, false, false, false, false, false, false, false] rfl rfl (by kernel_rfl) (fun _ _ _ h => h) (Or.inl ⟨by rfl, ?_⟩) ?_ ?_
          rotate_left
          · intro w'
            go_simp
            with_reducible rfl
          rotate_left
          · simp only [Act.put, List.setIfInBounds_toArray, List.set_cons_zero, List.set_cons_succ, i64_w, i32_w]
            rfl
          refine pure_ (i := 3) (N := some 41) (v := ?_) (a' := ?_) #[true, false, true, true, false, false, false, false, false, false, false, false, false] rfl rfl (by kernel_rfl) (fun _ _ _ h => h) (Or.inl ⟨by rfl, ?_⟩) ?_ ?_
          rotate_left
          · intro w'
            go_simp
            with_reducible rfl
          rotate_left
          · simp only [Act.put, List.setIfInBounds_toArray, List.set_cons_zero, List.set_cons_succ, i64_w, i32_w]
            rfl
          refine pure_ (i := 4) (N := some 42) (v := ?_) (a' := ?_) #[true, false, true, true, true, false, false, false, false, false, false, false, false] rfl rfl (by kernel_rfl) (fun _ _ _ h => h) (Or.inl ⟨by rfl, ?_⟩) ?_ ?_
          rotate_left
          · intro w'
            go_simp
            with_reducible rfl
          rotate_left
          · simp only [Act.put, List.setIfInBounds_toArray, List.set_cons_zero, List.set_cons_succ, i64_w, i32_w]
            rfl
          refine take_ (i := 1) (N := some 39) (v := ?_) (a' := ?_) #[true, true, true, true, true, false, false, false, false, false, false, false, false] rfl rfl (by kernel_rfl) (fun _ _ _ h => h) (Or.inl ⟨by rfl, ?_⟩) hHeld ?_ ?_
          rotate_left
          · rintro w' ⟨s0, s1, s2, s3, s4, s5, s6, s7, s8⟩
            (refine execW (x := Operand.tmp 5) r9 (rv n m seen (hf f)) ?_ ?_ ?_ ?_; rfl; rfl; assumption; exact rv_size _ _ _ _)
          rotate_left
          · simp only [Act.put, List.setIfInBounds_toArray, List.set_cons_zero, List.set_cons_succ, i64_w, i32_w]
            rfl
          refine take_ (i := 5) (N := some 43) (v := ?_) (a' := ?_) #[true, true, true, true, true, true, false, false, false, false, false, false, false] rfl rfl (by kernel_rfl) (fun _ _ _ h => h) (Or.inl ⟨by rfl, ?_⟩) hHeld ?_ ?_
          rotate_left
          · rintro w' ⟨s0, s1, s2, s3, s4, s5, s6, s7, s8⟩
            go_simp
            with_reducible rfl
          rotate_left
          · simp only [Act.put, List.setIfInBounds_toArray, List.set_cons_zero, List.set_cons_succ, i64_w, i32_w]
            rfl
          refine join_ (σ := Nat) 2 #[true, true, true, true, true, true, true, true, true, true, true, false, false] (fun s => [(44, (.tuple #[.agg (rv n m sa (hf fa)), .bool true])), (8, .pointer (some ⟨s, 0, none⟩)), (37, (.tuple #[.agg (rv n m sa (hf fa)), .bool true])), (45, .agg (rv n m sa (hf fa))), (46, .bool true)]) (fun s w' => (IsBlk w' r9 (rv n m seen (hf f)) 47 ∧ w'.cell? ⟨kb, ko + i.toNat * 8, none⟩ = some (.int .i64 p0) ∧ w'.cell? ⟨kb, ko + i.toNat * 8 + 1, none⟩ = some (.int .i64 p1) ∧ w'.cell? ⟨kb, ko + i.toNat * 8 + 2, none⟩ = some (.int .i64 p2) ∧ w'.cell? ⟨kb, ko + i.toNat * 8 + 3, none⟩ = some (.int .i64 p3) ∧ w'.cell? ⟨kb, ko + i.toNat * 8 + 4, none⟩ = some (.int .i64 p4) ∧ w'.cell? ⟨kb, ko + i.toNat * 8 + 5, none⟩ = some (.int .i64 p5) ∧ w'.cell? ⟨kb, ko + i.toNat * 8 + 6, none⟩ = some (.int .i64 p6) ∧ w'.cell? ⟨kb, ko + i.toNat * 8 + 7, none⟩ = some (.int .i64 p7)) ∧ IsBlk w' s Try.zeroCells47 47 ∧ r9 < s ∧ IsBlk w' r9 (rv n m seen (hf f)) 47 ∧ Wk w' g q sa fa ∧ Below w.heap.size w w') ?_ ?_
          rotate_left
          · intro hCont
            refine two_ (i := 6) (j := 10) (Ni := some 44) (Nj := some 8) #[true, true, true, true, true, true, true, false, false, false, false, false, false] #[true, true, true, true, true, true, false, false, false, false, true, false, false] rfl rfl rfl rfl (by kernel_rfl) (by simp) (by simp) (fun K hK => ?_) (fun K hK => ?_)
            · skip
              refine goes_ Try.func17 (by kernel_rfl) rfl #[.pointer (some ⟨g, 0, none⟩), .agg (rv n m seen (hf f)), .agg #[.int .i64 p0, .int .i64 p1, .int .i64 p2, .int .i64 p3, .int .i64 p4, .int .i64 p5, .int .i64 p6, .int .i64 p7]] (by rfl) rfl rfl (by simp only [List.map_toArray, List.map_cons, List.map_nil]; rfl) ?_
              with_reducible refine (HDOES.out _ (by repeat (with_reducible first | exact HK.out | apply Wk.alloc | apply Wk.drew))).mono ?_
              rintro e y6 ⟨rfl, hk, hbt⟩
              have hbt' := Aside0.mk hbt
              have HKn : Aside0 (Wk y6 g q sa fa) := ⟨hk⟩
              have HRn : Aside0 (IsBlk y6 r9 (rv n m seen (hf f)) 47) := ⟨IsBlk.but (by repeat (with_reducible first | exact HR.out | apply IsBlk.alloc | apply IsBlk.drew)) hbt (by have := HGR.out; omega) (by have := HGR.out; omega)⟩
              have HBn : Aside0 (Below w.heap.size w y6) := ⟨But2.after (by repeat (first | (with_reducible first | exact HB.out | apply below_alloc | apply pw_below_drewN | apply below_drew1) | refine below_set ?_ (by omega))) hbt (by have := HGR.out; omega) (by have := HGR.out; omega)⟩
              clear HK HR HB hk hbt
              have HK := HKn
              have HR := HRn
              have HB := HBn
              clear HKn HRn HBn
              refine ⟨_, rfl, ?_⟩
              refine hK.out _ _ ⟨IsBlk.but hHeld.1 hbt'.out (by have := HGR.out; omega) (by have := HGR.out; omega), cell_but hbt'.out (by have := HKB.out; have := HGR.out; omega) (by have := HKB.out; have := HGR.out; omega) hHeld.2.1, cell_but hbt'.out (by have := HKB.out; have := HGR.out; omega) (by have := HKB.out; have := HGR.out; omega) hHeld.2.2.1, cell_but hbt'.out (by have := HKB.out; have := HGR.out; omega) (by have := HKB.out; have := HGR.out; omega) hHeld.2.2.2.1, cell_but hbt'.out (by have := HKB.out; have := HGR.out; omega) (by have := HKB.out; have := HGR.out; omega) hHeld.2.2.2.2.1, cell_but hbt'.out (by have := HKB.out; have := HGR.out; omega) (by have := HKB.out; have := HGR.out; omega) hHeld.2.2.2.2.2.1, cell_but hbt'.out (by have := HKB.out; have := HGR.out; omega) (by have := HKB.out; have := HGR.out; omega) hHeld.2.2.2.2.2.2.1, cell_but hbt'.out (by have := HKB.out; have := HGR.out; omega) (by have := HKB.out; have := HGR.out; omega) hHeld.2.2.2.2.2.2.2.1, cell_but hbt'.out (by have := HKB.out; have := HGR.out; omega) (by have := HKB.out; have := HGR.out; omega) hHeld.2.2.2.2.2.2.2.2⟩ (fun hHeld => ?_)
              clear hK K
              refine norm_ (a' := ?_) ?_ ?_
              rotate_left
              · show Act.put _ (some 44) _ = _
                simp only [Act.put, List.setIfInBounds_toArray, List.set_cons_zero, List.set_cons_succ, i64_w, i32_w]
                rfl
              refine pure_ (i := 7) (N := some 37) (v := ?_) (a' := ?_) #[true, true, true, true, true, true, true, true, false, false, false, false, false] rfl rfl (by kernel_rfl) (fun _ _ _ h => h) (Or.inl ⟨by rfl, ?_⟩) ?_ ?_
              rotate_left
              · intro w'
                go_simp
                with_reducible rfl
              rotate_left
              · simp only [Act.put, List.setIfInBounds_toArray, List.set_cons_zero, List.set_cons_succ, i64_w, i32_w]
                rfl
              refine pure_ (i := 8) (N := some 45) (v := ?_) (a' := ?_) #[true, true, true, true, true, true, true, true, true, false, false, false, false] rfl rfl (by kernel_rfl) (fun _ _ _ h => h) (Or.inl ⟨by rfl, ?_⟩) ?_ ?_
              rotate_left
              · intro w'
                go_simp
                with_reducible rfl
              rotate_left
              · simp only [Act.put, List.setIfInBounds_toArray, List.set_cons_zero, List.set_cons_succ, i64_w, i32_w]
                rfl
              refine pure_ (i := 9) (N := some 46) (v := ?_) (a' := ?_) #[true, true, true, true, true, true, true, true, true, true, false, false, false] rfl rfl (by kernel_rfl) (fun _ _ _ h => h) (Or.inl ⟨by rfl, ?_⟩) ?_ ?_
              rotate_left
              · intro w'
                go_simp
                with_reducible rfl
              rotate_left
              · simp only [Act.put, List.setIfInBounds_toArray, List.set_cons_zero, List.set_cons_succ, i64_w, i32_w]
                rfl
              refine one_ (i := 10) (N := some 8) #[true, true, true, true, true, true, true, true, true, true, true, false, false] rfl rfl (by kernel_rfl) (by simp) (fun K hK => ?_)
              refine value_ (w1 := ?_) (v := ?_) (by rfl) rfl ?_ ?_
              rotate_left 2
              · go_simp
                constructor
                · rfl
                · rfl
              have HN := Aside0.mk (show IsBlk (y6.alloc (.cells Try.zeroCells47 47)) y6.heap.size Try.zeroCells47 47 from IsBlk.new _ _ rfl)
              have HLN := Aside0.mk (show r9 < y6.heap.size from blk_lt (show IsBlk y6 r9 (rv n m seen (hf f)) 47 from by repeat (with_reducible first | exact HR.out | apply IsBlk.alloc | apply IsBlk.drew)))
              refine hK.out _ _ ⟨IsBlk.alloc hHeld.1 _, cell_keep (below_alloc (Below.refl _ _) _) hHeld.2.1, cell_keep (below_alloc (Below.refl _ _) _) hHeld.2.2.1, cell_keep (below_alloc (Below.refl _ _) _) hHeld.2.2.2.1, cell_keep (below_alloc (Below.refl _ _) _) hHeld.2.2.2.2.1, cell_keep (below_alloc (Below.refl _ _) _) hHeld.2.2.2.2.2.1, cell_keep (below_alloc (Below.refl _ _) _) hHeld.2.2.2.2.2.2.1, cell_keep (below_alloc (Below.refl _ _) _) hHeld.2.2.2.2.2.2.2.1, cell_keep (below_alloc (Below.refl _ _) _) hHeld.2.2.2.2.2.2.2.2⟩ (fun hHeld => ?_)
              clear hK K
              refine norm_ (a' := ?_) ?_ ?_
              rotate_left
              · show Act.put _ (some 8) _ = _
                simp only [Act.put, List.setIfInBounds_toArray, List.set_cons_zero, List.set_cons_succ, i64_w, i32_w]
                rfl
              exact norm_ (by first | (simp only [putAll, Act.put, List.setIfInBounds_toArray, List.set_cons_zero, List.set_cons_succ]; done) | (simp only [putAll, Act.put, List.setIfInBounds_toArray, List.set_cons_zero, List.set_cons_succ]; rfl)) (hCont _ _ ⟨hHeld, by repeat (with_reducible first | exact HN.out | apply IsBlk.alloc | apply IsBlk.drew), HLN.out, by repeat (with_reducible first | exact HR.out | apply IsBlk.alloc | apply IsBlk.drew), by repeat (with_reducible first | exact HK.out | apply Wk.alloc | apply Wk.drew), by repeat (with_reducible first | exact HB.out | apply But2.alloc | apply But2.drew | apply below_alloc | apply below_drew1)⟩)
            · skip
              refine value_ (w1 := ?_) (v := ?_) (by rfl) rfl ?_ ?_
              rotate_left 2
              · go_simp
                constructor
                · rfl
                · rfl
              have HN := Aside0.mk (show IsBlk (wq.alloc (.cells Try.zeroCells47 47)) wq.heap.size Try.zeroCells47 47 from IsBlk.new _ _ rfl)
              have HLN := Aside0.mk (show r9 < wq.heap.size from blk_lt (show IsBlk wq r9 (rv n m seen (hf f)) 47 from by repeat (with_reducible first | exact HR.out | apply IsBlk.alloc | apply IsBlk.drew)))
              refine hK.out _ _ ⟨IsBlk.alloc hHeld.1 _, cell_keep (below_alloc (Below.refl _ _) _) hHeld.2.1, cell_keep (below_alloc (Below.refl _ _) _) hHeld.2.2.1, cell_keep (below_alloc (Below.refl _ _) _) hHeld.2.2.2.1, cell_keep (below_alloc (Below.refl _ _) _) hHeld.2.2.2.2.1, cell_keep (below_alloc (Below.refl _ _) _) hHeld.2.2.2.2.2.1, cell_keep (below_alloc (Below.refl _ _) _) hHeld.2.2.2.2.2.2.1, cell_keep (below_alloc (Below.refl _ _) _) hHeld.2.2.2.2.2.2.2.1, cell_keep (below_alloc (Below.refl _ _) _) hHeld.2.2.2.2.2.2.2.2⟩ (fun hHeld => ?_)
              clear hK K
              refine norm_ (a' := ?_) ?_ ?_
              rotate_left
              · show Act.put _ (some 8) _ = _
                simp only [Act.put, List.setIfInBounds_toArray, List.set_cons_zero, List.set_cons_succ, i64_w, i32_w]
                rfl
              refine one_ (i := 6) (N := some 44) #[true, true, true, true, true, true, true, false, false, false, true, false, false] rfl rfl (by kernel_rfl) (by simp) (fun K hK => ?_)
              refine goes_ Try.func17 (by kernel_rfl) rfl #[.pointer (some ⟨g, 0, none⟩), .agg (rv n m seen (hf f)), .agg #[.int .i64 p0, .int .i64 p1, .int .i64 p2, .int .i64 p3, .int .i64 p4, .int .i64 p5, .int .i64 p6, .int .i64 p7]] (by rfl) rfl rfl (by simp only [List.map_toArray, List.map_cons, List.map_nil]; rfl) ?_
              with_reducible refine (HDOES.out _ (by repeat (with_reducible first | exact HK.out | apply Wk.alloc | apply Wk.drew))).mono ?_
              rintro e y6 ⟨rfl, hk, hbt⟩
              have hbt' := Aside0.mk hbt
              have HKn : Aside0 (Wk y6 g q sa fa) := ⟨hk⟩
              have HRn : Aside0 (IsBlk y6 r9 (rv n m seen (hf f)) 47) := ⟨IsBlk.but (by repeat (with_reducible first | exact HR.out | apply IsBlk.alloc | apply IsBlk.drew)) hbt (by have := HGR.out; omega) (by have := HGR.out; omega)⟩
              have HBn : Aside0 (Below w.heap.size w y6) := ⟨But2.after (by repeat (first | (with_reducible first | exact HB.out | apply below_alloc | apply pw_below_drewN | apply below_drew1) | refine below_set ?_ (by omega))) hbt (by have := HGR.out; omega) (by have := HGR.out; omega)⟩
              clear HK HR HB hk hbt
              have HK := HKn
              have HR := HRn
              have HB := HBn
              clear HKn HRn HBn
              have HNn : Aside0 (IsBlk y6 wq.heap.size Try.zeroCells47 47) := ⟨IsBlk.but (by repeat (with_reducible first | exact HN.out | apply IsBlk.alloc | apply IsBlk.drew)) hbt'.out (by have := HGR.out; have := HRL.out; omega) (by have := HGR.out; have := HRL.out; omega)⟩
              clear HN
              have HN := HNn
              clear HNn
              refine ⟨_, rfl, ?_⟩
              refine hK.out _ _ ⟨IsBlk.but hHeld.1 hbt'.out (by have := HGR.out; omega) (by have := HGR.out; omega), cell_but hbt'.out (by have := HKB.out; have := HGR.out; omega) (by have := HKB.out; have := HGR.out; omega) hHeld.2.1, cell_but hbt'.out (by have := HKB.out; have := HGR.out; omega) (by have := HKB.out; have := HGR.out; omega) hHeld.2.2.1, cell_but hbt'.out (by have := HKB.out; have := HGR.out; omega) (by have := HKB.out; have := HGR.out; omega) hHeld.2.2.2.1, cell_but hbt'.out (by have := HKB.out; have := HGR.out; omega) (by have := HKB.out; have := HGR.out; omega) hHeld.2.2.2.2.1, cell_but hbt'.out (by have := HKB.out; have := HGR.out; omega) (by have := HKB.out; have := HGR.out; omega) hHeld.2.2.2.2.2.1, cell_but hbt'.out (by have := HKB.out; have := HGR.out; omega) (by have := HKB.out; have := HGR.out; omega) hHeld.2.2.2.2.2.2.1, cell_but hbt'.out (by have := HKB.out; have := HGR.out; omega) (by have := HKB.out; have := HGR.out; omega) hHeld.2.2.2.2.2.2.2.1, cell_but hbt'.out (by have := HKB.out; have := HGR.out; omega) (by have := HKB.out; have := HGR.out; omega) hHeld.2.2.2.2.2.2.2.2⟩ (fun hHeld => ?_)
              clear hK K
              refine norm_ (a' := ?_) ?_ ?_
              rotate_left
              · show Act.put _ (some 44) _ = _
                simp only [Act.put, List.setIfInBounds_toArray, List.set_cons_zero, List.set_cons_succ, i64_w, i32_w]
                rfl
              refine pure_ (i := 7) (N := some 37) (v := ?_) (a' := ?_) #[true, true, true, true, true, true, true, true, false, false, true, false, false] rfl rfl (by kernel_rfl) (fun _ _ _ h => h) (Or.inl ⟨by rfl, ?_⟩) ?_ ?_
              rotate_left
              · intro w'
                go_simp
                with_reducible rfl
              rotate_left
              · simp only [Act.put, List.setIfInBounds_toArray, List.set_cons_zero, List.set_cons_succ, i64_w, i32_w]
                rfl
              refine pure_ (i := 8) (N := some 45) (v := ?_) (a' := ?_) #[true, true, true, true, true, true, true, true, true, false, true, false, false] rfl rfl (by kernel_rfl) (fun _ _ _ h => h) (Or.inl ⟨by rfl, ?_⟩) ?_ ?_
              rotate_left
              · intro w'
                go_simp
                with_reducible rfl
              rotate_left
              · simp only [Act.put, List.setIfInBounds_toArray, List.set_cons_zero, List.set_cons_succ, i64_w, i32_w]
                rfl
              refine pure_ (i := 9) (N := some 46) (v := ?_) (a' := ?_) #[true, true, true, true, true, true, true, true, true, true, true, false, false] rfl rfl (by kernel_rfl) (fun _ _ _ h => h) (Or.inl ⟨by rfl, ?_⟩) ?_ ?_
              rotate_left
              · intro w'
                go_simp
                with_reducible rfl
              rotate_left
              · simp only [Act.put, List.setIfInBounds_toArray, List.set_cons_zero, List.set_cons_succ, i64_w, i32_w]
                rfl
              exact norm_ (by first | (simp only [putAll, Act.put, List.setIfInBounds_toArray, List.set_cons_zero, List.set_cons_succ]; done) | (simp only [putAll, Act.put, List.setIfInBounds_toArray, List.set_cons_zero, List.set_cons_succ]; rfl)) (hCont _ _ ⟨hHeld, by repeat (with_reducible first | exact HN.out | apply IsBlk.alloc | apply IsBlk.drew), HLN.out, by repeat (with_reducible first | exact HR.out | apply IsBlk.alloc | apply IsBlk.drew), by repeat (with_reducible first | exact HK.out | apply Wk.alloc | apply Wk.drew), by repeat (with_reducible first | exact HB.out | apply But2.alloc | apply But2.drew | apply below_alloc | apply below_drew1)⟩)
          rintro s y ⟨hHeld, hN, hLN, hHR, hHK, hHB⟩
          clear HR
          clear HK
          clear HB
          have HR := Aside0.mk hHR
          have HK := Aside0.mk hHK
          have HB := Aside0.mk hHB
          have HN := Aside0.mk hN
          have HLN := Aside0.mk hLN
          clear hN hLN hHR hHK hHB
          refine norm_ (a' := ?_) ?_ ?_
          rotate_left
          · simp only [putAll, Act.put, List.setIfInBounds_toArray, List.set_cons_zero, List.set_cons_succ]
            rfl
          obtain ⟨y8, hrun8, hb8, hg8⟩ := run_storeW s Try.zeroCells47 (rv n m sa (hf fa)) y HN.out z67_size (rv_size _ _ _ _) (rv_one _ _ _ _)
          refine lastStore_ (i := 11) (w1 := y8) #[true, true, true, true, true, true, true, true, true, true, true, true, false] rfl rfl (by kernel_rfl) (by simp) (by rfl) ?_ ?_
          · refine execSW (x := Operand.tmp 8) (y := Operand.tmp 45) s (rv n m sa (hf fa)) ?_ ?_ ?_ hrun8
            · rfl
            · rfl
            · rfl
          refine pure_ (i := 12) (N := some 9) (v := ?_) (a' := ?_) #[true, true, true, true, true, true, true, true, true, true, true, true, true] rfl rfl (by kernel_rfl) (fun _ _ _ h => h) (Or.inl ⟨by rfl, ?_⟩) ?_ ?_
          rotate_left
          · intro w'
            go_simp
            with_reducible rfl
          rotate_left
          · simp only [Act.put, List.setIfInBounds_toArray, List.set_cons_zero, List.set_cons_succ, i64_w, i32_w]
            rfl
          refine done_ (by kernel_rfl) ?_

          have HNn := Aside0.mk hb8
          have HRn : Aside0 (IsBlk y8 r9 (rv n m seen (hf f)) 47) := ⟨IsBlk.grownBy HR.out hg8 (by have := HLN.out; omega)⟩
          have HKn : Aside0 (Wk y8 g q sa fa) := ⟨wk_new HK.out hg8 (by have := HLN.out; have := HGR.out; omega) (by have := HLN.out; have := HGR.out; omega)⟩
          have HBn : Aside0 (Below w.heap.size w y8) := ⟨below_of_new HB.out hg8 (by have := HLN.out; have := HGR.out; omega) HB.out.size⟩
          clear HR HK HB HN hg8 hb8 hrun8 ck0 ck1 ck2 ck3 ck4 ck5 ck6 ck7 hi hi0
          have HR := HRn
          have HK := HKn
          have HB := HBn
          have HN := HNn
          clear HRn HKn HBn HNn
          go_wp2_with (first | ((with_reducible refine wpList_loadW s (rv n m sa (hf fa)) ?_ ?_ (rv_size _ _ _ _) ?_); rfl; exact (by repeat (with_reducible first | exact HN.out | apply IsBlk.alloc | apply IsBlk.drew))) | ((with_reducible refine wpList_storeW r9 (rv n m seen (hf f)) (rv n m sa (hf fa)) ?_ ?_ ?_ (rv_size _ _ _ _) (rv_size _ _ _ _) (rv_one _ _ _ _) ?_); rfl; rfl; exact HR.out; intro w9 hb9 hg9))
          have HRn := Aside0.mk hb9
          have HKn : Aside0 (Wk w9 g q sa fa) := ⟨wk_new HK.out hg9 (by have := HGR.out; omega) (by have := HGR.out; omega)⟩
          have HBn : Aside0 (Below w.heap.size w w9) := ⟨below_of_new HB.out hg9 (by have := HGR.out; omega) HB.out.size⟩
          clear HR HK HB HN hg9 hb9
          have HR := HRn
          have HK := HKn
          have HB := HBn
          clear HRn HKn HBn
          have hw1 : wrap64 (i + 1) = i + 1 := wrap64_eq (by have := HI.out; omega) (by have := H60.out; omega)
          skip
          go_roundw
          case rel => exact ⟨i + 1, sa, fa, by first | rfl | rw [hw1], ⟨by have := HI.out; have := H60.out; omega⟩, HR, HK, HD2, HT2, HB⟩
          case measure => have := H60.out; have := HI.out; simp [intOf, hw1]; omega
        · have t2 : decide (i < 40) = false := decide_eq_false h60
          go_wp2_with fail
          go_meet
          exact ⟨seen, f, HK, HD, HT, HB⟩
      · have t1 : decide (i < (l.length : Int)) = false := decide_eq_false hi
        go_wp2_with fail
        go_meet
        exact ⟨seen, f, HK, HD, HT, HB⟩
  case rest =>
    clear HB HK HR
    obtain ⟨seen, f, HK, HD0, HT, HB⟩ := hcut
    obtain ⟨wq, hwq⟩ : ∃ x, x = wc := ⟨_, rfl⟩
    subst hwq
    have HD : Aside0 (Dom 0 1 f) := ⟨by have := HD0.out; rw [HNM.out.1, HNM.out.2] at this; exact this⟩
    have hst := stops HD.out HT.out
    obtain ⟨cc, hcc⟩ : ∃ c : Int, (cntW f 0 : Int) = c := ⟨_, rfl⟩
    have hcc0 : 0 ≤ cc := by omega
    have hcc1 : cc ≤ 16 := by omega
    have HFW : Aside0 ((cntFW f (ownL f) : Int) = 16 - cc) := ⟨by omega⟩
    have HCC := Aside0.mk hcc
    have HAL : Aside0 ((cntW (gI f (ownL f)) 0 : Int) = 16) := ⟨by rw [all_stop HD.out HT.out]; rfl⟩
    have HLOW : Aside0 (Low (gI f (ownL f)) 0) := ⟨fun k s _ hs => fallen HD.out HT.out k s hs⟩
    have HDF : Aside0 (Dom 0 1 (gI f (ownL f))) := ⟨Dom.fall HD.out _⟩
    clear hst hcc HD0
    go_wp2_with fail
    refine (count_w g q seen f 0 _ HK.out).mono ?_
    rw [HCC.out]
    rintro e w5 ⟨rfl, hb1⟩
    have HKn := Aside0.mk (Wk.below HK.out hb1)
    clear HK
    have HK := HKn
    clear HKn
    have n0 := Aside0.mk (below_step (by repeat (first | (with_reducible first | exact HB.out | apply below_alloc | apply pw_below_drewN | apply below_drew1) | refine below_set ?_ (by omega))) hb1)
    clear HB hb1
    have HB := n0
    clear n0
    go_wp2_with fail
    refine (fall_w g q seen f _ HK.out).mono ?_
    rw [HFW.out]
    rintro e w6 ⟨rfl, hk, hbt⟩
    have HKn := Aside0.mk hk
    have HBn : Aside0 (Below w.heap.size w w6) := ⟨But2.after HB.out hbt (by have := HGR.out; omega) (by have := HGR.out; omega)⟩
    clear HK HB hk hbt
    have HK := HKn
    have HB := HBn
    clear HKn HBn
    generalize gI f (ownL f) = fb at *
    go_wp2_with fail
    refine (count_w g q seen fb 0 _ HK.out).mono ?_
    rw [HAL.out]
    rintro e w7 ⟨rfl, hb1⟩
    have HKn := Aside0.mk (Wk.below HK.out hb1)
    clear HK
    have HK := HKn
    clear HKn
    have n0 := Aside0.mk (below_step (by repeat (first | (with_reducible first | exact HB.out | apply below_alloc | apply pw_below_drewN | apply below_drew1) | refine below_set ?_ (by omega))) hb1)
    clear HB hb1
    have HB := n0
    clear n0
    clear HFW HCC HAL HT HD hcc0 hcc1
    go_wp2_with fail
    go_loopw [12] (fun v12 wr => ∃ (i : Int) (f : Int → Option Sl), v12 = .int .i64 i ∧ Aside0 (0 ≤ i ∧ i ≤ 16) ∧ Aside0 (Wk wr g q seen f) ∧ Aside0 (Dom 0 1 f) ∧ Aside0 (Low f i) ∧ Aside0 (Below w.heap.size w wr)) (fun v12 _ => (40 - intOf v12).toNat)
    case atStart => exact ⟨0, fb, rfl, ⟨by omega⟩, HK, HDF, HLOW, HB⟩
    case round =>
      clear HB HK HDF HLOW
      have HGR' : Aside0 (w.heap.size ≤ g ∧ w.heap.size ≤ q) := ⟨by have := HGR.out; omega⟩
      clear HGR
      have HGR := HGR'
      clear HGR'
      obtain ⟨i, f, rfl, HI, HK, HD, HLOW, HB⟩ := hrel
      obtain ⟨wp, hwp⟩ : ∃ x, x = wr := ⟨_, rfl⟩
      subst hwp
      by_cases hi : i < 16
      · have t1 : decide (i < 16) = true := decide_eq_true hi
        have HI16 := Aside0.mk hi
        obtain ⟨⟨a, b, c, d⟩, hf0⟩ := all_own HD.out HI.out.1 hi
        obtain ⟨ha, hb, hc, hrt⟩ := HLOW.out i _ (Int.le_refl _) hf0
        dsimp only at ha hb hc
        subst ha hb
        have HF := Aside0.mk hf0
        have HRT := Aside0.mk hrt
        clear hi hf0 hrt
        by_cases hp : 0 < c
        · have t2 : decide (0 < c) = true := decide_eq_true hp
          have t3 : (c == 0) = false := by simp; omega
          have ha1 := app_at (fun s => goes s) HF.out
          rw [go_first HRT.out hp] at ha1
          obtain ⟨f1, hf1⟩ : ∃ x, upd f i ⟨1, c, c, d⟩ = x := ⟨_, rfl⟩
          dsimp only at ha1
          rw [hf1] at ha1
          have h1i : f1 i = some ⟨1, c, c, d⟩ := by rw [← hf1]; exact upd_get _ _ _
          have hl1 : Low f1 (i + 1) := by rw [← hf1]; exact HLOW.out.upd _
          have hd1 : Dom 0 1 f1 := by rw [← hf1]; exact HD.out.upd _ HF.out
          have ha2 := app_at (fun s => goes s) h1i
          rw [go_second HRT.out hp] at ha2
          obtain ⟨f2, hf2⟩ : ∃ x, upd f1 i ⟨2, c, c, d⟩ = x := ⟨_, rfl⟩
          dsimp only at ha2
          rw [hf2] at ha2
          have HF2 : Aside0 (f2 i = some ⟨2, c, c, d⟩) := ⟨by rw [← hf2]; exact upd_get _ _ _⟩
          have HL2 : Aside0 (Low f2 (i + 1)) := ⟨by rw [← hf2]; exact hl1.upd2 _⟩
          have HD2 : Aside0 (Dom 0 1 f2) := ⟨by rw [← hf2]; exact hd1.upd _ h1i⟩
          have HA1 := Aside0.mk ha1
          have HA2 := Aside0.mk ha2
          clear ha1 ha2 hf1 hf2 h1i hl1 hd1 hc
          go_wp2_with fail
          refine (slot_l g q seen f i 0 0 c d true _ HK.out (some_slot f i _ HF.out) (by rw [HF.out]; rfl)).mono ?_
          rintro e w1 ⟨rfl, hb1⟩
          have HKn := Aside0.mk (Wk.below HK.out hb1)
          have HGRn := Aside0.mk (show g < w1.heap.size ∧ q < w1.heap.size from ⟨blk_lt HKn.out.blk, HKn.out.map.lt⟩)
          clear HK
          have HK := HKn
          clear HKn
          have n0 := Aside0.mk (below_step (by repeat (first | (with_reducible first | exact HB.out | apply below_alloc | apply pw_below_drewN | apply below_drew1) | refine below_set ?_ (by omega))) hb1)
          clear HB hb1
          have HB := n0
          clear n0
          go_wp2_with fail
          refine (go_w g q seen f i _ (HK.out.alloc _)).mono ?_
          rw [HA1.out]
          rintro e w2 ⟨rfl, hk, hg⟩
          dsimp only at hk
          have S : IsBlk w2 w1.heap.size #[.int .i64 0, .int .i64 0, .int .i64 c, .int .i64 d] 35 := IsBlk.grownBy (IsBlk.new _ _ rfl) hg (by have := HGRn.out; omega)
          have HBn : Aside0 (Below w.heap.size w w2) := ⟨But2.after (below_alloc HB.out _) (But2.of_two hg g) HGR.out.1 HGR.out.2⟩
          have HKn := Aside0.mk hk
          clear HB HK hk hg
          have HK := HKn
          have HB := HBn
          clear HKn HBn
          go_wp2_with fail
          refine (go_w g q seen f1 i _ HK.out).mono ?_
          rw [HA2.out]
          rintro e w3 ⟨rfl, hk, hg⟩
          dsimp only at hk
          have S' : IsBlk w3 w1.heap.size #[.int .i64 0, .int .i64 0, .int .i64 c, .int .i64 d] 35 := IsBlk.grownBy S hg (by have := HGRn.out; omega)
          have HBn : Aside0 (Below w.heap.size w w3) := ⟨But2.after HB.out (But2.of_two hg g) HGR.out.1 HGR.out.2⟩
          have HKn := Aside0.mk hk
          clear HB HK hk hg S
          have HK := HKn
          have HB := HBn
          clear HKn HBn
          go_wp2_with fail
          refine (slot_l g q seen f2 i 2 c c d true _ HK.out (some_slot f2 i _ HF2.out) (by rw [HF2.out]; rfl)).mono ?_
          rintro e w4 ⟨rfl, hb1⟩
          have S := IsBlk.below S' hb1
          have HKn := Aside0.mk (Wk.below HK.out hb1)
          clear HK S'
          have HK := HKn
          clear HKn
          have n0 := Aside0.mk (below_step (by repeat (first | (with_reducible first | exact HB.out | apply below_alloc | apply pw_below_drewN | apply below_drew1) | refine below_set ?_ (by omega))) hb1)
          clear HB hb1
          have HB := n0
          clear n0
          have S_0 := blk_cell S 0
          have S_1 := blk_cell S 1
          have S_2 := blk_cell S 2
          have S_3 := blk_cell S 3
          simp only [List.getElem?_toArray, List.getElem?_cons_zero, List.getElem?_cons_succ] at S_0 S_1 S_2 S_3
          have S_z0 := blk_frozen S 0
          have S_z1 := blk_frozen S 1
          have S_z2 := blk_frozen S 2
          have S_z3 := blk_frozen S 3
          have S_l := blk_lt S
          have HS := Aside0.mk S
          clear S
          have hw1 : wrap64 (i + 1) = i + 1 := wrap64_eq (by have := HI.out; omega) (by have := HI16.out; omega)
          go_wp2
          go_roundw
          case rel => exact ⟨i + 1, f2, by first | rfl | rw [hw1], ⟨by have := HI.out; have := HI16.out; omega⟩, ⟨HK.out.alloc _⟩, HD2, HL2, ⟨below_alloc HB.out _⟩⟩
          case measure => have := HI.out; have := HI16.out; simp [intOf, hw1]; omega
        · obtain rfl : c = 0 := by omega
          have ha1 := app_at (fun s => goes s) HF.out
          rw [go_none HRT.out] at ha1
          dsimp only at ha1
          rw [upd_same HF.out] at ha1
          obtain ⟨f1, hf1⟩ : ∃ x, f = x := ⟨_, rfl⟩
          have HA1 : Aside0 (app f i (fun s => goes s) = (f1, false)) := ⟨by rw [ha1, hf1]⟩
          obtain ⟨f2, hf2⟩ : ∃ x, f = x := ⟨_, rfl⟩
          have HA2 : Aside0 (app f1 i (fun s => goes s) = (f2, false)) := ⟨by rw [← hf1, ha1, hf2]⟩
          have HF2 : Aside0 (f2 i = some ⟨0, 0, 0, d⟩) := ⟨by rw [← hf2]; exact HF.out⟩
          have HL2 : Aside0 (Low f2 (i + 1)) := ⟨by rw [← hf2]; exact HLOW.out.next⟩
          have HD2 : Aside0 (Dom 0 1 f2) := ⟨by rw [← hf2]; exact HD.out⟩
          clear ha1 hf1 hf2 hc hp
          go_wp2_with fail
          refine (slot_l g q seen f i 0 0 0 d true _ HK.out (some_slot f i _ HF.out) (by rw [HF.out]; rfl)).mono ?_
          rintro e w1 ⟨rfl, hb1⟩
          have HKn := Aside0.mk (Wk.below HK.out hb1)
          have HGRn := Aside0.mk (show g < w1.heap.size ∧ q < w1.heap.size from ⟨blk_lt HKn.out.blk, HKn.out.map.lt⟩)
          clear HK
          have HK := HKn
          clear HKn
          have n0 := Aside0.mk (below_step (by repeat (first | (with_reducible first | exact HB.out | apply below_alloc | apply pw_below_drewN | apply below_drew1) | refine below_set ?_ (by omega))) hb1)
          clear HB hb1
          have HB := n0
          clear n0
          go_wp2_with fail
          refine (go_w g q seen f i _ (HK.out.alloc _)).mono ?_
          rw [HA1.out]
          rintro e w2 ⟨rfl, hk, hg⟩
          dsimp only at hk
          have S : IsBlk w2 w1.heap.size #[.int .i64 0, .int .i64 0, .int .i64 0, .int .i64 d] 35 := IsBlk.grownBy (IsBlk.new _ _ rfl) hg (by have := HGRn.out; omega)
          have HBn : Aside0 (Below w.heap.size w w2) := ⟨But2.after (below_alloc HB.out _) (But2.of_two hg g) HGR.out.1 HGR.out.2⟩
          have HKn := Aside0.mk hk
          clear HB HK hk hg
          have HK := HKn
          have HB := HBn
          clear HKn HBn
          go_wp2_with fail
          refine (go_w g q seen f1 i _ HK.out).mono ?_
          rw [HA2.out]
          rintro e w3 ⟨rfl, hk, hg⟩
          dsimp only at hk
          have S' : IsBlk w3 w1.heap.size #[.int .i64 0, .int .i64 0, .int .i64 0, .int .i64 d] 35 := IsBlk.grownBy S hg (by have := HGRn.out; omega)
          have HBn : Aside0 (Below w.heap.size w w3) := ⟨But2.after HB.out (But2.of_two hg g) HGR.out.1 HGR.out.2⟩
          have HKn := Aside0.mk hk
          clear HB HK hk hg S
          have HK := HKn
          have HB := HBn
          clear HKn HBn
          go_wp2_with fail
          refine (slot_l g q seen f2 i 0 0 0 d true _ HK.out (some_slot f2 i _ HF2.out) (by rw [HF2.out]; rfl)).mono ?_
          rintro e w4 ⟨rfl, hb1⟩
          have S := IsBlk.below S' hb1
          have HKn := Aside0.mk (Wk.below HK.out hb1)
          clear HK S'
          have HK := HKn
          clear HKn
          have n0 := Aside0.mk (below_step (by repeat (first | (with_reducible first | exact HB.out | apply below_alloc | apply pw_below_drewN | apply below_drew1) | refine below_set ?_ (by omega))) hb1)
          clear HB hb1
          have HB := n0
          clear n0
          have S_0 := blk_cell S 0
          have S_1 := blk_cell S 1
          have S_2 := blk_cell S 2
          have S_3 := blk_cell S 3
          simp only [List.getElem?_toArray, List.getElem?_cons_zero, List.getElem?_cons_succ] at S_0 S_1 S_2 S_3
          have S_z0 := blk_frozen S 0
          have S_z1 := blk_frozen S 1
          have S_z2 := blk_frozen S 2
          have S_z3 := blk_frozen S 3
          have S_l := blk_lt S
          have HS := Aside0.mk S
          clear S
          have hw1 : wrap64 (i + 1) = i + 1 := wrap64_eq (by have := HI.out; omega) (by have := HI16.out; omega)
          go_wp2
          go_roundw
          case rel => exact ⟨i + 1, f2, by first | rfl | rw [hw1], ⟨by have := HI.out; have := HI16.out; omega⟩, ⟨HK.out.alloc _⟩, HD2, HL2, ⟨below_alloc HB.out _⟩⟩
          case measure => have := HI.out; have := HI16.out; simp [intOf, hw1]; omega
      · have t1 : decide (i < 16) = false := decide_eq_false hi
        go_wp2
        go_ret
        exact ⟨rfl, HB.out⟩
end Go.Proofs.Ytkjaeodnpgpfeaa.WalkWorkerFalls
