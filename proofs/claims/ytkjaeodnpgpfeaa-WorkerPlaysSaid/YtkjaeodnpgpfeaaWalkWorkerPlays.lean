/-
  Proved here: what pacesetterlaw16.WorkerPlays returns, whatever the input: true. No condition but how the slice reads.
-/
import Derived.Test.YtkjaeodnpgpfeaaV9
import Derived.Test.YtkjaeodnpgpfeaaO2
import Derived.Deep.RegionWith
import Derived.Deep.DeepCutAuto
namespace Go.Proofs.Ytkjaeodnpgpfeaa.WalkWorkerPlays
open Go.RowKit Go.Maps Go.Sort Go.Shelf Go.Proofs.Ytkjaeodnpgpfeaa.M Go.Proofs.Ytkjaeodnpgpfeaa.S0 Go.Proofs.Ytkjaeodnpgpfeaa.S4 Go.Proofs.Ytkjaeodnpgpfeaa.W0 Go.Proofs.YtkjaeodnpgpfeaaW.PrintWords Go.Proofs.YtkjaeodnpgpfeaaW.PrintLast Go.Proofs.YtkjaeodnpgpfeaaW.PrintMore Go.Proofs.Ytkjaeodnpgpfeaa.W1 Go.Proofs.Ytkjaeodnpgpfeaa.W2 Go.Proofs.Ytkjaeodnpgpfeaa.W3 Go.Proofs.Ytkjaeodnpgpfeaa.W4 Go.Proofs.Ytkjaeodnpgpfeaa.W5 Go.Proofs.Ytkjaeodnpgpfeaa.W8 Go.Proofs.Ytkjaeodnpgpfeaa.V0 Go.Proofs.Ytkjaeodnpgpfeaa.V1 Go.Proofs.Ytkjaeodnpgpfeaa.V2 Go.Proofs.Ytkjaeodnpgpfeaa.V3 Go.Proofs.Ytkjaeodnpgpfeaa.V4 Go.Proofs.Ytkjaeodnpgpfeaa.V5 Go.Proofs.Ytkjaeodnpgpfeaa.V6 Go.Proofs.Ytkjaeodnpgpfeaa.V7 Go.Proofs.Ytkjaeodnpgpfeaa.V8 Go.Proofs.Ytkjaeodnpgpfeaa.V9 Go.Proofs.Ytkjaeodnpgpfeaa.O2
set_option linter.unusedVariables false
set_option linter.unusedSimpArgs false
attribute [local go_sem] max2_int min2_int max_two min_two run_makeMap

theorem wpList_loadG {ops : Array Oper} {rest : List Oper} {a : Act} {Q : Exit → Act → World → Prop} {w : World} {d : Option Tmp} {x : Operand} {ty : TypeId} {ps : String} {af : Array Edge} {gd : Option (Nat × Bool)} (b : Nat) (cs : Array Value) (hw : Region.wanted ⟨d, .load 47 x, ty, ps, af, gd⟩ (yielded ops a.tmps) = true) (hx : a.eval x = .pointer (some ⟨b, 0, none⟩)) (hb : IsBlk w b cs 47) (hs : cs.size = 67)
    (hK : wpList Try.prog ops Q rest (a.put d (.agg cs)) w) : wpList Try.prog ops Q (⟨d, .load 47 x, ty, ps, af, gd⟩ :: rest) a w := by
  unfold wpList
  rw [if_pos hw]
  refine .inl (wp_load_mid 47 x rfl b 0 hx cs.toList _ (range_of hb) Try.underlying47 rfl (by rw [infoW]; simp [hs]) ?_)
  rw [Array.toArray_toList]
  exact hK
set_option maxRecDepth 100000 in
set_option maxHeartbeats 8000000 in
theorem walk_no (n m : Int) (A : Option Addr) (c0 : Nat) (l : List (Int × Int × Int × Int × Int × Int × Int × Int)) (w : World) (x1 x2 x3 x4 : Bool) (h1 : decide (m < 1) = x1) (h2 : decide (16 < m) = x2) (h3 : decide (n < 0) = x3) (h4 : decide (m ≤ n) = x4) (hx : (x1 || x2 || x3 || x4) = true) : Calls Try.prog 7 #[.int .i64 n, .int .i64 m, .slice A l.length c0] w fun e w' => e = .returned (.bool true) ∧ Below w.heap.size w w' := by
  have HX : Aside0 (∀ w, Calls Try.prog 11 #[.int .i64 n, .int .i64 m] w fun e w' => e = .returned (.tuple #[.pointer none, .int .i64 1]) ∧ Below w.heap.size w w') := ⟨fun w => new_no n m w x1 x2 x3 x4 h1 h2 h3 h4 hx⟩
  have HY : Aside0 (∀ w, Calls Try.prog 16 #[.int .i64 n, .int .i64 m] w fun e w' => e = .returned (.tuple #[.agg (rv 0 0 0 fun _ => zs), .int .i64 1]) ∧ Below w.heap.size w w') := ⟨fun w => new16_no n m w x1 x2 x3 x4 h1 h2 h3 h4 hx⟩
  clear h1 h2 h3 h4 hx
  have HB := Aside0.mk (Below.refl w.heap.size w)
  go_enter Try.func7, Try.ntmps7
  go_wp2_with fail
  refine (lives_q _).mono ?_
  rintro e w1 ⟨rfl, hb1⟩
  have n0 := Aside0.mk (below_step (by repeat (first | (with_reducible first | exact HB.out | apply below_alloc | apply pw_below_drewN | apply below_drew1) | refine below_set ?_ (by omega))) hb1)
  clear HB hb1
  have HB := n0
  clear n0
  go_wp2_with fail
  refine (HX.out _).mono ?_
  rintro e w2 ⟨rfl, hb1⟩
  have n0 := Aside0.mk (below_step (by repeat (first | (with_reducible first | exact HB.out | apply below_alloc | apply pw_below_drewN | apply below_drew1) | refine below_set ?_ (by omega))) hb1)
  clear HB hb1
  have HB := n0
  clear n0
  go_wp2_with fail
  refine (HY.out _).mono ?_
  rintro e w3 ⟨rfl, hb1⟩
  have n0 := Aside0.mk (below_step (by repeat (first | (with_reducible first | exact HB.out | apply below_alloc | apply pw_below_drewN | apply below_drew1) | refine below_set ?_ (by omega))) hb1)
  clear HB hb1
  have HB := n0
  clear n0
  go_upto_region 5 with ((with_reducible refine wpList_storeW w3.heap.size Try.zeroCells47 (rv 0 0 0 fun _ => zs) ?_ ?_ ?_ z67_size (rv_size _ _ _ _) (rv_one _ _ _ _) ?_); rfl; rfl; exact IsBlk.new _ _ rfl; intro w4 hb4 hg4)
  have HB4 : Aside0 (Below w.heap.size w w4) := ⟨below_of_new (below_alloc HB.out _) hg4 HB.out.size (by have := HB.out.size; simp; omega)⟩
  clear HB hb4 hg4
  go_wp2
  go_ret
  exact ⟨rfl, HB4.out⟩
set_option maxRecDepth 100000 in
set_option maxHeartbeats 8000000 in
theorem walk_yes (n m : Int) (A : Option Addr) (c0 : Nat) (l : List (Int × Int × Int × Int × Int × Int × Int × Int)) (w : World) (h1 : 1 ≤ m) (h2 : m ≤ 16) (h3 : 0 ≤ n) (h4 : n < m) (hr : Rowz Is53 8 w A l) (hc : l.length ≤ c0) : Calls Try.prog 7 #[.int .i64 n, .int .i64 m, .slice A l.length c0] w fun e w' => e = .returned (.bool true) ∧ Below w.heap.size w w' := by
  have HX : Aside0 (1 ≤ m ∧ m ≤ 16 ∧ 0 ≤ n ∧ n < m) := ⟨⟨h1, h2, h3, h4⟩⟩
  have HM : Aside0 (1 ≤ m ∧ m ≤ 16) := ⟨⟨h1, h2⟩⟩
  have HR0 := Aside0.mk hr
  clear h1 h2 h3 h4 hr
  have HB := Aside0.mk (Below.refl w.heap.size w)
  go_enter Try.func7, Try.ntmps7
  go_wp2_with fail
  refine (lives_q _).mono ?_
  rintro e w1 ⟨rfl, hb1⟩
  have HW1 := Aside0.mk hb1.size
  have n0 := Aside0.mk (below_step (by repeat (first | (with_reducible first | exact HB.out | apply below_alloc | apply pw_below_drewN | apply below_drew1) | refine below_set ?_ (by omega))) hb1)
  clear HB hb1
  have HB := n0
  clear n0
  go_wp2_with fail
  refine (new_q n m _ HX.out.1 HX.out.2.1 HX.out.2.2.1 HX.out.2.2.2).mono ?_
  rintro e w2 ⟨rfl, hk, hb1⟩
  have HK := Aside0.mk hk
  have HGR0 : Aside0 (w.heap.size ≤ w1.heap.size + 1 ∧ w.heap.size ≤ w1.heap.size ∧ w1.heap.size + 1 < w2.heap.size ∧ w1.heap.size < w2.heap.size) := ⟨by have := HW1.out; have := blk_lt hk.blk; omega⟩
  clear hk
  have n0 := Aside0.mk (below_step (by repeat (first | (with_reducible first | exact HB.out | apply below_alloc | apply pw_below_drewN | apply below_drew1) | refine below_set ?_ (by omega))) hb1)
  clear HB hb1
  have HB := n0
  clear n0
  generalize w1.heap.size + 1 = g at HK HGR0 ⊢
  generalize w1.heap.size = q at HK HGR0 ⊢
  go_wp2_with fail
  refine (new16_q n m _ HX.out.1 HX.out.2.1 HX.out.2.2.1 HX.out.2.2.2).mono ?_
  rw [← hf_fresh n m]
  rintro e w3 ⟨rfl, hb1⟩
  have HKn := Aside0.mk (Wk.below HK.out hb1)
  have HGR1 : Aside0 (w.heap.size ≤ g ∧ w.heap.size ≤ q ∧ g < w3.heap.size ∧ q < w3.heap.size ∧ w.heap.size ≤ w3.heap.size) := ⟨by have := HGR0.out; have := hb1.size; have := HB.out.size; omega⟩
  clear HK HGR0
  have HK := HKn
  clear HKn
  have n0 := Aside0.mk (below_step (by repeat (first | (with_reducible first | exact HB.out | apply below_alloc | apply pw_below_drewN | apply below_drew1) | refine below_set ?_ (by omega))) hb1)
  clear HB hb1
  have HB := n0
  clear n0
  go_upto_region 5 with ((with_reducible refine wpList_storeW w3.heap.size Try.zeroCells47 (rv n m 0 (hf (fresh n m 16))) ?_ ?_ ?_ z67_size (rv_size _ _ _ _) (rv_one _ _ _ _) ?_); rfl; rfl; exact IsBlk.new _ _ rfl; intro w4 hb4 hg4)
  have HR := Aside0.mk hb4
  have HKn : Aside0 (Wk w4 g q 0 (fresh n m 16)) := ⟨wk_new (HK.out.alloc _) hg4 (by have := HGR1.out; omega) (by have := HGR1.out; omega)⟩
  have HB4 : Aside0 (Below w.heap.size w w4) := ⟨below_of_new (below_alloc HB.out _) hg4 HB.out.size (by have := HB.out.size; simp; omega)⟩
  clear HB HK hb4 hg4
  have HK := HKn
  have HB := HB4
  clear HKn HB4
  obtain ⟨r9, hr9⟩ : ∃ x, w3.heap.size = x := ⟨_, rfl⟩
  have HGR : Aside0 (w.heap.size ≤ g ∧ w.heap.size ≤ q ∧ g < r9 ∧ q < r9 ∧ w.heap.size ≤ r9) := ⟨by have := HGR1.out; omega⟩
  rw [hr9] at HR ⊢
  clear hr9 HGR1
  go_wp2_with fail
  go_loopw [11] (fun v11 wr => ∃ (i seen : Int) (f : Int → Option Sl), v11 = .int .i64 i ∧ Aside0 (0 ≤ i ∧ i ≤ 60 ∧ i ≤ l.length) ∧ Aside0 (IsBlk wr r9 (rv n m seen (hf f)) 47) ∧ Aside0 (Wk wr g q seen f) ∧ Aside0 (Dom n m f) ∧ Aside0 (Rt f) ∧ Aside0 (Below w.heap.size w wr)) (fun v11 _ => 100 - (intOf v11).toNat)
  case atStart => exact ⟨0, 0, _, rfl, ⟨by omega⟩, HR, HK, ⟨Dom.fresh HX.out.2.2.1 HX.out.2.2.2⟩, ⟨Rt.fresh n m 16⟩, HB⟩
  case round =>
    clear HB HK HR
    obtain ⟨i, seen, f, rfl, HI, HR, HK, HD, HT, HB⟩ := hrel
    obtain ⟨wq, hwq⟩ : ∃ x, x = wr := ⟨_, rfl⟩
    subst hwq
    have hmax : l.length ≤ 9223372036854775807 := HR0.out.1
    by_cases hi : i < l.length
    · by_cases h60 : i < 60
      · have t1 : decide (i < (l.length : Int)) = true := decide_eq_true hi
        have t2 : decide (i < 60) = true := decide_eq_true h60
        have hi0 : 0 ≤ i := HI.out.1
        have H60 := Aside0.mk (And.intro h60 hi)
        have hkn : i.toNat < l.length := by omega
        obtain ⟨kb, ko, cs, rfl, _, hcs, hkb, hcell⟩ := Rowz.at' (Rowz.below HR0.out HB.out) (by omega) (0, 0, 0, 0, 0, 0, 0, 0) i.toNat hkn
        obtain ⟨kb0, ko0, cs0, hA0, _, _, hkb0, _⟩ := Rowz.at' HR0.out (by omega) (0, 0, 0, 0, 0, 0, 0, 0) i.toNat hkn
        cases hA0
        obtain ⟨⟨p0, p1, p2, p3, p4, p5, p6, p7⟩, hpp⟩ : ∃ x, l.getD i.toNat (0, 0, 0, 0, 0, 0, 0, 0) = x := ⟨_, rfl⟩
        rw [hpp] at hcs
        obtain ⟨rfl, _⟩ := hcs
        clear hpp
        have ck0 := hcell 0 _ rfl
        have ck1 := hcell 1 _ rfl
        have ck2 := hcell 2 _ rfl
        have ck3 := hcell 3 _ rfl
        have ck4 := hcell 4 _ rfl
        have ck5 := hcell 5 _ rfl
        have ck6 := hcell 6 _ rfl
        have ck7 := hcell 7 _ rfl
        rw [Nat.add_zero] at ck0
        rw [← Nat.add_assoc] at ck1
        rw [← Nat.add_assoc] at ck2
        rw [← Nat.add_assoc] at ck3
        rw [← Nat.add_assoc] at ck4
        rw [← Nat.add_assoc] at ck5
        rw [← Nat.add_assoc] at ck6
        rw [← Nat.add_assoc] at ck7
        have HKB := Aside0.mk hkb0
        have HRL := Aside0.mk (show r9 < wq.heap.size from blk_lt HR.out)
        obtain ⟨sa, fa, hd2, hr2, hdoes⟩ := does_q n m seen g q f p0 p1 p2 p3 p4 p5 p6 p7 HD.out HM.out HT.out
        have HD2 := Aside0.mk hd2
        have HT2 := Aside0.mk hr2
        have HDOES := Aside0.mk hdoes
        clear hcell hkn hkb hkb0 hd2 hr2 hdoes h60
        go_upto_region 12 with fail
        refine start_ (n := 13) (S := fun w' => IsBlk w' r9 (rv n m seen (hf f)) 47 ∧ w'.cell? ⟨kb, ko + i.toNat * 8, none⟩ = some (.int .i64 p0) ∧ w'.cell? ⟨kb, ko + i.toNat * 8 + 1, none⟩ = some (.int .i64 p1) ∧ w'.cell? ⟨kb, ko + i.toNat * 8 + 2, none⟩ = some (.int .i64 p2) ∧ w'.cell? ⟨kb, ko + i.toNat * 8 + 3, none⟩ = some (.int .i64 p3) ∧ w'.cell? ⟨kb, ko + i.toNat * 8 + 4, none⟩ = some (.int .i64 p4) ∧ w'.cell? ⟨kb, ko + i.toNat * 8 + 5, none⟩ = some (.int .i64 p5) ∧ w'.cell? ⟨kb, ko + i.toNat * 8 + 6, none⟩ = some (.int .i64 p6) ∧ w'.cell? ⟨kb, ko + i.toNat * 8 + 7, none⟩ = some (.int .i64 p7)) (ds := [11]) #[false, false, false, false, false, false, false, false, false, false, false, false, false] (by kernel_rfl) rfl rfl ⟨HR.out.drew, ck0, ck1, ck2, ck3, ck4, ck5, ck6, ck7⟩ (fun hHeld => ?_)
        refine pure_ (i := 0) (N := some 51) (v := ?_) (a' := ?_) #[true, false, false, false, false, false, false, false, false, false, false, false, false] rfl rfl (by kernel_rfl) (fun _ _ _ h => h) (Or.inl ⟨by rfl, ?_⟩) ?_ ?_
        rotate_left
        · intro w'
          go_simp
          with_reducible rfl
        rotate_left
        · simp only [Act.put, List.setIfInBounds_toArray, List.set_cons_zero, List.set_cons_succ, i64_w, i32_w]
          rfl
        refine pure_ (i := 2) (N := some 53) (v := ?_) (a' := ?_) #[true, false, true, false, false, false, false, false, false, false, false, false, false] rfl rfl (by kernel_rfl) (fun _ _ _ h => h) (Or.inl ⟨by rfl, ?_⟩) ?_ ?_
        rotate_left
        · intro w'
          go_simp
          with_reducible rfl
        rotate_left
        · simp only [Act.put, List.setIfInBounds_toArray, List.set_cons_zero, List.set_cons_succ, i64_w, i32_w]
          rfl
        refine pure_ (i := 3) (N := some 54) (v := ?_) (a' := ?_) #[true, false, true, true, false, false, false, false, false, false, false, false, false] rfl rfl (by kernel_rfl) (fun _ _ _ h => h) (Or.inl ⟨by rfl, ?_⟩) ?_ ?_
        rotate_left
        · intro w'
          go_simp
          with_reducible rfl
        rotate_left
        · simp only [Act.put, List.setIfInBounds_toArray, List.set_cons_zero, List.set_cons_succ, i64_w, i32_w]
          rfl
        refine pure_ (i := 4) (N := some 55) (v := ?_) (a' := ?_) #[true, false, true, true, true, false, false, false, false, false, false, false, false] rfl rfl (by kernel_rfl) (fun _ _ _ h => h) (Or.inl ⟨by rfl, ?_⟩) ?_ ?_
        rotate_left
        · intro w'
          go_simp
          with_reducible rfl
        rotate_left
        · simp only [Act.put, List.setIfInBounds_toArray, List.set_cons_zero, List.set_cons_succ, i64_w, i32_w]
          rfl
        refine take_ (i := 1) (N := some 52) (v := ?_) (a' := ?_) #[true, true, true, true, true, false, false, false, false, false, false, false, false] rfl rfl (by kernel_rfl) (fun _ _ _ h => h) (Or.inl ⟨by rfl, ?_⟩) hHeld ?_ ?_
        rotate_left
        · rintro w' ⟨s0, s1, s2, s3, s4, s5, s6, s7, s8⟩
          (refine execW (x := Operand.tmp 9) r9 (rv n m seen (hf f)) ?_ ?_ ?_ ?_; rfl; rfl; assumption; exact rv_size _ _ _ _)
        rotate_left
        · simp only [Act.put, List.setIfInBounds_toArray, List.set_cons_zero, List.set_cons_succ, i64_w, i32_w]
          rfl
        refine take_ (i := 5) (N := some 56) (v := ?_) (a' := ?_) #[true, true, true, true, true, true, false, false, false, false, false, false, false] rfl rfl (by kernel_rfl) (fun _ _ _ h => h) (Or.inl ⟨by rfl, ?_⟩) hHeld ?_ ?_
        rotate_left
        · rintro w' ⟨s0, s1, s2, s3, s4, s5, s6, s7, s8⟩
          go_simp
          with_reducible rfl
        rotate_left
        · simp only [Act.put, List.setIfInBounds_toArray, List.set_cons_zero, List.set_cons_succ, i64_w, i32_w]
          rfl
        refine join_ (σ := Nat) 2 #[true, true, true, true, true, true, true, true, true, true, true, false, false] (fun s => [(57, (.tuple #[.agg (rv n m sa (hf fa)), .bool true])), (12, .pointer (some ⟨s, 0, none⟩)), (50, (.tuple #[.agg (rv n m sa (hf fa)), .bool true])), (58, .agg (rv n m sa (hf fa))), (59, .bool true)]) (fun s w' => (IsBlk w' r9 (rv n m seen (hf f)) 47 ∧ w'.cell? ⟨kb, ko + i.toNat * 8, none⟩ = some (.int .i64 p0) ∧ w'.cell? ⟨kb, ko + i.toNat * 8 + 1, none⟩ = some (.int .i64 p1) ∧ w'.cell? ⟨kb, ko + i.toNat * 8 + 2, none⟩ = some (.int .i64 p2) ∧ w'.cell? ⟨kb, ko + i.toNat * 8 + 3, none⟩ = some (.int .i64 p3) ∧ w'.cell? ⟨kb, ko + i.toNat * 8 + 4, none⟩ = some (.int .i64 p4) ∧ w'.cell? ⟨kb, ko + i.toNat * 8 + 5, none⟩ = some (.int .i64 p5) ∧ w'.cell? ⟨kb, ko + i.toNat * 8 + 6, none⟩ = some (.int .i64 p6) ∧ w'.cell? ⟨kb, ko + i.toNat * 8 + 7, none⟩ = some (.int .i64 p7)) ∧ IsBlk w' s Try.zeroCells47 47 ∧ r9 < s ∧ IsBlk w' r9 (rv n m seen (hf f)) 47 ∧ Wk w' g q sa fa ∧ Below w.heap.size w w') ?_ ?_
        rotate_left
        · intro hCont
          refine two_ (i := 6) (j := 10) (Ni := some 57) (Nj := some 12) #[true, true, true, true, true, true, true, false, false, false, false, false, false] #[true, true, true, true, true, true, false, false, false, false, true, false, false] rfl rfl rfl rfl (by kernel_rfl) (by simp) (by simp) (fun K hK => ?_) (fun K hK => ?_)
          · skip
            refine goes_ Try.func17 (by kernel_rfl) rfl #[.pointer (some ⟨g, 0, none⟩), .agg (rv n m seen (hf f)), .agg #[.int .i64 p0, .int .i64 p1, .int .i64 p2, .int .i64 p3, .int .i64 p4, .int .i64 p5, .int .i64 p6, .int .i64 p7]] (by rfl) rfl rfl (by simp only [List.map_toArray, List.map_cons, List.map_nil]; rfl) ?_
            with_reducible refine (HDOES.out _ (by repeat (with_reducible first | exact HK.out | apply Wk.alloc | apply Wk.drew))).mono ?_
            rintro e y6 ⟨rfl, hk, hbt⟩
            have hbt' := Aside0.mk hbt
            have HKn : Aside0 (Wk y6 g q sa fa) := ⟨hk⟩
            have HRn : Aside0 (IsBlk y6 r9 (rv n m seen (hf f)) 47) := ⟨IsBlk.but (by repeat (with_reducible first | exact HR.out | apply IsBlk.alloc | apply IsBlk.drew)) hbt (by have := HGR.out; omega) (by have := HGR.out; omega)⟩
            have HBn : Aside0 (Below w.heap.size w y6) := ⟨But2.after (by repeat (first | (with_reducible first | exact HB.out | apply below_alloc | apply pw_below_drewN | apply below_drew1) | refine below_set ?_ (by omega))) hbt (by have := HGR.out; omega) (by have := HGR.out; omega)⟩
            clear HK HR HB hk hbt
            have HK := HKn
            have HR := HRn
            have HB := HBn
            clear HKn HRn HBn
            refine ⟨_, rfl, ?_⟩
            refine hK.out _ _ ⟨IsBlk.but hHeld.1 hbt'.out (by have := HGR.out; omega) (by have := HGR.out; omega), cell_but hbt'.out (by have := HKB.out; have := HGR.out; omega) (by have := HKB.out; have := HGR.out; omega) hHeld.2.1, cell_but hbt'.out (by have := HKB.out; have := HGR.out; omega) (by have := HKB.out; have := HGR.out; omega) hHeld.2.2.1, cell_but hbt'.out (by have := HKB.out; have := HGR.out; omega) (by have := HKB.out; have := HGR.out; omega) hHeld.2.2.2.1, cell_but hbt'.out (by have := HKB.out; have := HGR.out; omega) (by have := HKB.out; have := HGR.out; omega) hHeld.2.2.2.2.1, cell_but hbt'.out (by have := HKB.out; have := HGR.out; omega) (by have := HKB.out; have := HGR.out; omega) hHeld.2.2.2.2.2.1, cell_but hbt'.out (by have := HKB.out; have := HGR.out; omega) (by have := HKB.out; have := HGR.out; omega) hHeld.2.2.2.2.2.2.1, cell_but hbt'.out (by have := HKB.out; have := HGR.out; omega) (by have := HKB.out; have := HGR.out; omega) hHeld.2.2.2.2.2.2.2.1, cell_but hbt'.out (by have := HKB.out; have := HGR.out; omega) (by have := HKB.out; have := HGR.out; omega) hHeld.2.2.2.2.2.2.2.2⟩ (fun hHeld => ?_)
            clear hK K
            refine norm_ (a' := ?_) ?_ ?_
            rotate_left
            · show Act.put _ (some 57) _ = _
              simp only [Act.put, List.setIfInBounds_toArray, List.set_cons_zero, List.set_cons_succ, i64_w, i32_w]
              rfl
            refine pure_ (i := 7) (N := some 50) (v := ?_) (a' := ?_) #[true, true, true, true, true, true, true, true, false, false, false, false, false] rfl rfl (by kernel_rfl) (fun _ _ _ h => h) (Or.inl ⟨by rfl, ?_⟩) ?_ ?_
            rotate_left
            · intro w'
              go_simp
              with_reducible rfl
            rotate_left
            · simp only [Act.put, List.setIfInBounds_toArray, List.set_cons_zero, List.set_cons_succ, i64_w, i32_w]
              rfl
            refine pure_ (i := 8) (N := some 58) (v := ?_) (a' := ?_) #[true, true, true, true, true, true, true, true, true, false, false, false, false] rfl rfl (by kernel_rfl) (fun _ _ _ h => h) (Or.inl ⟨by rfl, ?_⟩) ?_ ?_
            rotate_left
            · intro w'
              go_simp
              with_reducible rfl
            rotate_left
            · simp only [Act.put, List.setIfInBounds_toArray, List.set_cons_zero, List.set_cons_succ, i64_w, i32_w]
              rfl
            refine pure_ (i := 9) (N := some 59) (v := ?_) (a' := ?_) #[true, true, true, true, true, true, true, true, true, true, false, false, false] rfl rfl (by kernel_rfl) (fun _ _ _ h => h) (Or.inl ⟨by rfl, ?_⟩) ?_ ?_
            rotate_left
            · intro w'
              go_simp
              with_reducible rfl
            rotate_left
            · simp only [Act.put, List.setIfInBounds_toArray, List.set_cons_zero, List.set_cons_succ, i64_w, i32_w]
              rfl
            refine one_ (i := 10) (N := some 12) #[true, true, true, true, true, true, true, true, true, true, true, false, false] rfl rfl (by kernel_rfl) (by simp) (fun K hK => ?_)
            refine value_ (w1 := ?_) (v := ?_) (by rfl) rfl ?_ ?_
            rotate_left 2
            · go_simp
              constructor
              · rfl
              · rfl
            have HN := Aside0.mk (show IsBlk (y6.alloc (.cells Try.zeroCells47 47)) y6.heap.size Try.zeroCells47 47 from IsBlk.new _ _ rfl)
            have HLN := Aside0.mk (show r9 < y6.heap.size from blk_lt (show IsBlk y6 r9 (rv n m seen (hf f)) 47 from by repeat (with_reducible first | exact HR.out | apply IsBlk.alloc | apply IsBlk.drew)))
            refine hK.out _ _ ⟨IsBlk.alloc hHeld.1 _, cell_keep (below_alloc (Below.refl _ _) _) hHeld.2.1, cell_keep (below_alloc (Below.refl _ _) _) hHeld.2.2.1, cell_keep (below_alloc (Below.refl _ _) _) hHeld.2.2.2.1, cell_keep (below_alloc (Below.refl _ _) _) hHeld.2.2.2.2.1, cell_keep (below_alloc (Below.refl _ _) _) hHeld.2.2.2.2.2.1, cell_keep (below_alloc (Below.refl _ _) _) hHeld.2.2.2.2.2.2.1, cell_keep (below_alloc (Below.refl _ _) _) hHeld.2.2.2.2.2.2.2.1, cell_keep (below_alloc (Below.refl _ _) _) hHeld.2.2.2.2.2.2.2.2⟩ (fun hHeld => ?_)
            clear hK K
            refine norm_ (a' := ?_) ?_ ?_
            rotate_left
            · show Act.put _ (some 12) _ = _
              simp only [Act.put, List.setIfInBounds_toArray, List.set_cons_zero, List.set_cons_succ, i64_w, i32_w]
              rfl
            exact norm_ (by first | (simp only [putAll, Act.put, List.setIfInBounds_toArray, List.set_cons_zero, List.set_cons_succ]; done) | (simp only [putAll, Act.put, List.setIfInBounds_toArray, List.set_cons_zero, List.set_cons_succ]; rfl)) (hCont _ _ ⟨hHeld, by repeat (with_reducible first | exact HN.out | apply IsBlk.alloc | apply IsBlk.drew), HLN.out, by repeat (with_reducible first | exact HR.out | apply IsBlk.alloc | apply IsBlk.drew), by repeat (with_reducible first | exact HK.out | apply Wk.alloc | apply Wk.drew), by repeat (with_reducible first | exact HB.out | apply But2.alloc | apply But2.drew | apply below_alloc | apply below_drew1)⟩)
          · skip
            refine value_ (w1 := ?_) (v := ?_) (by rfl) rfl ?_ ?_
            rotate_left 2
            · go_simp
              constructor
              · rfl
              · rfl
            have HN := Aside0.mk (show IsBlk (wq.alloc (.cells Try.zeroCells47 47)) wq.heap.size Try.zeroCells47 47 from IsBlk.new _ _ rfl)
            have HLN := Aside0.mk (show r9 < wq.heap.size from blk_lt (show IsBlk wq r9 (rv n m seen (hf f)) 47 from by repeat (with_reducible first | exact HR.out | apply IsBlk.alloc | apply IsBlk.drew)))
            refine hK.out _ _ ⟨IsBlk.alloc hHeld.1 _, cell_keep (below_alloc (Below.refl _ _) _) hHeld.2.1, cell_keep (below_alloc (Below.refl _ _) _) hHeld.2.2.1, cell_keep (below_alloc (Below.refl _ _) _) hHeld.2.2.2.1, cell_keep (below_alloc (Below.refl _ _) _) hHeld.2.2.2.2.1, cell_keep (below_alloc (Below.refl _ _) _) hHeld.2.2.2.2.2.1, cell_keep (below_alloc (Below.refl _ _) _) hHeld.2.2.2.2.2.2.1, cell_keep (below_alloc (Below.refl _ _) _) hHeld.2.2.2.2.2.2.2.1, cell_keep (below_alloc (Below.refl _ _) _) hHeld.2.2.2.2.2.2.2.2⟩ (fun hHeld => ?_)
            clear hK K
            refine norm_ (a' := ?_) ?_ ?_
            rotate_left
            · show Act.put _ (some 12) _ = _
              simp only [Act.put, List.setIfInBounds_toArray, List.set_cons_zero, List.set_cons_succ, i64_w, i32_w]
              rfl
            refine one_ (i := 6) (N := some 57) #[true, true, true, true, true, true, true, false, false, false, true, false, false] rfl rfl (by kernel_rfl) (by simp) (fun K hK => ?_)
            refine goes_ Try.func17 (by kernel_rfl) rfl #[.pointer (some ⟨g, 0, none⟩), .agg (rv n m seen (hf f)), .agg #[.int .i64 p0, .int .i64 p1, .int .i64 p2, .int .i64 p3, .int .i64 p4, .int .i64 p5, .int .i64 p6, .int .i64 p7]] (by rfl) rfl rfl (by simp only [List.map_toArray, List.map_cons, List.map_nil]; rfl) ?_
            with_reducible refine (HDOES.out _ (by repeat (with_reducible first | exact HK.out | apply Wk.alloc | apply Wk.drew))).mono ?_
            rintro e y6 ⟨rfl, hk, hbt⟩
            have hbt' := Aside0.mk hbt
            have HKn : Aside0 (Wk y6 g q sa fa) := ⟨hk⟩
            have HRn : Aside0 (IsBlk y6 r9 (rv n m seen (hf f)) 47) := ⟨IsBlk.but (by repeat (with_reducible first | exact HR.out | apply IsBlk.alloc | apply IsBlk.drew)) hbt (by have := HGR.out; omega) (by have := HGR.out; omega)⟩
            have HBn : Aside0 (Below w.heap.size w y6) := ⟨But2.after (by repeat (first | (with_reducible first | exact HB.out | apply below_alloc | apply pw_below_drewN | apply below_drew1) | refine below_set ?_ (by omega))) hbt (by have := HGR.out; omega) (by have := HGR.out; omega)⟩
            clear HK HR HB hk hbt
            have HK := HKn
            have HR := HRn
            have HB := HBn
            clear HKn HRn HBn
            have HNn : Aside0 (IsBlk y6 wq.heap.size Try.zeroCells47 47) := ⟨IsBlk.but (by repeat (with_reducible first | exact HN.out | apply IsBlk.alloc | apply IsBlk.drew)) hbt'.out (by have := HGR.out; have := HRL.out; omega) (by have := HGR.out; have := HRL.out; omega)⟩
            clear HN
            have HN := HNn
            clear HNn
            refine ⟨_, rfl, ?_⟩
            refine hK.out _ _ ⟨IsBlk.but hHeld.1 hbt'.out (by have := HGR.out; omega) (by have := HGR.out; omega), cell_but hbt'.out (by have := HKB.out; have := HGR.out; omega) (by have := HKB.out; have := HGR.out; omega) hHeld.2.1, cell_but hbt'.out (by have := HKB.out; have := HGR.out; omega) (by have := HKB.out; have := HGR.out; omega) hHeld.2.2.1, cell_but hbt'.out (by have := HKB.out; have := HGR.out; omega) (by have := HKB.out; have := HGR.out; omega) hHeld.2.2.2.1, cell_but hbt'.out (by have := HKB.out; have := HGR.out; omega) (by have := HKB.out; have := HGR.out; omega) hHeld.2.2.2.2.1, cell_but hbt'.out (by have := HKB.out; have := HGR.out; omega) (by have := HKB.out; have := HGR.out; omega) hHeld.2.2.2.2.2.1, cell_but hbt'.out (by have := HKB.out; have := HGR.out; omega) (by have := HKB.out; have := HGR.out; omega) hHeld.2.2.2.2.2.2.1, cell_but hbt'.out (by have := HKB.out; have := HGR.out; omega) (by have := HKB.out; have := HGR.out; omega) hHeld.2.2.2.2.2.2.2.1, cell_but hbt'.out (by have := HKB.out; have := HGR.out; omega) (by have := HKB.out; have := HGR.out; omega) hHeld.2.2.2.2.2.2.2.2⟩ (fun hHeld => ?_)
            clear hK K
            refine norm_ (a' := ?_) ?_ ?_
            rotate_left
            · show Act.put _ (some 57) _ = _
              simp only [Act.put, List.setIfInBounds_toArray, List.set_cons_zero, List.set_cons_succ, i64_w, i32_w]
              rfl
            refine pure_ (i := 7) (N := some 50) (v := ?_) (a' := ?_) #[true, true, true, true, true, true, true, true, false, false, true, false, false] rfl rfl (by kernel_rfl) (fun _ _ _ h => h) (Or.inl ⟨by rfl, ?_⟩) ?_ ?_
            rotate_left
            · intro w'
              go_simp
              with_reducible rfl
            rotate_left
            · simp only [Act.put, List.setIfInBounds_toArray, List.set_cons_zero, List.set_cons_succ, i64_w, i32_w]
              rfl
            refine pure_ (i := 8) (N := some 58) (v := ?_) (a' := ?_) #[true, true, true, true, true, true, true, true, true, false, true, false, false] rfl rfl (by kernel_rfl) (fun _ _ _ h => h) (Or.inl ⟨by rfl, ?_⟩) ?_ ?_
            rotate_left
            · intro w'
              go_simp
              with_reducible rfl
            rotate_left
            · simp only [Act.put, List.setIfInBounds_toArray, List.set_cons_zero, List.set_cons_succ, i64_w, i32_w]
              rfl
            refine pure_ (i := 9) (N := some 59) (v := ?_) (a' := ?_) #[true, true, true, true, true, true, true, true, true, true, true, false, false] rfl rfl (by kernel_rfl) (fun _ _ _ h => h) (Or.inl ⟨by rfl, ?_⟩) ?_ ?_
            rotate_left
            · intro w'
              go_simp
              with_reducible rfl
            rotate_left
            · simp only [Act.put, List.setIfInBounds_toArray, List.set_cons_zero, List.set_cons_succ, i64_w, i32_w]
              rfl
            exact norm_ (by first | (simp only [putAll, Act.put, List.setIfInBounds_toArray, List.set_cons_zero, List.set_cons_succ]; done) | (simp only [putAll, Act.put, List.setIfInBounds_toArray, List.set_cons_zero, List.set_cons_succ]; rfl)) (hCont _ _ ⟨hHeld, by repeat (with_reducible first | exact HN.out | apply IsBlk.alloc | apply IsBlk.drew), HLN.out, by repeat (with_reducible first | exact HR.out | apply IsBlk.alloc | apply IsBlk.drew), by repeat (with_reducible first | exact HK.out | apply Wk.alloc | apply Wk.drew), by repeat (with_reducible first | exact HB.out | apply But2.alloc | apply But2.drew | apply below_alloc | apply below_drew1)⟩)
        rintro s y ⟨hHeld, hN, hLN, hHR, hHK, hHB⟩
        clear HR
        clear HK
        clear HB
        have HR := Aside0.mk hHR
        have HK := Aside0.mk hHK
        have HB := Aside0.mk hHB
        have HN := Aside0.mk hN
        have HLN := Aside0.mk hLN
        clear hN hLN hHR hHK hHB
        refine norm_ (a' := ?_) ?_ ?_
        rotate_left
        · simp only [putAll, Act.put, List.setIfInBounds_toArray, List.set_cons_zero, List.set_cons_succ]
          rfl
        obtain ⟨y8, hrun8, hb8, hg8⟩ := run_storeW s Try.zeroCells47 (rv n m sa (hf fa)) y HN.out z67_size (rv_size _ _ _ _) (rv_one _ _ _ _)
        refine lastStore_ (i := 11) (w1 := y8) #[true, true, true, true, true, true, true, true, true, true, true, true, false] rfl rfl (by kernel_rfl) (by simp) (by rfl) ?_ ?_
        · refine execSW (x := Operand.tmp 12) (y := Operand.tmp 58) s (rv n m sa (hf fa)) ?_ ?_ ?_ hrun8
          · rfl
          · rfl
          · rfl
        refine pure_ (i := 12) (N := some 13) (v := ?_) (a' := ?_) #[true, true, true, true, true, true, true, true, true, true, true, true, true] rfl rfl (by kernel_rfl) (fun _ _ _ h => h) (Or.inl ⟨by rfl, ?_⟩) ?_ ?_
        rotate_left
        · intro w'
          go_simp
          with_reducible rfl
        rotate_left
        · simp only [Act.put, List.setIfInBounds_toArray, List.set_cons_zero, List.set_cons_succ, i64_w, i32_w]
          rfl
        refine done_ (by kernel_rfl) ?_

        have HNn := Aside0.mk hb8
        have HRn : Aside0 (IsBlk y8 r9 (rv n m seen (hf f)) 47) := ⟨IsBlk.grownBy HR.out hg8 (by have := HLN.out; omega)⟩
        have HKn : Aside0 (Wk y8 g q sa fa) := ⟨wk_new HK.out hg8 (by have := HLN.out; have := HGR.out; omega) (by have := HLN.out; have := HGR.out; omega)⟩
        have HBn : Aside0 (Below w.heap.size w y8) := ⟨below_of_new HB.out hg8 (by have := HLN.out; have := HGR.out; omega) HB.out.size⟩
        clear HR HK HB HN hg8 hb8 hrun8 ck0 ck1 ck2 ck3 ck4 ck5 ck6 ck7 hi hi0
        have HR := HRn
        have HK := HKn
        have HB := HBn
        have HN := HNn
        clear HRn HKn HBn HNn
        go_upto_region 14 with (first | ((with_reducible refine wpList_loadW s (rv n m sa (hf fa)) ?_ ?_ (rv_size _ _ _ _) ?_); rfl; exact (by repeat (with_reducible first | exact HN.out | apply IsBlk.alloc | apply IsBlk.drew))) | ((with_reducible refine wpList_storeW r9 (rv n m seen (hf f)) (rv n m sa (hf fa)) ?_ ?_ ?_ (rv_size _ _ _ _) (rv_size _ _ _ _) (rv_one _ _ _ _) ?_); rfl; rfl; exact HR.out; intro w9 hb9 hg9))
        have HRn := Aside0.mk hb9
        have HKn : Aside0 (Wk w9 g q sa fa) := ⟨wk_new HK.out hg9 (by have := HGR.out; omega) (by have := HGR.out; omega)⟩
        have HBn : Aside0 (Below w.heap.size w w9) := ⟨below_of_new HB.out hg9 (by have := HGR.out; omega) HB.out.size⟩
        clear HR HK HB HN hg9 hb9
        have HR := HRn
        have HK := HKn
        have HB := HBn
        clear HRn HKn HBn
        go_wp2_with ((with_reducible refine wpList_loadG r9 (rv n m sa (hf fa)) ?_ ?_ ?_ (rv_size _ _ _ _) ?_); rfl; rfl; exact HR.out)
        refine (like_q n m sa g q fa _ HD2.out HM.out HK.out).mono ?_
        rintro e w10 ⟨rfl, hb1⟩
        have HRn : Aside0 (IsBlk w10 r9 (rv n m sa (hf fa)) 47) := ⟨IsBlk.below HR.out hb1⟩
        have HKn : Aside0 (Wk w10 g q sa fa) := ⟨Wk.below HK.out hb1⟩
        have HBn : Aside0 (Below w.heap.size w w10) := ⟨below_step HB.out hb1⟩
        clear HR HK HB hb1
        have HR := HRn
        have HK := HKn
        have HB := HBn
        clear HRn HKn HBn
        have hw1 : wrap64 (i + 1) = i + 1 := wrap64_eq (by have := HI.out; omega) (by have := H60.out; omega)
        go_wp2
        go_roundw
        case rel => exact ⟨i + 1, sa, fa, by first | rfl | rw [hw1], ⟨by have := HI.out; have := H60.out; omega⟩, HR, HK, HD2, HT2, HB⟩
        case measure => have := H60.out; have := HI.out; simp [intOf, hw1]; omega
      · have t2 : decide (i < 60) = false := decide_eq_false h60
        go_wp2
        go_ret
        exact ⟨rfl, HB.out⟩
    · have t1 : decide (i < (l.length : Int)) = false := decide_eq_false hi
      go_wp2
      go_ret
      exact ⟨rfl, HB.out⟩
theorem walk (n m : Int) (A : Option Addr) (c0 : Nat) (l : List (Int × Int × Int × Int × Int × Int × Int × Int)) (w : World) (hw0 : (Lit.int .i64 n).wf = true) (hw1 : (Lit.int .i64 m).wf = true) (hr : Rowz Is53 8 w A l) (hc : l.length ≤ c0) : Calls Try.prog 7 #[.int .i64 n, .int .i64 m, .slice A l.length c0] w fun e w' => e = .returned (.bool true) ∧ Below w.heap.size w w' := by
  by_cases h : 1 ≤ m ∧ m ≤ 16 ∧ 0 ≤ n ∧ n < m
  · exact walk_yes n m A c0 l w h.1 h.2.1 h.2.2.1 h.2.2.2 hr hc
  · refine walk_no n m A c0 l w _ _ _ _ rfl rfl rfl rfl ?_
    simp only [Bool.or_eq_true, decide_eq_true_eq]
    omega
end Go.Proofs.Ytkjaeodnpgpfeaa.WalkWorkerPlays
