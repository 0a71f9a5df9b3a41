/-
  Proved here: a step done to a worker and to the reference gives the same answers and states. No condition.
-/
import Derived.Test.YtkjaeodnpgpfeaaV6
import Derived.Deep.RegionWith
import Derived.Deep.DeepCutAuto
namespace Go.Proofs.Ytkjaeodnpgpfeaa.V7
open Go.RowKit Go.Maps Go.Sort Go.Shelf Go.Proofs.Ytkjaeodnpgpfeaa.M Go.Proofs.Ytkjaeodnpgpfeaa.S0 Go.Proofs.Ytkjaeodnpgpfeaa.S4 Go.Proofs.Ytkjaeodnpgpfeaa.W0 Go.Proofs.YtkjaeodnpgpfeaaW.PrintWords Go.Proofs.YtkjaeodnpgpfeaaW.PrintLast Go.Proofs.YtkjaeodnpgpfeaaW.PrintMore Go.Proofs.Ytkjaeodnpgpfeaa.W1 Go.Proofs.Ytkjaeodnpgpfeaa.W2 Go.Proofs.Ytkjaeodnpgpfeaa.W3 Go.Proofs.Ytkjaeodnpgpfeaa.W4 Go.Proofs.Ytkjaeodnpgpfeaa.W5 Go.Proofs.Ytkjaeodnpgpfeaa.W8 Go.Proofs.Ytkjaeodnpgpfeaa.V0 Go.Proofs.Ytkjaeodnpgpfeaa.V1 Go.Proofs.Ytkjaeodnpgpfeaa.V2 Go.Proofs.Ytkjaeodnpgpfeaa.V3 Go.Proofs.Ytkjaeodnpgpfeaa.V4 Go.Proofs.Ytkjaeodnpgpfeaa.V5 Go.Proofs.Ytkjaeodnpgpfeaa.V6
set_option linter.unusedVariables false
set_option linter.unusedSimpArgs false
attribute [local go_sem] max2_int min2_int max_two min_two run_makeMap

theorem execW {w : World} {a : Act} {x : Operand} {o : Oper} (b : Nat) (cs : Array Value) (ho : o.op = .load 47 x) (hx : a.eval x = .pointer (some ⟨b, 0, none⟩)) (hb : IsBlk w b cs 47) (hs : cs.size = 67) : (execOp a.eval o).run Try.prog w = .ok (.value (.agg cs)) w := by
  unfold execOp
  simp only [ho, hx, Instr.loadAt, Instr.sureAddr, Sem.run_bind, Sem.run_pure, Result.andThen_ok, loadW hb hs]
theorem execSW {w w1 : World} {a : Act} {x y : Operand} {o : Oper} (b : Nat) (c2 : Array Value) (ho : o.op = .store 47 x y) (hx : a.eval x = .pointer (some ⟨b, 0, none⟩)) (hy : a.eval y = .agg c2) (hrun : (Instr.storeAt 47 (.pointer (some ⟨b, 0, none⟩)) (.agg c2)).run Try.prog w = .ok () w1) : (execOp a.eval o).run Try.prog w = .ok .skip w1 := by
  unfold execOp
  simp only [ho, hx, hy, Sem.run_bind, hrun, Result.andThen_ok, Sem.run_pure]
section
variable {P : Program} {md : Region.Mode} {ops : Array Oper} {Q : Exit → Act → World → Prop} {S : World → Prop} {ds : List Nat}
theorem lastStore_ {i : Nat} {oi : Oper} {fuel : Nat} {l : Array Bool} {a : Act} {w w1 : World} (l' : Array Bool) (hi : ops[i]? = some oi) (hN : oi.dst = none) (hc : readyB md ops l l' i = true) (hd : i ∈ ds)
    (hw : Region.wanted oi (yielded ops a.tmps) = true) (hrun : (execOp a.eval oi).run P w = .ok .skip w1) (h : wpAnyLast P md ops Q S ds fuel l' a w1) : wpAnyLast P md ops Q S ds (fuel + 1) l a w :=
  last_ l' hi hN hc hd (fun K hK => skip_ hw hN hrun (hK.out _ _ h))
end
theorem but_new {a w w1 : World} {g q z : Nat} (h : But2 a w g q) (hg : w.grownBy w1 (some z)) (hz : a.heap.size ≤ z) : But2 a w1 g q :=
  ⟨hg.os.trans h.os, hg.tape.trans h.tape, hg.output.trans h.output, Nat.le_trans h.size hg.size, fun i hi n1 n2 => (hg.block i (Nat.lt_of_lt_of_le hi h.size) (by simp; omega)).trans (h.block i hi n1 n2)⟩
theorem wk_new {w w1 : World} {g q z : Nat} {seen : Int} {f : Int → Option Sl} (h : Wk w g q seen f) (hg : w.grownBy w1 (some z)) (n1 : g ≠ z) (n2 : q ≠ z) : Wk w1 g q seen f := ⟨h.blk.grownBy hg n1, h.map.kept hg (by simp; omega)⟩
theorem cell_but {W w1 : World} {g q b i : Nat} {v : Value} (hb : But2 W w1 g q) (n1 : b ≠ g) (n2 : b ≠ q) (h : W.cell? ⟨b, i, none⟩ = some v) : w1.cell? ⟨b, i, none⟩ = some v := by
  have hk := hb.block b (World.block_lt_of_cell? W _ h) n1 n2
  rw [← h]
  simp only [World.cell?, hk]
set_option maxRecDepth 100000 in
set_option maxHeartbeats 8000000 in
theorem does_01 (n m seen : Int) (g q : Nat) (f : Int → Option Sl) (p0 p1 p2 p3 p4 p5 p6 p7 r0 r1 r2 r3 r4 r5 c sa K : Int) (fa : Int → Option Sl) (w : World) (hd : Dom n m f) (hm : 1 ≤ m ∧ m ≤ 16) (h : Wk w g q seen f) (hK : K = 0 ∨ K = 1) (hkd : near p0 6 = K) (hmsg : ∀ w : World, Calls Try.prog 31 #[.agg #[.int .i64 p0, .int .i64 p1, .int .i64 p2, .int .i64 p3, .int .i64 p4, .int .i64 p5, .int .i64 p6, .int .i64 p7]] w fun e w' => e = .returned (.agg #[.int .i64 r0, .int .i64 r1, .int .i64 r2, .int .i64 r3, .int .i64 r4, .int .i64 r5]) ∧ Below w.heap.size w w') (hap : applyV seen f r0 r1 r2 r3 r4 r5 = (c, sa, fa)) : Calls Try.prog 17 #[.pointer (some ⟨g, 0, none⟩), .agg (rv n m seen (hf f)), .agg #[.int .i64 p0, .int .i64 p1, .int .i64 p2, .int .i64 p3, .int .i64 p4, .int .i64 p5, .int .i64 p6, .int .i64 p7]] w fun e w' => e = .returned (.tuple #[.agg (rv n m sa (hf fa)), .bool true]) ∧ Wk w' g q sa fa ∧ But2 w w' g q := by
  have hap16 : ∀ w : World, Calls Try.prog 30 #[.agg (rv n m seen (hf f)), .agg #[.int .i64 r0, .int .i64 r1, .int .i64 r2, .int .i64 r3, .int .i64 r4, .int .i64 r5]] w fun e w' => e = .returned (.tuple #[.agg (rv n m sa (hf fa)), .int .i64 c]) ∧ Below w.heap.size w w' := fun w => by
    have hh := apply16_q n m seen f hd hm r0 r1 r2 r3 r4 r5 w
    rw [hap] at hh
    exact hh
  have HAP16 := Aside0.mk hap16
  have HMSG := Aside0.mk hmsg
  have HAP := Aside0.mk hap
  clear hap16 hmsg hap
  rcases hK with rfl | rfl
  all_goals
    have HD := Aside0.mk hd
    have HM := Aside0.mk hm
    have HKD := Aside0.mk hkd
    have HGQ : Aside0 (g < w.heap.size ∧ q < w.heap.size) := ⟨blk_lt h.blk, h.map.lt⟩
    have HK0 := Aside0.mk h
    clear hd hm hkd h
    go_enter Try.func17, Try.ntmps17
    go_wp2_with fail
    refine (kind_q p0 p1 p2 p3 p4 p5 p6 p7 _).mono ?_
    rw [HKD.out]
    rintro e w1 ⟨rfl, hb1⟩
    have HR : Aside0 (IsBlk w1 w.heap.size (rv n m seen (hf f)) 47) := ⟨IsBlk.below (IsBlk.alloc (IsBlk.alloc (IsBlk.new _ _ rfl) _) _) hb1⟩
    have HS : Aside0 (IsBlk w1 (w.heap.size + 1) #[.int .i64 p0, .int .i64 p1, .int .i64 p2, .int .i64 p3, .int .i64 p4, .int .i64 p5, .int .i64 p6, .int .i64 p7] 53) := ⟨IsBlk.below (IsBlk.alloc (IsBlk.new _ _ (by simp)) _) hb1⟩
    have HZ : Aside0 (IsBlk w1 (w.heap.size + 2) Try.zeroCells47 47) := ⟨IsBlk.below (IsBlk.new _ _ (by simp)) hb1⟩
    have HK : Aside0 (Wk w1 g q seen f) := ⟨Wk.below (((HK0.out.alloc _).alloc _).alloc _) hb1⟩
    have HB : Aside0 (But2 w w1 g q) := ⟨But2.below ((((But2.refl w g q).alloc _).alloc _).alloc _) hb1⟩
    clear HK0 hb1
    go_upto_region 4 with fail
    have S_0 : w1.cell? ⟨w.heap.size + 1, 0, none⟩ = some (.int .i64 p0) := blk_cell HS.out 0
    have S_1 : w1.cell? ⟨w.heap.size + 1, 1, none⟩ = some (.int .i64 p1) := blk_cell HS.out 1
    have S_2 : w1.cell? ⟨w.heap.size + 1, 2, none⟩ = some (.int .i64 p2) := blk_cell HS.out 2
    have S_3 : w1.cell? ⟨w.heap.size + 1, 3, none⟩ = some (.int .i64 p3) := blk_cell HS.out 3
    have S_4 : w1.cell? ⟨w.heap.size + 1, 4, none⟩ = some (.int .i64 p4) := blk_cell HS.out 4
    have S_5 : w1.cell? ⟨w.heap.size + 1, 5, none⟩ = some (.int .i64 p5) := blk_cell HS.out 5
    have S_6 : w1.cell? ⟨w.heap.size + 1, 6, none⟩ = some (.int .i64 p6) := blk_cell HS.out 6
    have S_7 : w1.cell? ⟨w.heap.size + 1, 7, none⟩ = some (.int .i64 p7) := blk_cell HS.out 7
    refine start_ (n := 10) (S := fun w' => IsBlk w' w.heap.size (rv n m seen (hf f)) 47 ∧ w'.cell? ⟨w.heap.size + 1, 0, none⟩ = some (.int .i64 p0) ∧ w'.cell? ⟨w.heap.size + 1, 1, none⟩ = some (.int .i64 p1) ∧ w'.cell? ⟨w.heap.size + 1, 2, none⟩ = some (.int .i64 p2) ∧ w'.cell? ⟨w.heap.size + 1, 3, none⟩ = some (.int .i64 p3) ∧ w'.cell? ⟨w.heap.size + 1, 4, none⟩ = some (.int .i64 p4) ∧ w'.cell? ⟨w.heap.size + 1, 5, none⟩ = some (.int .i64 p5) ∧ w'.cell? ⟨w.heap.size + 1, 6, none⟩ = some (.int .i64 p6) ∧ w'.cell? ⟨w.heap.size + 1, 7, none⟩ = some (.int .i64 p7)) (ds := [8]) #[false, false, false, false, false, false, false, false, false, false] (by kernel_rfl) rfl rfl ⟨HR.out.drew, S_0, S_1, S_2, S_3, S_4, S_5, S_6, S_7⟩ (fun hHeld => ?_)
    refine take_ (i := 0) (N := some 24) (v := ?_) (a' := ?_) #[true, false, false, false, false, false, false, false, false, false] rfl rfl (by kernel_rfl) (fun _ _ _ h => h) (Or.inl ⟨by rfl, ?_⟩) hHeld ?_ ?_
    rotate_left
    · rintro w' ⟨s0, s1, s2, s3, s4, s5, s6, s7, s8⟩
      (refine execW (x := Operand.tmp 4) w.heap.size (rv n m seen (hf f)) ?_ ?_ ?_ ?_; (first | rfl); (first | rfl); assumption; exact rv_size _ _ _ _)
    rotate_left
    · simp only [Act.put, List.setIfInBounds_toArray, List.set_cons_zero, List.set_cons_succ, i64_w, i32_w]
      rfl
    refine take_ (i := 1) (N := some 25) (v := ?_) (a' := ?_) #[true, true, false, false, false, false, false, false, false, false] rfl rfl (by kernel_rfl) (fun _ _ _ h => h) (Or.inl ⟨by rfl, ?_⟩) hHeld ?_ ?_
    rotate_left
    · rintro w' ⟨s0, s1, s2, s3, s4, s5, s6, s7, s8⟩
      go_simp
      with_reducible rfl
    rotate_left
    · simp only [Act.put, List.setIfInBounds_toArray, List.set_cons_zero, List.set_cons_succ, i64_w, i32_w]
      rfl
    refine join_ (σ := Nat) 2 #[true, true, true, true, true, true, true, true, false, false] (fun s => [(26, .agg #[.int .i64 r0, .int .i64 r1, .int .i64 r2, .int .i64 r3, .int .i64 r4, .int .i64 r5]), (27, (.tuple #[.agg (rv n m sa (hf fa)), .int .i64 c])), (8, .pointer (some ⟨s, 0, none⟩)), (23, (.tuple #[.agg (rv n m sa (hf fa)), .int .i64 c])), (28, .agg (rv n m sa (hf fa))), (29, .int .i64 c)]) (fun s w' => (IsBlk w' w.heap.size (rv n m seen (hf f)) 47 ∧ w'.cell? ⟨w.heap.size + 1, 0, none⟩ = some (.int .i64 p0) ∧ w'.cell? ⟨w.heap.size + 1, 1, none⟩ = some (.int .i64 p1) ∧ w'.cell? ⟨w.heap.size + 1, 2, none⟩ = some (.int .i64 p2) ∧ w'.cell? ⟨w.heap.size + 1, 3, none⟩ = some (.int .i64 p3) ∧ w'.cell? ⟨w.heap.size + 1, 4, none⟩ = some (.int .i64 p4) ∧ w'.cell? ⟨w.heap.size + 1, 5, none⟩ = some (.int .i64 p5) ∧ w'.cell? ⟨w.heap.size + 1, 6, none⟩ = some (.int .i64 p6) ∧ w'.cell? ⟨w.heap.size + 1, 7, none⟩ = some (.int .i64 p7)) ∧ IsBlk w' s Try.zeroCells47 47 ∧ w.heap.size + 2 < s ∧ IsBlk w' w.heap.size (rv n m seen (hf f)) 47 ∧ IsBlk w' (w.heap.size + 1) #[.int .i64 p0, .int .i64 p1, .int .i64 p2, .int .i64 p3, .int .i64 p4, .int .i64 p5, .int .i64 p6, .int .i64 p7] 53 ∧ IsBlk w' (w.heap.size + 2) Try.zeroCells47 47 ∧ Wk w' g q seen f ∧ But2 w w' g q) ?_ ?_
    rotate_left
    · intro hCont
      refine two_ (i := 2) (j := 7) (Ni := some 26) (Nj := some 8) #[true, true, true, false, false, false, false, false, false, false] #[true, true, false, false, false, false, false, true, false, false] rfl rfl rfl rfl (by kernel_rfl) (by simp) (by simp) (fun K hK => ?_) (fun K hK => ?_)
      · skip
        refine goes_ Try.func31 (by kernel_rfl) rfl #[.agg #[.int .i64 p0, .int .i64 p1, .int .i64 p2, .int .i64 p3, .int .i64 p4, .int .i64 p5, .int .i64 p6, .int .i64 p7]] (by rfl) rfl rfl (by simp only [List.map_toArray, List.map_cons, List.map_nil]; rfl) ?_
        with_reducible refine (HMSG.out _).mono ?_
        rintro e y2 ⟨rfl, hb1⟩
        have HRn : Aside0 (IsBlk y2 w.heap.size (rv n m seen (hf f)) 47) := ⟨IsBlk.below (by repeat (with_reducible first | exact HR.out | apply IsBlk.alloc | apply IsBlk.drew)) hb1⟩
        have HSn : Aside0 (IsBlk y2 (w.heap.size + 1) #[.int .i64 p0, .int .i64 p1, .int .i64 p2, .int .i64 p3, .int .i64 p4, .int .i64 p5, .int .i64 p6, .int .i64 p7] 53) := ⟨IsBlk.below (by repeat (with_reducible first | exact HS.out | apply IsBlk.alloc | apply IsBlk.drew)) hb1⟩
        have HZn : Aside0 (IsBlk y2 (w.heap.size + 2) Try.zeroCells47 47) := ⟨IsBlk.below (by repeat (with_reducible first | exact HZ.out | apply IsBlk.alloc | apply IsBlk.drew)) hb1⟩
        have HKn : Aside0 (Wk y2 g q seen f) := ⟨Wk.below (by repeat (with_reducible first | exact HK.out | apply Wk.alloc | apply Wk.drew)) hb1⟩
        have HBn : Aside0 (But2 w y2 g q) := ⟨But2.below (by repeat (with_reducible first | exact HB.out | apply But2.alloc | apply But2.drew | apply below_alloc | apply below_drew1)) hb1⟩
        clear HR
        have HR := HRn
        clear HRn
        clear HS
        have HS := HSn
        clear HSn
        clear HZ
        have HZ := HZn
        clear HZn
        clear HK
        have HK := HKn
        clear HKn
        clear HB
        have HB := HBn
        clear HBn
        refine ⟨_, rfl, ?_⟩
        refine hK.out _ _ ⟨IsBlk.below hHeld.1 hb1, cell_keep hb1 hHeld.2.1, cell_keep hb1 hHeld.2.2.1, cell_keep hb1 hHeld.2.2.2.1, cell_keep hb1 hHeld.2.2.2.2.1, cell_keep hb1 hHeld.2.2.2.2.2.1, cell_keep hb1 hHeld.2.2.2.2.2.2.1, cell_keep hb1 hHeld.2.2.2.2.2.2.2.1, cell_keep hb1 hHeld.2.2.2.2.2.2.2.2⟩ (fun hHeld => ?_)
        clear hK K
        refine norm_ (a' := ?_) ?_ ?_
        rotate_left
        · show Act.put _ (some 26) _ = _
          simp only [Act.put, List.setIfInBounds_toArray, List.set_cons_zero, List.set_cons_succ, i64_w, i32_w]
          rfl
        refine two_ (i := 3) (j := 7) (Ni := some 27) (Nj := some 8) #[true, true, true, true, false, false, false, false, false, false] #[true, true, true, false, false, false, false, true, false, false] rfl rfl rfl rfl (by kernel_rfl) (by simp) (by simp) (fun K hK => ?_) (fun K hK => ?_)
        · skip
          refine goes_ Try.func30 (by kernel_rfl) rfl #[.agg (rv n m seen (hf f)), .agg #[.int .i64 r0, .int .i64 r1, .int .i64 r2, .int .i64 r3, .int .i64 r4, .int .i64 r5]] (by rfl) rfl rfl (by simp only [List.map_toArray, List.map_cons, List.map_nil]; rfl) ?_
          with_reducible refine (HAP16.out _).mono ?_
          rintro e y3 ⟨rfl, hb1⟩
          have HRn : Aside0 (IsBlk y3 w.heap.size (rv n m seen (hf f)) 47) := ⟨IsBlk.below (by repeat (with_reducible first | exact HR.out | apply IsBlk.alloc | apply IsBlk.drew)) hb1⟩
          have HSn : Aside0 (IsBlk y3 (w.heap.size + 1) #[.int .i64 p0, .int .i64 p1, .int .i64 p2, .int .i64 p3, .int .i64 p4, .int .i64 p5, .int .i64 p6, .int .i64 p7] 53) := ⟨IsBlk.below (by repeat (with_reducible first | exact HS.out | apply IsBlk.alloc | apply IsBlk.drew)) hb1⟩
          have HZn : Aside0 (IsBlk y3 (w.heap.size + 2) Try.zeroCells47 47) := ⟨IsBlk.below (by repeat (with_reducible first | exact HZ.out | apply IsBlk.alloc | apply IsBlk.drew)) hb1⟩
          have HKn : Aside0 (Wk y3 g q seen f) := ⟨Wk.below (by repeat (with_reducible first | exact HK.out | apply Wk.alloc | apply Wk.drew)) hb1⟩
          have HBn : Aside0 (But2 w y3 g q) := ⟨But2.below (by repeat (with_reducible first | exact HB.out | apply But2.alloc | apply But2.drew | apply below_alloc | apply below_drew1)) hb1⟩
          clear HR
          have HR := HRn
          clear HRn
          clear HS
          have HS := HSn
          clear HSn
          clear HZ
          have HZ := HZn
          clear HZn
          clear HK
          have HK := HKn
          clear HKn
          clear HB
          have HB := HBn
          clear HBn
          refine ⟨_, rfl, ?_⟩
          refine hK.out _ _ ⟨IsBlk.below hHeld.1 hb1, cell_keep hb1 hHeld.2.1, cell_keep hb1 hHeld.2.2.1, cell_keep hb1 hHeld.2.2.2.1, cell_keep hb1 hHeld.2.2.2.2.1, cell_keep hb1 hHeld.2.2.2.2.2.1, cell_keep hb1 hHeld.2.2.2.2.2.2.1, cell_keep hb1 hHeld.2.2.2.2.2.2.2.1, cell_keep hb1 hHeld.2.2.2.2.2.2.2.2⟩ (fun hHeld => ?_)
          clear hK K
          refine norm_ (a' := ?_) ?_ ?_
          rotate_left
          · show Act.put _ (some 27) _ = _
            simp only [Act.put, List.setIfInBounds_toArray, List.set_cons_zero, List.set_cons_succ, i64_w, i32_w]
            rfl
          refine pure_ (i := 4) (N := some 23) (v := ?_) (a' := ?_) #[true, true, true, true, true, false, false, false, false, false] rfl rfl (by kernel_rfl) (fun _ _ _ h => h) (Or.inl ⟨by rfl, ?_⟩) ?_ ?_
          rotate_left
          · intro w'
            go_simp
            with_reducible rfl
          rotate_left
          · simp only [Act.put, List.setIfInBounds_toArray, List.set_cons_zero, List.set_cons_succ, i64_w, i32_w]
            rfl
          refine pure_ (i := 5) (N := some 28) (v := ?_) (a' := ?_) #[true, true, true, true, true, true, false, false, false, false] rfl rfl (by kernel_rfl) (fun _ _ _ h => h) (Or.inl ⟨by rfl, ?_⟩) ?_ ?_
          rotate_left
          · intro w'
            go_simp
            with_reducible rfl
          rotate_left
          · simp only [Act.put, List.setIfInBounds_toArray, List.set_cons_zero, List.set_cons_succ, i64_w, i32_w]
            rfl
          refine pure_ (i := 6) (N := some 29) (v := ?_) (a' := ?_) #[true, true, true, true, true, true, true, false, false, false] rfl rfl (by kernel_rfl) (fun _ _ _ h => h) (Or.inl ⟨by rfl, ?_⟩) ?_ ?_
          rotate_left
          · intro w'
            go_simp
            with_reducible rfl
          rotate_left
          · simp only [Act.put, List.setIfInBounds_toArray, List.set_cons_zero, List.set_cons_succ, i64_w, i32_w]
            rfl
          refine one_ (i := 7) (N := some 8) #[true, true, true, true, true, true, true, true, false, false] rfl rfl (by kernel_rfl) (by simp) (fun K hK => ?_)
          refine value_ (w1 := ?_) (v := ?_) (by rfl) rfl ?_ ?_
          rotate_left 2
          · go_simp
            constructor
            · rfl
            · rfl
          have HN := Aside0.mk (show IsBlk (y3.alloc (.cells Try.zeroCells47 47)) y3.heap.size Try.zeroCells47 47 from IsBlk.new _ _ rfl)
          have HLN := Aside0.mk (show w.heap.size + 2 < y3.heap.size from blk_lt (show IsBlk y3 (w.heap.size + 2) Try.zeroCells47 47 from by repeat (with_reducible first | exact HZ.out | apply IsBlk.alloc | apply IsBlk.drew)))
          refine hK.out _ _ ⟨IsBlk.alloc hHeld.1 _, cell_keep (below_alloc (Below.refl _ _) _) hHeld.2.1, cell_keep (below_alloc (Below.refl _ _) _) hHeld.2.2.1, cell_keep (below_alloc (Below.refl _ _) _) hHeld.2.2.2.1, cell_keep (below_alloc (Below.refl _ _) _) hHeld.2.2.2.2.1, cell_keep (below_alloc (Below.refl _ _) _) hHeld.2.2.2.2.2.1, cell_keep (below_alloc (Below.refl _ _) _) hHeld.2.2.2.2.2.2.1, cell_keep (below_alloc (Below.refl _ _) _) hHeld.2.2.2.2.2.2.2.1, cell_keep (below_alloc (Below.refl _ _) _) hHeld.2.2.2.2.2.2.2.2⟩ (fun hHeld => ?_)
          clear hK K
          refine norm_ (a' := ?_) ?_ ?_
          rotate_left
          · show Act.put _ (some 8) _ = _
            simp only [Act.put, List.setIfInBounds_toArray, List.set_cons_zero, List.set_cons_succ, i64_w, i32_w]
            rfl
          exact norm_ (by first | (simp only [putAll, Act.put, List.setIfInBounds_toArray, List.set_cons_zero, List.set_cons_succ]; done) | (simp only [putAll, Act.put, List.setIfInBounds_toArray, List.set_cons_zero, List.set_cons_succ]; rfl)) (hCont _ _ ⟨hHeld, by repeat (with_reducible first | exact HN.out | apply IsBlk.alloc | apply IsBlk.drew), HLN.out, by repeat (with_reducible first | exact HR.out | apply IsBlk.alloc | apply IsBlk.drew), by repeat (with_reducible first | exact HS.out | apply IsBlk.alloc | apply IsBlk.drew), by repeat (with_reducible first | exact HZ.out | apply IsBlk.alloc | apply IsBlk.drew), by repeat (with_reducible first | exact HK.out | apply Wk.alloc | apply Wk.drew), by repeat (with_reducible first | exact HB.out | apply But2.alloc | apply But2.drew | apply below_alloc | apply below_drew1)⟩)
        · skip
          refine value_ (w1 := ?_) (v := ?_) (by rfl) rfl ?_ ?_
          rotate_left 2
          · go_simp
            constructor
            · rfl
            · rfl
          have HN := Aside0.mk (show IsBlk (y2.alloc (.cells Try.zeroCells47 47)) y2.heap.size Try.zeroCells47 47 from IsBlk.new _ _ rfl)
          have HLN := Aside0.mk (show w.heap.size + 2 < y2.heap.size from blk_lt (show IsBlk y2 (w.heap.size + 2) Try.zeroCells47 47 from by repeat (with_reducible first | exact HZ.out | apply IsBlk.alloc | apply IsBlk.drew)))
          refine hK.out _ _ ⟨IsBlk.alloc hHeld.1 _, cell_keep (below_alloc (Below.refl _ _) _) hHeld.2.1, cell_keep (below_alloc (Below.refl _ _) _) hHeld.2.2.1, cell_keep (below_alloc (Below.refl _ _) _) hHeld.2.2.2.1, cell_keep (below_alloc (Below.refl _ _) _) hHeld.2.2.2.2.1, cell_keep (below_alloc (Below.refl _ _) _) hHeld.2.2.2.2.2.1, cell_keep (below_alloc (Below.refl _ _) _) hHeld.2.2.2.2.2.2.1, cell_keep (below_alloc (Below.refl _ _) _) hHeld.2.2.2.2.2.2.2.1, cell_keep (below_alloc (Below.refl _ _) _) hHeld.2.2.2.2.2.2.2.2⟩ (fun hHeld => ?_)
          clear hK K
          refine norm_ (a' := ?_) ?_ ?_
          rotate_left
          · show Act.put _ (some 8) _ = _
            simp only [Act.put, List.setIfInBounds_toArray, List.set_cons_zero, List.set_cons_succ, i64_w, i32_w]
            rfl
          refine one_ (i := 3) (N := some 27) #[true, true, true, true, false, false, false, true, false, false] rfl rfl (by kernel_rfl) (by simp) (fun K hK => ?_)
          refine goes_ Try.func30 (by kernel_rfl) rfl #[.agg (rv n m seen (hf f)), .agg #[.int .i64 r0, .int .i64 r1, .int .i64 r2, .int .i64 r3, .int .i64 r4, .int .i64 r5]] (by rfl) rfl rfl (by simp only [List.map_toArray, List.map_cons, List.map_nil]; rfl) ?_
          with_reducible refine (HAP16.out _).mono ?_
          rintro e y3 ⟨rfl, hb1⟩
          have HRn : Aside0 (IsBlk y3 w.heap.size (rv n m seen (hf f)) 47) := ⟨IsBlk.below (by repeat (with_reducible first | exact HR.out | apply IsBlk.alloc | apply IsBlk.drew)) hb1⟩
          have HSn : Aside0 (IsBlk y3 (w.heap.size + 1) #[.int .i64 p0, .int .i64 p1, .int .i64 p2, .int .i64 p3, .int .i64 p4, .int .i64 p5, .int .i64 p6, .int .i64 p7] 53) := ⟨IsBlk.below (by repeat (with_reducible first | exact HS.out | apply IsBlk.alloc | apply IsBlk.drew)) hb1⟩
          have HZn : Aside0 (IsBlk y3 (w.heap.size + 2) Try.zeroCells47 47) := ⟨IsBlk.below (by repeat (with_reducible first | exact HZ.out | apply IsBlk.alloc | apply IsBlk.drew)) hb1⟩
          have HKn : Aside0 (Wk y3 g q seen f) := ⟨Wk.below (by repeat (with_reducible first | exact HK.out | apply Wk.alloc | apply Wk.drew)) hb1⟩
          have HBn : Aside0 (But2 w y3 g q) := ⟨But2.below (by repeat (with_reducible first | exact HB.out | apply But2.alloc | apply But2.drew | apply below_alloc | apply below_drew1)) hb1⟩
          have HNn : Aside0 (IsBlk y3 y2.heap.size Try.zeroCells47 47) := ⟨IsBlk.below (by repeat (with_reducible first | exact HN.out | apply IsBlk.alloc | apply IsBlk.drew)) hb1⟩
          clear HR
          have HR := HRn
          clear HRn
          clear HS
          have HS := HSn
          clear HSn
          clear HZ
          have HZ := HZn
          clear HZn
          clear HK
          have HK := HKn
          clear HKn
          clear HB
          have HB := HBn
          clear HBn
          clear HN
          have HN := HNn
          clear HNn
          refine ⟨_, rfl, ?_⟩
          refine hK.out _ _ ⟨IsBlk.below hHeld.1 hb1, cell_keep hb1 hHeld.2.1, cell_keep hb1 hHeld.2.2.1, cell_keep hb1 hHeld.2.2.2.1, cell_keep hb1 hHeld.2.2.2.2.1, cell_keep hb1 hHeld.2.2.2.2.2.1, cell_keep hb1 hHeld.2.2.2.2.2.2.1, cell_keep hb1 hHeld.2.2.2.2.2.2.2.1, cell_keep hb1 hHeld.2.2.2.2.2.2.2.2⟩ (fun hHeld => ?_)
          clear hK K
          refine norm_ (a' := ?_) ?_ ?_
          rotate_left
          · show Act.put _ (some 27) _ = _
            simp only [Act.put, List.setIfInBounds_toArray, List.set_cons_zero, List.set_cons_succ, i64_w, i32_w]
            rfl
          refine pure_ (i := 4) (N := some 23) (v := ?_) (a' := ?_) #[true, true, true, true, true, false, false, true, false, false] rfl rfl (by kernel_rfl) (fun _ _ _ h => h) (Or.inl ⟨by rfl, ?_⟩) ?_ ?_
          rotate_left
          · intro w'
            go_simp
            with_reducible rfl
          rotate_left
          · simp only [Act.put, List.setIfInBounds_toArray, List.set_cons_zero, List.set_cons_succ, i64_w, i32_w]
            rfl
          refine pure_ (i := 5) (N := some 28) (v := ?_) (a' := ?_) #[true, true, true, true, true, true, false, true, false, false] rfl rfl (by kernel_rfl) (fun _ _ _ h => h) (Or.inl ⟨by rfl, ?_⟩) ?_ ?_
          rotate_left
          · intro w'
            go_simp
            with_reducible rfl
          rotate_left
          · simp only [Act.put, List.setIfInBounds_toArray, List.set_cons_zero, List.set_cons_succ, i64_w, i32_w]
            rfl
          refine pure_ (i := 6) (N := some 29) (v := ?_) (a' := ?_) #[true, true, true, true, true, true, true, true, false, false] rfl rfl (by kernel_rfl) (fun _ _ _ h => h) (Or.inl ⟨by rfl, ?_⟩) ?_ ?_
          rotate_left
          · intro w'
            go_simp
            with_reducible rfl
          rotate_left
          · simp only [Act.put, List.setIfInBounds_toArray, List.set_cons_zero, List.set_cons_succ, i64_w, i32_w]
            rfl
          exact norm_ (by first | (simp only [putAll, Act.put, List.setIfInBounds_toArray, List.set_cons_zero, List.set_cons_succ]; done) | (simp only [putAll, Act.put, List.setIfInBounds_toArray, List.set_cons_zero, List.set_cons_succ]; rfl)) (hCont _ _ ⟨hHeld, by repeat (with_reducible first | exact HN.out | apply IsBlk.alloc | apply IsBlk.drew), HLN.out, by repeat (with_reducible first | exact HR.out | apply IsBlk.alloc | apply IsBlk.drew), by repeat (with_reducible first | exact HS.out | apply IsBlk.alloc | apply IsBlk.drew), by repeat (with_reducible first | exact HZ.out | apply IsBlk.alloc | apply IsBlk.drew), by repeat (with_reducible first | exact HK.out | apply Wk.alloc | apply Wk.drew), by repeat (with_reducible first | exact HB.out | apply But2.alloc | apply But2.drew | apply below_alloc | apply below_drew1)⟩)
      · skip
        refine value_ (w1 := ?_) (v := ?_) (by rfl) rfl ?_ ?_
        rotate_left 2
        · go_simp
          constructor
          · rfl
          · rfl
        have HN := Aside0.mk (show IsBlk (w1.alloc (.cells Try.zeroCells47 47)) w1.heap.size Try.zeroCells47 47 from IsBlk.new _ _ rfl)
        have HLN := Aside0.mk (show w.heap.size + 2 < w1.heap.size from blk_lt (show IsBlk w1 (w.heap.size + 2) Try.zeroCells47 47 from by repeat (with_reducible first | exact HZ.out | apply IsBlk.alloc | apply IsBlk.drew)))
        refine hK.out _ _ ⟨IsBlk.alloc hHeld.1 _, cell_keep (below_alloc (Below.refl _ _) _) hHeld.2.1, cell_keep (below_alloc (Below.refl _ _) _) hHeld.2.2.1, cell_keep (below_alloc (Below.refl _ _) _) hHeld.2.2.2.1, cell_keep (below_alloc (Below.refl _ _) _) hHeld.2.2.2.2.1, cell_keep (below_alloc (Below.refl _ _) _) hHeld.2.2.2.2.2.1, cell_keep (below_alloc (Below.refl _ _) _) hHeld.2.2.2.2.2.2.1, cell_keep (below_alloc (Below.refl _ _) _) hHeld.2.2.2.2.2.2.2.1, cell_keep (below_alloc (Below.refl _ _) _) hHeld.2.2.2.2.2.2.2.2⟩ (fun hHeld => ?_)
        clear hK K
        refine norm_ (a' := ?_) ?_ ?_
        rotate_left
        · show Act.put _ (some 8) _ = _
          simp only [Act.put, List.setIfInBounds_toArray, List.set_cons_zero, List.set_cons_succ, i64_w, i32_w]
          rfl
        refine one_ (i := 2) (N := some 26) #[true, true, true, false, false, false, false, true, false, false] rfl rfl (by kernel_rfl) (by simp) (fun K hK => ?_)
        refine goes_ Try.func31 (by kernel_rfl) rfl #[.agg #[.int .i64 p0, .int .i64 p1, .int .i64 p2, .int .i64 p3, .int .i64 p4, .int .i64 p5, .int .i64 p6, .int .i64 p7]] (by rfl) rfl rfl (by simp only [List.map_toArray, List.map_cons, List.map_nil]; rfl) ?_
        with_reducible refine (HMSG.out _).mono ?_
        rintro e y2 ⟨rfl, hb1⟩
        have HRn : Aside0 (IsBlk y2 w.heap.size (rv n m seen (hf f)) 47) := ⟨IsBlk.below (by repeat (with_reducible first | exact HR.out | apply IsBlk.alloc | apply IsBlk.drew)) hb1⟩
        have HSn : Aside0 (IsBlk y2 (w.heap.size + 1) #[.int .i64 p0, .int .i64 p1, .int .i64 p2, .int .i64 p3, .int .i64 p4, .int .i64 p5, .int .i64 p6, .int .i64 p7] 53) := ⟨IsBlk.below (by repeat (with_reducible first | exact HS.out | apply IsBlk.alloc | apply IsBlk.drew)) hb1⟩
        have HZn : Aside0 (IsBlk y2 (w.heap.size + 2) Try.zeroCells47 47) := ⟨IsBlk.below (by repeat (with_reducible first | exact HZ.out | apply IsBlk.alloc | apply IsBlk.drew)) hb1⟩
        have HKn : Aside0 (Wk y2 g q seen f) := ⟨Wk.below (by repeat (with_reducible first | exact HK.out | apply Wk.alloc | apply Wk.drew)) hb1⟩
        have HBn : Aside0 (But2 w y2 g q) := ⟨But2.below (by repeat (with_reducible first | exact HB.out | apply But2.alloc | apply But2.drew | apply below_alloc | apply below_drew1)) hb1⟩
        have HNn : Aside0 (IsBlk y2 w1.heap.size Try.zeroCells47 47) := ⟨IsBlk.below (by repeat (with_reducible first | exact HN.out | apply IsBlk.alloc | apply IsBlk.drew)) hb1⟩
        clear HR
        have HR := HRn
        clear HRn
        clear HS
        have HS := HSn
        clear HSn
        clear HZ
        have HZ := HZn
        clear HZn
        clear HK
        have HK := HKn
        clear HKn
        clear HB
        have HB := HBn
        clear HBn
        clear HN
        have HN := HNn
        clear HNn
        refine ⟨_, rfl, ?_⟩
        refine hK.out _ _ ⟨IsBlk.below hHeld.1 hb1, cell_keep hb1 hHeld.2.1, cell_keep hb1 hHeld.2.2.1, cell_keep hb1 hHeld.2.2.2.1, cell_keep hb1 hHeld.2.2.2.2.1, cell_keep hb1 hHeld.2.2.2.2.2.1, cell_keep hb1 hHeld.2.2.2.2.2.2.1, cell_keep hb1 hHeld.2.2.2.2.2.2.2.1, cell_keep hb1 hHeld.2.2.2.2.2.2.2.2⟩ (fun hHeld => ?_)
        clear hK K
        refine norm_ (a' := ?_) ?_ ?_
        rotate_left
        · show Act.put _ (some 26) _ = _
          simp only [Act.put, List.setIfInBounds_toArray, List.set_cons_zero, List.set_cons_succ, i64_w, i32_w]
          rfl
        refine one_ (i := 3) (N := some 27) #[true, true, true, true, false, false, false, true, false, false] rfl rfl (by kernel_rfl) (by simp) (fun K hK => ?_)
        refine goes_ Try.func30 (by kernel_rfl) rfl #[.agg (rv n m seen (hf f)), .agg #[.int .i64 r0, .int .i64 r1, .int .i64 r2, .int .i64 r3, .int .i64 r4, .int .i64 r5]] (by rfl) rfl rfl (by simp only [List.map_toArray, List.map_cons, List.map_nil]; rfl) ?_
        with_reducible refine (HAP16.out _).mono ?_
        rintro e y3 ⟨rfl, hb1⟩
        have HRn : Aside0 (IsBlk y3 w.heap.size (rv n m seen (hf f)) 47) := ⟨IsBlk.below (by repeat (with_reducible first | exact HR.out | apply IsBlk.alloc | apply IsBlk.drew)) hb1⟩
        have HSn : Aside0 (IsBlk y3 (w.heap.size + 1) #[.int .i64 p0, .int .i64 p1, .int .i64 p2, .int .i64 p3, .int .i64 p4, .int .i64 p5, .int .i64 p6, .int .i64 p7] 53) := ⟨IsBlk.below (by repeat (with_reducible first | exact HS.out | apply IsBlk.alloc | apply IsBlk.drew)) hb1⟩
        have HZn : Aside0 (IsBlk y3 (w.heap.size + 2) Try.zeroCells47 47) := ⟨IsBlk.below (by repeat (with_reducible first | exact HZ.out | apply IsBlk.alloc | apply IsBlk.drew)) hb1⟩
        have HKn : Aside0 (Wk y3 g q seen f) := ⟨Wk.below (by repeat (with_reducible first | exact HK.out | apply Wk.alloc | apply Wk.drew)) hb1⟩
        have HBn : Aside0 (But2 w y3 g q) := ⟨But2.below (by repeat (with_reducible first | exact HB.out | apply But2.alloc | apply But2.drew | apply below_alloc | apply below_drew1)) hb1⟩
        have HNn : Aside0 (IsBlk y3 w1.heap.size Try.zeroCells47 47) := ⟨IsBlk.below (by repeat (with_reducible first | exact HN.out | apply IsBlk.alloc | apply IsBlk.drew)) hb1⟩
        clear HR
        have HR := HRn
        clear HRn
        clear HS
        have HS := HSn
        clear HSn
        clear HZ
        have HZ := HZn
        clear HZn
        clear HK
        have HK := HKn
        clear HKn
        clear HB
        have HB := HBn
        clear HBn
        clear HN
        have HN := HNn
        clear HNn
        refine ⟨_, rfl, ?_⟩
        refine hK.out _ _ ⟨IsBlk.below hHeld.1 hb1, cell_keep hb1 hHeld.2.1, cell_keep hb1 hHeld.2.2.1, cell_keep hb1 hHeld.2.2.2.1, cell_keep hb1 hHeld.2.2.2.2.1, cell_keep hb1 hHeld.2.2.2.2.2.1, cell_keep hb1 hHeld.2.2.2.2.2.2.1, cell_keep hb1 hHeld.2.2.2.2.2.2.2.1, cell_keep hb1 hHeld.2.2.2.2.2.2.2.2⟩ (fun hHeld => ?_)
        clear hK K
        refine norm_ (a' := ?_) ?_ ?_
        rotate_left
        · show Act.put _ (some 27) _ = _
          simp only [Act.put, List.setIfInBounds_toArray, List.set_cons_zero, List.set_cons_succ, i64_w, i32_w]
          rfl
        refine pure_ (i := 4) (N := some 23) (v := ?_) (a' := ?_) #[true, true, true, true, true, false, false, true, false, false] rfl rfl (by kernel_rfl) (fun _ _ _ h => h) (Or.inl ⟨by rfl, ?_⟩) ?_ ?_
        rotate_left
        · intro w'
          go_simp
          with_reducible rfl
        rotate_left
        · simp only [Act.put, List.setIfInBounds_toArray, List.set_cons_zero, List.set_cons_succ, i64_w, i32_w]
          rfl
        refine pure_ (i := 5) (N := some 28) (v := ?_) (a' := ?_) #[true, true, true, true, true, true, false, true, false, false] rfl rfl (by kernel_rfl) (fun _ _ _ h => h) (Or.inl ⟨by rfl, ?_⟩) ?_ ?_
        rotate_left
        · intro w'
          go_simp
          with_reducible rfl
        rotate_left
        · simp only [Act.put, List.setIfInBounds_toArray, List.set_cons_zero, List.set_cons_succ, i64_w, i32_w]
          rfl
        refine pure_ (i := 6) (N := some 29) (v := ?_) (a' := ?_) #[true, true, true, true, true, true, true, true, false, false] rfl rfl (by kernel_rfl) (fun _ _ _ h => h) (Or.inl ⟨by rfl, ?_⟩) ?_ ?_
        rotate_left
        · intro w'
          go_simp
          with_reducible rfl
        rotate_left
        · simp only [Act.put, List.setIfInBounds_toArray, List.set_cons_zero, List.set_cons_succ, i64_w, i32_w]
          rfl
        exact norm_ (by first | (simp only [putAll, Act.put, List.setIfInBounds_toArray, List.set_cons_zero, List.set_cons_succ]; done) | (simp only [putAll, Act.put, List.setIfInBounds_toArray, List.set_cons_zero, List.set_cons_succ]; rfl)) (hCont _ _ ⟨hHeld, by repeat (with_reducible first | exact HN.out | apply IsBlk.alloc | apply IsBlk.drew), HLN.out, by repeat (with_reducible first | exact HR.out | apply IsBlk.alloc | apply IsBlk.drew), by repeat (with_reducible first | exact HS.out | apply IsBlk.alloc | apply IsBlk.drew), by repeat (with_reducible first | exact HZ.out | apply IsBlk.alloc | apply IsBlk.drew), by repeat (with_reducible first | exact HK.out | apply Wk.alloc | apply Wk.drew), by repeat (with_reducible first | exact HB.out | apply But2.alloc | apply But2.drew | apply below_alloc | apply below_drew1)⟩)
    rintro s y ⟨hHeld, hN, hLN, hHR, hHS, hHZ, hHK, hHB⟩
    clear HR
    clear HS
    clear HZ
    clear HK
    clear HB
    have HR := Aside0.mk hHR
    have HS := Aside0.mk hHS
    have HZ := Aside0.mk hHZ
    have HK := Aside0.mk hHK
    have HB := Aside0.mk hHB
    have HN := Aside0.mk hN
    have HLN := Aside0.mk hLN
    clear hN hLN hHR hHS hHZ hHK hHB
    refine norm_ (a' := ?_) ?_ ?_
    rotate_left
    · simp only [putAll, Act.put, List.setIfInBounds_toArray, List.set_cons_zero, List.set_cons_succ]
      rfl
    obtain ⟨y8, hrun8, hb8, hg8⟩ := run_storeW s Try.zeroCells47 (rv n m sa (hf fa)) y HN.out z67_size (rv_size _ _ _ _) (rv_one _ _ _ _)
    refine lastStore_ (i := 8) (w1 := y8) #[true, true, true, true, true, true, true, true, true, false] rfl rfl (by kernel_rfl) (by simp) (by rfl) ?_ ?_
    · refine execSW (x := Operand.tmp 8) (y := Operand.tmp 28) s (rv n m sa (hf fa)) ?_ ?_ ?_ hrun8
      · rfl
      · rfl
      · rfl
    refine pure_ (i := 9) (N := some 9) (v := ?_) (a' := ?_) #[true, true, true, true, true, true, true, true, true, true] rfl rfl (by kernel_rfl) (fun _ _ _ h => h) (Or.inl ⟨by rfl, ?_⟩) ?_ ?_
    rotate_left
    · intro w'
      go_simp
      with_reducible rfl
    rotate_left
    · simp only [Act.put, List.setIfInBounds_toArray, List.set_cons_zero, List.set_cons_succ, i64_w, i32_w]
      rfl
    refine done_ (by kernel_rfl) ?_

    have HSn : Aside0 (IsBlk y8 (w.heap.size + 1) #[.int .i64 p0, .int .i64 p1, .int .i64 p2, .int .i64 p3, .int .i64 p4, .int .i64 p5, .int .i64 p6, .int .i64 p7] 53) := ⟨IsBlk.grownBy HS.out hg8 (by have := HLN.out; omega)⟩
    have HZn : Aside0 (IsBlk y8 (w.heap.size + 2) Try.zeroCells47 47) := ⟨IsBlk.grownBy HZ.out hg8 (by have := HLN.out; omega)⟩
    have HKn : Aside0 (Wk y8 g q seen f) := ⟨wk_new HK.out hg8 (by have := HGQ.out; have := HLN.out; omega) (by have := HGQ.out; have := HLN.out; omega)⟩
    have HBn : Aside0 (But2 w y8 g q) := ⟨but_new HB.out hg8 (by have := HLN.out; omega)⟩
    have HNn := Aside0.mk hb8
    clear HR HS HZ HK HB HN hg8 hb8 hrun8 S_0 S_1 S_2 S_3 S_4 S_5 S_6 S_7
    have HS := HSn
    have HZ := HZn
    have HK := HKn
    have HB := HBn
    have HN := HNn
    clear HSn HZn HKn HBn HNn
    go_upto_region 5 with fail
    have S_0 : y8.cell? ⟨w.heap.size + 1, 0, none⟩ = some (.int .i64 p0) := blk_cell HS.out 0
    have S_1 : y8.cell? ⟨w.heap.size + 1, 1, none⟩ = some (.int .i64 p1) := blk_cell HS.out 1
    have S_2 : y8.cell? ⟨w.heap.size + 1, 2, none⟩ = some (.int .i64 p2) := blk_cell HS.out 2
    have S_3 : y8.cell? ⟨w.heap.size + 1, 3, none⟩ = some (.int .i64 p3) := blk_cell HS.out 3
    have S_4 : y8.cell? ⟨w.heap.size + 1, 4, none⟩ = some (.int .i64 p4) := blk_cell HS.out 4
    have S_5 : y8.cell? ⟨w.heap.size + 1, 5, none⟩ = some (.int .i64 p5) := blk_cell HS.out 5
    have S_6 : y8.cell? ⟨w.heap.size + 1, 6, none⟩ = some (.int .i64 p6) := blk_cell HS.out 6
    have S_7 : y8.cell? ⟨w.heap.size + 1, 7, none⟩ = some (.int .i64 p7) := blk_cell HS.out 7
    refine start_ (n := 9) (S := fun w' => IsBlk w' s (rv n m sa (hf fa)) 47 ∧ w'.cell? ⟨w.heap.size + 1, 0, none⟩ = some (.int .i64 p0) ∧ w'.cell? ⟨w.heap.size + 1, 1, none⟩ = some (.int .i64 p1) ∧ w'.cell? ⟨w.heap.size + 1, 2, none⟩ = some (.int .i64 p2) ∧ w'.cell? ⟨w.heap.size + 1, 3, none⟩ = some (.int .i64 p3) ∧ w'.cell? ⟨w.heap.size + 1, 4, none⟩ = some (.int .i64 p4) ∧ w'.cell? ⟨w.heap.size + 1, 5, none⟩ = some (.int .i64 p5) ∧ w'.cell? ⟨w.heap.size + 1, 6, none⟩ = some (.int .i64 p6) ∧ w'.cell? ⟨w.heap.size + 1, 7, none⟩ = some (.int .i64 p7)) (ds := [7]) #[false, false, false, false, false, false, false, false, false] (by kernel_rfl) rfl rfl ⟨(by repeat (with_reducible first | exact HN.out | apply IsBlk.alloc | apply IsBlk.drew)), S_0, S_1, S_2, S_3, S_4, S_5, S_6, S_7⟩ (fun hHeld => ?_)
    refine pure_ (i := 1) (N := some 31) (v := ?_) (a' := ?_) #[false, true, false, false, false, false, false, false, false] rfl rfl (by kernel_rfl) (fun _ _ _ h => h) (Or.inl ⟨by rfl, ?_⟩) ?_ ?_
    rotate_left
    · intro w'
      go_simp
      with_reducible rfl
    rotate_left
    · simp only [Act.put, List.setIfInBounds_toArray, List.set_cons_zero, List.set_cons_succ, i64_w, i32_w]
      rfl
    refine pure_ (i := 5) (N := some 35) (v := ?_) (a' := ?_) #[false, true, false, false, false, true, false, false, false] rfl rfl (by kernel_rfl) (fun _ _ _ h => h) (Or.inl ⟨by rfl, ?_⟩) ?_ ?_
    rotate_left
    · intro w'
      go_simp
      with_reducible rfl
    rotate_left
    · simp only [Act.put, List.setIfInBounds_toArray, List.set_cons_zero, List.set_cons_succ, i64_w, i32_w]
      rfl
    refine take_ (i := 0) (N := some 30) (v := ?_) (a' := ?_) #[true, true, false, false, false, true, false, false, false] rfl rfl (by kernel_rfl) (fun _ _ _ h => h) (Or.inl ⟨by rfl, ?_⟩) hHeld ?_ ?_
    rotate_left
    · rintro w' ⟨s0, s1, s2, s3, s4, s5, s6, s7, s8⟩
      (refine execW (x := Operand.tmp 8) s (rv n m sa (hf fa)) ?_ ?_ ?_ ?_; rfl; rfl; assumption; exact rv_size _ _ _ _)
    rotate_left
    · simp only [Act.put, List.setIfInBounds_toArray, List.set_cons_zero, List.set_cons_succ, i64_w, i32_w]
      rfl
    refine take_ (i := 2) (N := some 32) (v := ?_) (a' := ?_) #[true, true, true, false, false, true, false, false, false] rfl rfl (by kernel_rfl) (fun _ _ _ h => h) (Or.inl ⟨by rfl, ?_⟩) hHeld ?_ ?_
    rotate_left
    · rintro w' ⟨s0, s1, s2, s3, s4, s5, s6, s7, s8⟩
      go_simp
      with_reducible rfl
    rotate_left
    · simp only [Act.put, List.setIfInBounds_toArray, List.set_cons_zero, List.set_cons_succ, i64_w, i32_w]
      rfl
    refine one_ (i := 3) (N := some 33) #[true, true, true, true, false, true, false, false, false] rfl rfl (by kernel_rfl) (by simp) (fun K hK => ?_)
    refine goes_ Try.func31 (by kernel_rfl) rfl #[.agg #[.int .i64 p0, .int .i64 p1, .int .i64 p2, .int .i64 p3, .int .i64 p4, .int .i64 p5, .int .i64 p6, .int .i64 p7]] (by rfl) rfl rfl (by simp only [List.map_toArray, List.map_cons, List.map_nil]; rfl) ?_
    with_reducible refine (HMSG.out _).mono ?_
    rintro e y1 ⟨rfl, hb1⟩
    have HSn : Aside0 (IsBlk y1 (w.heap.size + 1) #[.int .i64 p0, .int .i64 p1, .int .i64 p2, .int .i64 p3, .int .i64 p4, .int .i64 p5, .int .i64 p6, .int .i64 p7] 53) := ⟨IsBlk.below (by repeat (with_reducible first | exact HS.out | apply IsBlk.alloc | apply IsBlk.drew)) hb1⟩
    clear HS
    have HS := HSn
    clear HSn
    have HZn : Aside0 (IsBlk y1 (w.heap.size + 2) Try.zeroCells47 47) := ⟨IsBlk.below (by repeat (with_reducible first | exact HZ.out | apply IsBlk.alloc | apply IsBlk.drew)) hb1⟩
    clear HZ
    have HZ := HZn
    clear HZn
    have HKn : Aside0 (Wk y1 g q seen f) := ⟨Wk.below (by repeat (with_reducible first | exact HK.out | apply Wk.alloc | apply Wk.drew)) hb1⟩
    clear HK
    have HK := HKn
    clear HKn
    have HBn : Aside0 (But2 w y1 g q) := ⟨But2.below (by repeat (with_reducible first | exact HB.out | apply But2.alloc | apply But2.drew | apply below_alloc | apply below_drew1)) hb1⟩
    clear HB
    have HB := HBn
    clear HBn
    refine ⟨_, rfl, ?_⟩
    refine hK.out _ _ ⟨IsBlk.below hHeld.1 hb1, cell_keep hb1 hHeld.2.1, cell_keep hb1 hHeld.2.2.1, cell_keep hb1 hHeld.2.2.2.1, cell_keep hb1 hHeld.2.2.2.2.1, cell_keep hb1 hHeld.2.2.2.2.2.1, cell_keep hb1 hHeld.2.2.2.2.2.2.1, cell_keep hb1 hHeld.2.2.2.2.2.2.2.1, cell_keep hb1 hHeld.2.2.2.2.2.2.2.2⟩ (fun hHeld => ?_)
    clear hK K
    refine norm_ (a' := ?_) ?_ ?_
    rotate_left
    · show Act.put _ (some 33) _ = _
      simp only [Act.put, List.setIfInBounds_toArray, List.set_cons_zero, List.set_cons_succ, i64_w, i32_w]
      rfl
    refine one_ (i := 4) (N := some 34) #[true, true, true, true, true, true, false, false, false] rfl rfl (by kernel_rfl) (by simp) (fun K hK => ?_)
    refine goes_ Try.func12 (by kernel_rfl) rfl #[.pointer (some ⟨g, 0, none⟩), .agg #[.int .i64 r0, .int .i64 r1, .int .i64 r2, .int .i64 r3, .int .i64 r4, .int .i64 r5]] (by rfl) rfl rfl (by simp only [List.map_toArray, List.map_cons, List.map_nil]; rfl) ?_
    with_reducible refine (apply_q g q seen f r0 r1 r2 r3 r4 r5 _ (by repeat (with_reducible first | exact HK.out | apply Wk.alloc | apply Wk.drew))).mono ?_
    rw [HAP.out]
    rintro e y2 ⟨rfl, hk, hbt⟩
    dsimp only at hk
    have hbt' := Aside0.mk hbt
    have HKn := Aside0.mk hk
    have HBn : Aside0 (But2 w y2 g q) := ⟨But2.trans (by repeat (with_reducible first | exact HB.out | apply But2.alloc | apply But2.drew | apply below_alloc | apply below_drew1)) hbt⟩
    have HSn : Aside0 (IsBlk y2 (w.heap.size + 1) #[.int .i64 p0, .int .i64 p1, .int .i64 p2, .int .i64 p3, .int .i64 p4, .int .i64 p5, .int .i64 p6, .int .i64 p7] 53) := ⟨IsBlk.but (by repeat (with_reducible first | exact HS.out | apply IsBlk.alloc | apply IsBlk.drew)) hbt (by have := HGQ.out; omega) (by have := HGQ.out; omega)⟩
    have HZn : Aside0 (IsBlk y2 (w.heap.size + 2) Try.zeroCells47 47) := ⟨IsBlk.but (by repeat (with_reducible first | exact HZ.out | apply IsBlk.alloc | apply IsBlk.drew)) hbt (by have := HGQ.out; omega) (by have := HGQ.out; omega)⟩
    clear HK HB HS HZ hk hbt
    have HK := HKn
    have HB := HBn
    have HS := HSn
    have HZ := HZn
    clear HKn HBn HSn HZn
    refine ⟨_, rfl, ?_⟩
    refine hK.out _ _ ⟨IsBlk.but hHeld.1 hbt'.out (by have := HGQ.out; have := HLN.out; omega) (by have := HGQ.out; have := HLN.out; omega), cell_but hbt'.out (by have := HGQ.out; omega) (by have := HGQ.out; omega) hHeld.2.1, cell_but hbt'.out (by have := HGQ.out; omega) (by have := HGQ.out; omega) hHeld.2.2.1, cell_but hbt'.out (by have := HGQ.out; omega) (by have := HGQ.out; omega) hHeld.2.2.2.1, cell_but hbt'.out (by have := HGQ.out; omega) (by have := HGQ.out; omega) hHeld.2.2.2.2.1, cell_but hbt'.out (by have := HGQ.out; omega) (by have := HGQ.out; omega) hHeld.2.2.2.2.2.1, cell_but hbt'.out (by have := HGQ.out; omega) (by have := HGQ.out; omega) hHeld.2.2.2.2.2.2.1, cell_but hbt'.out (by have := HGQ.out; omega) (by have := HGQ.out; omega) hHeld.2.2.2.2.2.2.2.1, cell_but hbt'.out (by have := HGQ.out; omega) (by have := HGQ.out; omega) hHeld.2.2.2.2.2.2.2.2⟩ (fun hHeld => ?_)
    clear hK K
    refine norm_ (a' := ?_) ?_ ?_
    rotate_left
    · show Act.put _ (some 34) _ = _
      simp only [Act.put, List.setIfInBounds_toArray, List.set_cons_zero, List.set_cons_succ, i64_w, i32_w]
      rfl
    refine pure_ (i := 6) (N := some 36) (v := ?_) (a' := ?_) #[true, true, true, true, true, true, true, false, false] rfl rfl (by kernel_rfl) (fun _ _ _ h => h) (Or.inl ⟨by rfl, ?_⟩) ?_ ?_
    rotate_left
    · intro w'
      go_simp
      with_reducible rfl
    rotate_left
    · simp only [Act.put, List.setIfInBounds_toArray, List.set_cons_zero, List.set_cons_succ, i64_w, i32_w]
      rfl
    obtain ⟨y9, hrun9, hb9, hg9⟩ := run_storeW (w.heap.size + 2) Try.zeroCells47 (rv n m sa (hf fa)) _ (by repeat (with_reducible first | exact HZ.out | apply IsBlk.alloc | apply IsBlk.drew)) z67_size (rv_size _ _ _ _) (rv_one _ _ _ _)
    refine lastStore_ (i := 7) (w1 := y9) #[true, true, true, true, true, true, true, true, false] rfl rfl (by kernel_rfl) (by simp) (by rfl) ?_ ?_
    · refine execSW (x := Operand.tmp 6) (y := Operand.tmp 30) (w.heap.size + 2) (rv n m sa (hf fa)) ?_ ?_ ?_ hrun9
      · rfl
      · rfl
      · rfl
    refine pure_ (i := 8) (N := some 7) (v := ?_) (a' := ?_) #[true, true, true, true, true, true, true, true, true] rfl rfl (by kernel_rfl) (fun _ _ _ h => h) (Or.inl ⟨by rfl, ?_⟩) ?_ ?_
    rotate_left
    · intro w'
      go_simp
      with_reducible rfl
    rotate_left
    · simp only [Act.put, List.setIfInBounds_toArray, List.set_cons_zero, List.set_cons_succ, i64_w, i32_w]
      rfl
    refine done_ (by kernel_rfl) ?_

    go_wp2
    refine retW Try.results17 (w.heap.size + 2) (rv n m sa (hf fa)) _ rfl rfl hb9 (rv_size _ _ _ _) rfl ⟨rfl, ?_⟩
    exact ⟨wk_new (by repeat (with_reducible first | exact HK.out | apply Wk.alloc | apply Wk.drew)) hg9 (by have := HGQ.out; omega) (by have := HGQ.out; omega), but_new (by repeat (with_reducible first | exact HB.out | apply But2.alloc | apply But2.drew | apply below_alloc | apply below_drew1)) hg9 (by omega)⟩
set_option maxRecDepth 100000 in
set_option maxHeartbeats 8000000 in
theorem does_2 (n m seen : Int) (g q : Nat) (f : Int → Option Sl) (p0 p1 p2 p3 p4 p5 p6 p7 : Int) (y : Bool) (fa : Int → Option Sl) (w : World) (hd : Dom n m f) (hm : 1 ≤ m ∧ m ≤ 16) (h : Wk w g q seen f) (hkd : near p0 6 = 2) (hap : app f p1 (fun s => goes s) = (fa, y)) : Calls Try.prog 17 #[.pointer (some ⟨g, 0, none⟩), .agg (rv n m seen (hf f)), .agg #[.int .i64 p0, .int .i64 p1, .int .i64 p2, .int .i64 p3, .int .i64 p4, .int .i64 p5, .int .i64 p6, .int .i64 p7]] w fun e w' => e = .returned (.tuple #[.agg (rv n m seen (hf fa)), .bool true]) ∧ Wk w' g q seen fa ∧ But2 w w' g q := by
  have hap16 : ∀ w : World, Calls Try.prog 32 #[.agg (rv n m seen (hf f)), .int .i64 p1, .int .i64 1] w fun e w' => e = .returned (.tuple #[.agg (rv n m seen (hf fa)), .bool y]) ∧ Below w.heap.size w w' := fun w => by
    have hh := go16_q n m seen f hd hm p1 w
    rw [hap] at hh
    exact hh
  have hapw : ∀ w : World, Wk w g q seen f → Calls Try.prog 20 #[.pointer (some ⟨g, 0, none⟩), .int .i64 p1] w fun e w' => e = .returned (.bool y) ∧ Wk w' g q seen fa ∧ But2 w w' g q := fun w hk => by
    have hh := go_w g q seen f p1 w hk
    rw [hap] at hh
    exact hh.mono fun e w' ⟨h1, h2, h3⟩ => ⟨h1, h2, But2.of_two h3 g⟩
  have HAP16 := Aside0.mk hap16
  have HAPW := Aside0.mk hapw
  clear hap16 hapw hap
  have HD := Aside0.mk hd
  have HM := Aside0.mk hm
  have HKD := Aside0.mk hkd
  have HGQ : Aside0 (g < w.heap.size ∧ q < w.heap.size) := ⟨blk_lt h.blk, h.map.lt⟩
  have HK0 := Aside0.mk h
  clear hd hm hkd h
  go_enter Try.func17, Try.ntmps17
  go_wp2_with fail
  refine (kind_q p0 p1 p2 p3 p4 p5 p6 p7 _).mono ?_
  rw [HKD.out]
  rintro e w1 ⟨rfl, hb1⟩
  have HR : Aside0 (IsBlk w1 w.heap.size (rv n m seen (hf f)) 47) := ⟨IsBlk.below (IsBlk.alloc (IsBlk.alloc (IsBlk.new _ _ rfl) _) _) hb1⟩
  have HS : Aside0 (IsBlk w1 (w.heap.size + 1) #[.int .i64 p0, .int .i64 p1, .int .i64 p2, .int .i64 p3, .int .i64 p4, .int .i64 p5, .int .i64 p6, .int .i64 p7] 53) := ⟨IsBlk.below (IsBlk.alloc (IsBlk.new _ _ (by simp)) _) hb1⟩
  have HZ : Aside0 (IsBlk w1 (w.heap.size + 2) Try.zeroCells47 47) := ⟨IsBlk.below (IsBlk.new _ _ (by simp)) hb1⟩
  have HK : Aside0 (Wk w1 g q seen f) := ⟨Wk.below (((HK0.out.alloc _).alloc _).alloc _) hb1⟩
  have HB : Aside0 (But2 w w1 g q) := ⟨But2.below ((((But2.refl w g q).alloc _).alloc _).alloc _) hb1⟩
  clear HK0 hb1
  have S_1 : w1.cell? ⟨w.heap.size + 1, 1, none⟩ = some (.int .i64 p1) := blk_cell HS.out 1
  go_wp2_with ((with_reducible refine wpList_loadW w.heap.size (rv n m seen (hf f)) ?_ ?_ (rv_size _ _ _ _) ?_); rfl; exact (by repeat (with_reducible first | exact HR.out | apply IsBlk.alloc | apply IsBlk.drew)))
  refine (HAP16.out _).mono ?_
  rintro e w2 ⟨rfl, hb1⟩
  have HSn : Aside0 (IsBlk w2 (w.heap.size + 1) #[.int .i64 p0, .int .i64 p1, .int .i64 p2, .int .i64 p3, .int .i64 p4, .int .i64 p5, .int .i64 p6, .int .i64 p7] 53) := ⟨IsBlk.below HS.out hb1⟩
  have HZn : Aside0 (IsBlk w2 (w.heap.size + 2) Try.zeroCells47 47) := ⟨IsBlk.below HZ.out hb1⟩
  have HKn : Aside0 (Wk w2 g q seen f) := ⟨Wk.below HK.out hb1⟩
  have HBn : Aside0 (But2 w w2 g q) := ⟨But2.below HB.out hb1⟩
  clear HR HS HZ HK HB hb1 S_1
  have HS := HSn
  have HZ := HZn
  have HK := HKn
  have HB := HBn
  have HLN := Aside0.mk (show w.heap.size + 2 < w2.heap.size from blk_lt HZ.out)
  clear HSn HZn HKn HBn
  go_upto_region 8 with ((with_reducible refine wpList_storeW w2.heap.size Try.zeroCells47 (rv n m seen (hf fa)) ?_ ?_ ?_ z67_size (rv_size _ _ _ _) (rv_one _ _ _ _) ?_); rfl; rfl; exact IsBlk.new _ _ rfl; intro y8 hb8 hg8)
  have HSn : Aside0 (IsBlk y8 (w.heap.size + 1) #[.int .i64 p0, .int .i64 p1, .int .i64 p2, .int .i64 p3, .int .i64 p4, .int .i64 p5, .int .i64 p6, .int .i64 p7] 53) := ⟨IsBlk.grownBy (HS.out.alloc _) hg8 (by have := HLN.out; omega)⟩
  have HZn : Aside0 (IsBlk y8 (w.heap.size + 2) Try.zeroCells47 47) := ⟨IsBlk.grownBy (HZ.out.alloc _) hg8 (by have := HLN.out; omega)⟩
  have HKn : Aside0 (Wk y8 g q seen f) := ⟨wk_new (HK.out.alloc _) hg8 (by have := HGQ.out; have := HLN.out; omega) (by have := HGQ.out; have := HLN.out; omega)⟩
  have HBn : Aside0 (But2 w y8 g q) := ⟨but_new (HB.out.alloc _) hg8 (by have := HLN.out; omega)⟩
  have HNn := Aside0.mk hb8
  clear HS HZ HK HB hg8 hb8
  have HS := HSn
  have HZ := HZn
  have HK := HKn
  have HB := HBn
  have HN := HNn
  clear HSn HZn HKn HBn HNn
  obtain ⟨s, hs⟩ : ∃ s, w2.heap.size = s := ⟨_, rfl⟩
  rw [hs] at HLN HN ⊢
  clear hs
  have S_1 : y8.cell? ⟨w.heap.size + 1, 1, none⟩ = some (.int .i64 p1) := blk_cell HS.out 1
  refine start_ (n := 9) (S := fun w' => IsBlk w' s (rv n m seen (hf fa)) 47 ∧ w'.cell? ⟨w.heap.size + 1, 1, none⟩ = some (.int .i64 p1)) (ds := [7]) #[false, false, false, false, false, false, false, false, false] (by kernel_rfl) rfl rfl ⟨(by repeat (with_reducible first | exact HN.out | apply IsBlk.alloc | apply IsBlk.drew)), S_1⟩ (fun hHeld => ?_)
  refine pure_ (i := 1) (N := some 47) (v := ?_) (a' := ?_) #[false, true, false, false, false, false, false, false, false] rfl rfl (by kernel_rfl) (fun _ _ _ h => h) (Or.inl ⟨by rfl, ?_⟩) ?_ ?_
  rotate_left
  · intro w'
    go_simp
    with_reducible rfl
  rotate_left
  · simp only [Act.put, List.setIfInBounds_toArray, List.set_cons_zero, List.set_cons_succ, i64_w, i32_w]
    rfl
  refine pure_ (i := 2) (N := some 48) (v := ?_) (a' := ?_) #[false, true, true, false, false, false, false, false, false] rfl rfl (by kernel_rfl) (fun _ _ _ h => h) (Or.inl ⟨by rfl, ?_⟩) ?_ ?_
  rotate_left
  · intro w'
    go_simp
    with_reducible rfl
  rotate_left
  · simp only [Act.put, List.setIfInBounds_toArray, List.set_cons_zero, List.set_cons_succ, i64_w, i32_w]
    rfl
  refine pure_ (i := 5) (N := some 51) (v := ?_) (a' := ?_) #[false, true, true, false, false, true, false, false, false] rfl rfl (by kernel_rfl) (fun _ _ _ h => h) (Or.inl ⟨by rfl, ?_⟩) ?_ ?_
  rotate_left
  · intro w'
    go_simp
    with_reducible rfl
  rotate_left
  · simp only [Act.put, List.setIfInBounds_toArray, List.set_cons_zero, List.set_cons_succ, i64_w, i32_w]
    rfl
  refine take_ (i := 0) (N := some 46) (v := ?_) (a' := ?_) #[true, true, true, false, false, true, false, false, false] rfl rfl (by kernel_rfl) (fun _ _ _ h => h) (Or.inl ⟨by rfl, ?_⟩) hHeld ?_ ?_
  rotate_left
  · rintro w' ⟨s0, s1⟩
    (refine execW (x := Operand.tmp 10) s (rv n m seen (hf fa)) ?_ ?_ ?_ ?_; rfl; rfl; assumption; exact rv_size _ _ _ _)
  rotate_left
  · simp only [Act.put, List.setIfInBounds_toArray, List.set_cons_zero, List.set_cons_succ, i64_w, i32_w]
    rfl
  refine take_ (i := 3) (N := some 49) (v := ?_) (a' := ?_) #[true, true, true, true, false, true, false, false, false] rfl rfl (by kernel_rfl) (fun _ _ _ h => h) (Or.inl ⟨by rfl, ?_⟩) hHeld ?_ ?_
  rotate_left
  · rintro w' ⟨s0, s1⟩
    go_simp
    with_reducible rfl
  rotate_left
  · simp only [Act.put, List.setIfInBounds_toArray, List.set_cons_zero, List.set_cons_succ, i64_w, i32_w]
    rfl
  refine one_ (i := 4) (N := some 50) #[true, true, true, true, true, true, false, false, false] rfl rfl (by kernel_rfl) (by simp) (fun K hK => ?_)
  refine goes_ Try.func20 (by kernel_rfl) rfl #[.pointer (some ⟨g, 0, none⟩), .int .i64 p1] (by rfl) rfl rfl (by simp only [List.map_toArray, List.map_cons, List.map_nil]; rfl) ?_
  with_reducible refine (HAPW.out _ (by repeat (with_reducible first | exact HK.out | apply Wk.alloc | apply Wk.drew))).mono ?_
  rintro e y2 ⟨rfl, hk, hbt⟩
  have hbt' := Aside0.mk hbt
  have HKn := Aside0.mk hk
  have HBn : Aside0 (But2 w y2 g q) := ⟨But2.trans (by repeat (with_reducible first | exact HB.out | apply But2.alloc | apply But2.drew | apply below_alloc | apply below_drew1)) hbt⟩
  have HSn : Aside0 (IsBlk y2 (w.heap.size + 1) #[.int .i64 p0, .int .i64 p1, .int .i64 p2, .int .i64 p3, .int .i64 p4, .int .i64 p5, .int .i64 p6, .int .i64 p7] 53) := ⟨IsBlk.but (by repeat (with_reducible first | exact HS.out | apply IsBlk.alloc | apply IsBlk.drew)) hbt (by have := HGQ.out; omega) (by have := HGQ.out; omega)⟩
  have HZn : Aside0 (IsBlk y2 (w.heap.size + 2) Try.zeroCells47 47) := ⟨IsBlk.but (by repeat (with_reducible first | exact HZ.out | apply IsBlk.alloc | apply IsBlk.drew)) hbt (by have := HGQ.out; omega) (by have := HGQ.out; omega)⟩
  clear HK HB HS HZ hk hbt
  have HK := HKn
  have HB := HBn
  have HS := HSn
  have HZ := HZn
  clear HKn HBn HSn HZn
  refine ⟨_, rfl, ?_⟩
  refine hK.out _ _ ⟨IsBlk.but hHeld.1 hbt'.out (by have := HGQ.out; have := HLN.out; omega) (by have := HGQ.out; have := HLN.out; omega), cell_but hbt'.out (by have := HGQ.out; omega) (by have := HGQ.out; omega) hHeld.2⟩ (fun hHeld => ?_)
  clear hK K
  refine norm_ (a' := ?_) ?_ ?_
  rotate_left
  · show Act.put _ (some 50) _ = _
    simp only [Act.put, List.setIfInBounds_toArray, List.set_cons_zero, List.set_cons_succ, i64_w, i32_w]
    rfl
  refine pure_ (i := 6) (N := some 52) (v := ?_) (a' := ?_) #[true, true, true, true, true, true, true, false, false] rfl rfl (by kernel_rfl) (fun _ _ _ h => h) (Or.inl ⟨by rfl, ?_⟩) ?_ ?_
  rotate_left
  · intro w'
    go_simp
    with_reducible rfl
  rotate_left
  · simp only [Act.put, List.setIfInBounds_toArray, List.set_cons_zero, List.set_cons_succ, i64_w, i32_w]
    rfl
  obtain ⟨y9, hrun9, hb9, hg9⟩ := run_storeW (w.heap.size + 2) Try.zeroCells47 (rv n m seen (hf fa)) _ (by repeat (with_reducible first | exact HZ.out | apply IsBlk.alloc | apply IsBlk.drew)) z67_size (rv_size _ _ _ _) (rv_one _ _ _ _)
  refine lastStore_ (i := 7) (w1 := y9) #[true, true, true, true, true, true, true, true, false] rfl rfl (by kernel_rfl) (by simp) (by rfl) ?_ ?_
  · refine execSW (x := Operand.tmp 6) (y := Operand.tmp 46) (w.heap.size + 2) (rv n m seen (hf fa)) ?_ ?_ ?_ hrun9
    · rfl
    · rfl
    · rfl
  refine pure_ (i := 8) (N := some 7) (v := ?_) (a' := ?_) #[true, true, true, true, true, true, true, true, true] rfl rfl (by kernel_rfl) (fun _ _ _ h => h) (Or.inl ⟨by rfl, ?_⟩) ?_ ?_
  rotate_left
  · intro w'
    go_simp
    with_reducible rfl
  rotate_left
  · simp only [Act.put, List.setIfInBounds_toArray, List.set_cons_zero, List.set_cons_succ, i64_w, i32_w]
    rfl
  refine done_ (by kernel_rfl) ?_

  go_wp2
  refine retW Try.results17 (w.heap.size + 2) (rv n m seen (hf fa)) _ rfl rfl hb9 (rv_size _ _ _ _) rfl ⟨rfl, ?_⟩
  exact ⟨wk_new (by repeat (with_reducible first | exact HK.out | apply Wk.alloc | apply Wk.drew)) hg9 (by have := HGQ.out; omega) (by have := HGQ.out; omega), but_new (by repeat (with_reducible first | exact HB.out | apply But2.alloc | apply But2.drew | apply below_alloc | apply below_drew1)) hg9 (by omega)⟩
set_option maxRecDepth 100000 in
set_option maxHeartbeats 8000000 in
theorem does_3 (n m seen : Int) (g q : Nat) (f : Int → Option Sl) (p0 p1 p2 p3 p4 p5 p6 p7 : Int) (y : Bool) (fa : Int → Option Sl) (w : World) (hd : Dom n m f) (hm : 1 ≤ m ∧ m ≤ 16) (h : Wk w g q seen f) (hkd : near p0 6 = 3) (hap : app f p1 (fun s => turns s 2 3) = (fa, y)) : Calls Try.prog 17 #[.pointer (some ⟨g, 0, none⟩), .agg (rv n m seen (hf f)), .agg #[.int .i64 p0, .int .i64 p1, .int .i64 p2, .int .i64 p3, .int .i64 p4, .int .i64 p5, .int .i64 p6, .int .i64 p7]] w fun e w' => e = .returned (.tuple #[.agg (rv n m seen (hf fa)), .bool true]) ∧ Wk w' g q seen fa ∧ But2 w w' g q := by
  have hap16 : ∀ w : World, Calls Try.prog 32 #[.agg (rv n m seen (hf f)), .int .i64 p1, .int .i64 2] w fun e w' => e = .returned (.tuple #[.agg (rv n m seen (hf fa)), .bool y]) ∧ Below w.heap.size w w' := fun w => by
    have hh := hurt16_q n m seen f hd hm p1 w
    rw [hap] at hh
    exact hh
  have hapw : ∀ w : World, Wk w g q seen f → Calls Try.prog 23 #[.pointer (some ⟨g, 0, none⟩), .int .i64 p1] w fun e w' => e = .returned (.bool y) ∧ Wk w' g q seen fa ∧ But2 w w' g q := fun w hk => by
    have hh := hurt_w g q seen f p1 w hk
    rw [hap] at hh
    exact hh.mono fun e w' ⟨h1, h2, h3⟩ => ⟨h1, h2, But2.of_two h3 g⟩
  have HAP16 := Aside0.mk hap16
  have HAPW := Aside0.mk hapw
  clear hap16 hapw hap
  have HD := Aside0.mk hd
  have HM := Aside0.mk hm
  have HKD := Aside0.mk hkd
  have HGQ : Aside0 (g < w.heap.size ∧ q < w.heap.size) := ⟨blk_lt h.blk, h.map.lt⟩
  have HK0 := Aside0.mk h
  clear hd hm hkd h
  go_enter Try.func17, Try.ntmps17
  go_wp2_with fail
  refine (kind_q p0 p1 p2 p3 p4 p5 p6 p7 _).mono ?_
  rw [HKD.out]
  rintro e w1 ⟨rfl, hb1⟩
  have HR : Aside0 (IsBlk w1 w.heap.size (rv n m seen (hf f)) 47) := ⟨IsBlk.below (IsBlk.alloc (IsBlk.alloc (IsBlk.new _ _ rfl) _) _) hb1⟩
  have HS : Aside0 (IsBlk w1 (w.heap.size + 1) #[.int .i64 p0, .int .i64 p1, .int .i64 p2, .int .i64 p3, .int .i64 p4, .int .i64 p5, .int .i64 p6, .int .i64 p7] 53) := ⟨IsBlk.below (IsBlk.alloc (IsBlk.new _ _ (by simp)) _) hb1⟩
  have HZ : Aside0 (IsBlk w1 (w.heap.size + 2) Try.zeroCells47 47) := ⟨IsBlk.below (IsBlk.new _ _ (by simp)) hb1⟩
  have HK : Aside0 (Wk w1 g q seen f) := ⟨Wk.below (((HK0.out.alloc _).alloc _).alloc _) hb1⟩
  have HB : Aside0 (But2 w w1 g q) := ⟨But2.below ((((But2.refl w g q).alloc _).alloc _).alloc _) hb1⟩
  clear HK0 hb1
  have S_1 : w1.cell? ⟨w.heap.size + 1, 1, none⟩ = some (.int .i64 p1) := blk_cell HS.out 1
  go_wp2_with ((with_reducible refine wpList_loadW w.heap.size (rv n m seen (hf f)) ?_ ?_ (rv_size _ _ _ _) ?_); rfl; exact (by repeat (with_reducible first | exact HR.out | apply IsBlk.alloc | apply IsBlk.drew)))
  refine (HAP16.out _).mono ?_
  rintro e w2 ⟨rfl, hb1⟩
  have HSn : Aside0 (IsBlk w2 (w.heap.size + 1) #[.int .i64 p0, .int .i64 p1, .int .i64 p2, .int .i64 p3, .int .i64 p4, .int .i64 p5, .int .i64 p6, .int .i64 p7] 53) := ⟨IsBlk.below HS.out hb1⟩
  have HZn : Aside0 (IsBlk w2 (w.heap.size + 2) Try.zeroCells47 47) := ⟨IsBlk.below HZ.out hb1⟩
  have HKn : Aside0 (Wk w2 g q seen f) := ⟨Wk.below HK.out hb1⟩
  have HBn : Aside0 (But2 w w2 g q) := ⟨But2.below HB.out hb1⟩
  clear HR HS HZ HK HB hb1 S_1
  have HS := HSn
  have HZ := HZn
  have HK := HKn
  have HB := HBn
  have HLN := Aside0.mk (show w.heap.size + 2 < w2.heap.size from blk_lt HZ.out)
  clear HSn HZn HKn HBn
  go_upto_region 11 with ((with_reducible refine wpList_storeW w2.heap.size Try.zeroCells47 (rv n m seen (hf fa)) ?_ ?_ ?_ z67_size (rv_size _ _ _ _) (rv_one _ _ _ _) ?_); rfl; rfl; exact IsBlk.new _ _ rfl; intro y8 hb8 hg8)
  have HSn : Aside0 (IsBlk y8 (w.heap.size + 1) #[.int .i64 p0, .int .i64 p1, .int .i64 p2, .int .i64 p3, .int .i64 p4, .int .i64 p5, .int .i64 p6, .int .i64 p7] 53) := ⟨IsBlk.grownBy (HS.out.alloc _) hg8 (by have := HLN.out; omega)⟩
  have HZn : Aside0 (IsBlk y8 (w.heap.size + 2) Try.zeroCells47 47) := ⟨IsBlk.grownBy (HZ.out.alloc _) hg8 (by have := HLN.out; omega)⟩
  have HKn : Aside0 (Wk y8 g q seen f) := ⟨wk_new (HK.out.alloc _) hg8 (by have := HGQ.out; have := HLN.out; omega) (by have := HGQ.out; have := HLN.out; omega)⟩
  have HBn : Aside0 (But2 w y8 g q) := ⟨but_new (HB.out.alloc _) hg8 (by have := HLN.out; omega)⟩
  have HNn := Aside0.mk hb8
  clear HS HZ HK HB hg8 hb8
  have HS := HSn
  have HZ := HZn
  have HK := HKn
  have HB := HBn
  have HN := HNn
  clear HSn HZn HKn HBn HNn
  obtain ⟨s, hs⟩ : ∃ s, w2.heap.size = s := ⟨_, rfl⟩
  rw [hs] at HLN HN ⊢
  clear hs
  have S_1 : y8.cell? ⟨w.heap.size + 1, 1, none⟩ = some (.int .i64 p1) := blk_cell HS.out 1
  refine start_ (n := 9) (S := fun w' => IsBlk w' s (rv n m seen (hf fa)) 47 ∧ w'.cell? ⟨w.heap.size + 1, 1, none⟩ = some (.int .i64 p1)) (ds := [7]) #[false, false, false, false, false, false, false, false, false] (by kernel_rfl) rfl rfl ⟨(by repeat (with_reducible first | exact HN.out | apply IsBlk.alloc | apply IsBlk.drew)), S_1⟩ (fun hHeld => ?_)
  refine pure_ (i := 1) (N := some 63) (v := ?_) (a' := ?_) #[false, true, false, false, false, false, false, false, false] rfl rfl (by kernel_rfl) (fun _ _ _ h => h) (Or.inl ⟨by rfl, ?_⟩) ?_ ?_
  rotate_left
  · intro w'
    go_simp
    with_reducible rfl
  rotate_left
  · simp only [Act.put, List.setIfInBounds_toArray, List.set_cons_zero, List.set_cons_succ, i64_w, i32_w]
    rfl
  refine pure_ (i := 2) (N := some 64) (v := ?_) (a' := ?_) #[false, true, true, false, false, false, false, false, false] rfl rfl (by kernel_rfl) (fun _ _ _ h => h) (Or.inl ⟨by rfl, ?_⟩) ?_ ?_
  rotate_left
  · intro w'
    go_simp
    with_reducible rfl
  rotate_left
  · simp only [Act.put, List.setIfInBounds_toArray, List.set_cons_zero, List.set_cons_succ, i64_w, i32_w]
    rfl
  refine pure_ (i := 5) (N := some 67) (v := ?_) (a' := ?_) #[false, true, true, false, false, true, false, false, false] rfl rfl (by kernel_rfl) (fun _ _ _ h => h) (Or.inl ⟨by rfl, ?_⟩) ?_ ?_
  rotate_left
  · intro w'
    go_simp
    with_reducible rfl
  rotate_left
  · simp only [Act.put, List.setIfInBounds_toArray, List.set_cons_zero, List.set_cons_succ, i64_w, i32_w]
    rfl
  refine take_ (i := 0) (N := some 62) (v := ?_) (a' := ?_) #[true, true, true, false, false, true, false, false, false] rfl rfl (by kernel_rfl) (fun _ _ _ h => h) (Or.inl ⟨by rfl, ?_⟩) hHeld ?_ ?_
  rotate_left
  · rintro w' ⟨s0, s1⟩
    (refine execW (x := Operand.tmp 12) s (rv n m seen (hf fa)) ?_ ?_ ?_ ?_; rfl; rfl; assumption; exact rv_size _ _ _ _)
  rotate_left
  · simp only [Act.put, List.setIfInBounds_toArray, List.set_cons_zero, List.set_cons_succ, i64_w, i32_w]
    rfl
  refine take_ (i := 3) (N := some 65) (v := ?_) (a' := ?_) #[true, true, true, true, false, true, false, false, false] rfl rfl (by kernel_rfl) (fun _ _ _ h => h) (Or.inl ⟨by rfl, ?_⟩) hHeld ?_ ?_
  rotate_left
  · rintro w' ⟨s0, s1⟩
    go_simp
    with_reducible rfl
  rotate_left
  · simp only [Act.put, List.setIfInBounds_toArray, List.set_cons_zero, List.set_cons_succ, i64_w, i32_w]
    rfl
  refine one_ (i := 4) (N := some 66) #[true, true, true, true, true, true, false, false, false] rfl rfl (by kernel_rfl) (by simp) (fun K hK => ?_)
  refine goes_ Try.func23 (by kernel_rfl) rfl #[.pointer (some ⟨g, 0, none⟩), .int .i64 p1] (by rfl) rfl rfl (by simp only [List.map_toArray, List.map_cons, List.map_nil]; rfl) ?_
  with_reducible refine (HAPW.out _ (by repeat (with_reducible first | exact HK.out | apply Wk.alloc | apply Wk.drew))).mono ?_
  rintro e y2 ⟨rfl, hk, hbt⟩
  have hbt' := Aside0.mk hbt
  have HKn := Aside0.mk hk
  have HBn : Aside0 (But2 w y2 g q) := ⟨But2.trans (by repeat (with_reducible first | exact HB.out | apply But2.alloc | apply But2.drew | apply below_alloc | apply below_drew1)) hbt⟩
  have HSn : Aside0 (IsBlk y2 (w.heap.size + 1) #[.int .i64 p0, .int .i64 p1, .int .i64 p2, .int .i64 p3, .int .i64 p4, .int .i64 p5, .int .i64 p6, .int .i64 p7] 53) := ⟨IsBlk.but (by repeat (with_reducible first | exact HS.out | apply IsBlk.alloc | apply IsBlk.drew)) hbt (by have := HGQ.out; omega) (by have := HGQ.out; omega)⟩
  have HZn : Aside0 (IsBlk y2 (w.heap.size + 2) Try.zeroCells47 47) := ⟨IsBlk.but (by repeat (with_reducible first | exact HZ.out | apply IsBlk.alloc | apply IsBlk.drew)) hbt (by have := HGQ.out; omega) (by have := HGQ.out; omega)⟩
  clear HK HB HS HZ hk hbt
  have HK := HKn
  have HB := HBn
  have HS := HSn
  have HZ := HZn
  clear HKn HBn HSn HZn
  refine ⟨_, rfl, ?_⟩
  refine hK.out _ _ ⟨IsBlk.but hHeld.1 hbt'.out (by have := HGQ.out; have := HLN.out; omega) (by have := HGQ.out; have := HLN.out; omega), cell_but hbt'.out (by have := HGQ.out; omega) (by have := HGQ.out; omega) hHeld.2⟩ (fun hHeld => ?_)
  clear hK K
  refine norm_ (a' := ?_) ?_ ?_
  rotate_left
  · show Act.put _ (some 66) _ = _
    simp only [Act.put, List.setIfInBounds_toArray, List.set_cons_zero, List.set_cons_succ, i64_w, i32_w]
    rfl
  refine pure_ (i := 6) (N := some 68) (v := ?_) (a' := ?_) #[true, true, true, true, true, true, true, false, false] rfl rfl (by kernel_rfl) (fun _ _ _ h => h) (Or.inl ⟨by rfl, ?_⟩) ?_ ?_
  rotate_left
  · intro w'
    go_simp
    with_reducible rfl
  rotate_left
  · simp only [Act.put, List.setIfInBounds_toArray, List.set_cons_zero, List.set_cons_succ, i64_w, i32_w]
    rfl
  obtain ⟨y9, hrun9, hb9, hg9⟩ := run_storeW (w.heap.size + 2) Try.zeroCells47 (rv n m seen (hf fa)) _ (by repeat (with_reducible first | exact HZ.out | apply IsBlk.alloc | apply IsBlk.drew)) z67_size (rv_size _ _ _ _) (rv_one _ _ _ _)
  refine lastStore_ (i := 7) (w1 := y9) #[true, true, true, true, true, true, true, true, false] rfl rfl (by kernel_rfl) (by simp) (by rfl) ?_ ?_
  · refine execSW (x := Operand.tmp 6) (y := Operand.tmp 62) (w.heap.size + 2) (rv n m seen (hf fa)) ?_ ?_ ?_ hrun9
    · rfl
    · rfl
    · rfl
  refine pure_ (i := 8) (N := some 7) (v := ?_) (a' := ?_) #[true, true, true, true, true, true, true, true, true] rfl rfl (by kernel_rfl) (fun _ _ _ h => h) (Or.inl ⟨by rfl, ?_⟩) ?_ ?_
  rotate_left
  · intro w'
    go_simp
    with_reducible rfl
  rotate_left
  · simp only [Act.put, List.setIfInBounds_toArray, List.set_cons_zero, List.set_cons_succ, i64_w, i32_w]
    rfl
  refine done_ (by kernel_rfl) ?_

  go_wp2
  refine retW Try.results17 (w.heap.size + 2) (rv n m seen (hf fa)) _ rfl rfl hb9 (rv_size _ _ _ _) rfl ⟨rfl, ?_⟩
  exact ⟨wk_new (by repeat (with_reducible first | exact HK.out | apply Wk.alloc | apply Wk.drew)) hg9 (by have := HGQ.out; omega) (by have := HGQ.out; omega), but_new (by repeat (with_reducible first | exact HB.out | apply But2.alloc | apply But2.drew | apply below_alloc | apply below_drew1)) hg9 (by omega)⟩
set_option maxRecDepth 100000 in
set_option maxHeartbeats 8000000 in
theorem does_4 (n m seen : Int) (g q : Nat) (f : Int → Option Sl) (p0 p1 p2 p3 p4 p5 p6 p7 : Int) (y : Bool) (fa : Int → Option Sl) (w : World) (hd : Dom n m f) (hm : 1 ≤ m ∧ m ≤ 16) (h : Wk w g q seen f) (hkd : near p0 6 = 4) (hap : app f p1 (fun s => turns s 3 2) = (fa, y)) : Calls Try.prog 17 #[.pointer (some ⟨g, 0, none⟩), .agg (rv n m seen (hf f)), .agg #[.int .i64 p0, .int .i64 p1, .int .i64 p2, .int .i64 p3, .int .i64 p4, .int .i64 p5, .int .i64 p6, .int .i64 p7]] w fun e w' => e = .returned (.tuple #[.agg (rv n m seen (hf fa)), .bool true]) ∧ Wk w' g q seen fa ∧ But2 w w' g q := by
  have hap16 : ∀ w : World, Calls Try.prog 32 #[.agg (rv n m seen (hf f)), .int .i64 p1, .int .i64 3] w fun e w' => e = .returned (.tuple #[.agg (rv n m seen (hf fa)), .bool y]) ∧ Below w.heap.size w w' := fun w => by
    have hh := heal16_q n m seen f hd hm p1 w
    rw [hap] at hh
    exact hh
  have hapw : ∀ w : World, Wk w g q seen f → Calls Try.prog 24 #[.pointer (some ⟨g, 0, none⟩), .int .i64 p1] w fun e w' => e = .returned (.bool y) ∧ Wk w' g q seen fa ∧ But2 w w' g q := fun w hk => by
    have hh := heal_w g q seen f p1 w hk
    rw [hap] at hh
    exact hh.mono fun e w' ⟨h1, h2, h3⟩ => ⟨h1, h2, But2.of_two h3 g⟩
  have HAP16 := Aside0.mk hap16
  have HAPW := Aside0.mk hapw
  clear hap16 hapw hap
  have HD := Aside0.mk hd
  have HM := Aside0.mk hm
  have HKD := Aside0.mk hkd
  have HGQ : Aside0 (g < w.heap.size ∧ q < w.heap.size) := ⟨blk_lt h.blk, h.map.lt⟩
  have HK0 := Aside0.mk h
  clear hd hm hkd h
  go_enter Try.func17, Try.ntmps17
  go_wp2_with fail
  refine (kind_q p0 p1 p2 p3 p4 p5 p6 p7 _).mono ?_
  rw [HKD.out]
  rintro e w1 ⟨rfl, hb1⟩
  have HR : Aside0 (IsBlk w1 w.heap.size (rv n m seen (hf f)) 47) := ⟨IsBlk.below (IsBlk.alloc (IsBlk.alloc (IsBlk.new _ _ rfl) _) _) hb1⟩
  have HS : Aside0 (IsBlk w1 (w.heap.size + 1) #[.int .i64 p0, .int .i64 p1, .int .i64 p2, .int .i64 p3, .int .i64 p4, .int .i64 p5, .int .i64 p6, .int .i64 p7] 53) := ⟨IsBlk.below (IsBlk.alloc (IsBlk.new _ _ (by simp)) _) hb1⟩
  have HZ : Aside0 (IsBlk w1 (w.heap.size + 2) Try.zeroCells47 47) := ⟨IsBlk.below (IsBlk.new _ _ (by simp)) hb1⟩
  have HK : Aside0 (Wk w1 g q seen f) := ⟨Wk.below (((HK0.out.alloc _).alloc _).alloc _) hb1⟩
  have HB : Aside0 (But2 w w1 g q) := ⟨But2.below ((((But2.refl w g q).alloc _).alloc _).alloc _) hb1⟩
  clear HK0 hb1
  have S_1 : w1.cell? ⟨w.heap.size + 1, 1, none⟩ = some (.int .i64 p1) := blk_cell HS.out 1
  go_wp2_with ((with_reducible refine wpList_loadW w.heap.size (rv n m seen (hf f)) ?_ ?_ (rv_size _ _ _ _) ?_); rfl; exact (by repeat (with_reducible first | exact HR.out | apply IsBlk.alloc | apply IsBlk.drew)))
  refine (HAP16.out _).mono ?_
  rintro e w2 ⟨rfl, hb1⟩
  have HSn : Aside0 (IsBlk w2 (w.heap.size + 1) #[.int .i64 p0, .int .i64 p1, .int .i64 p2, .int .i64 p3, .int .i64 p4, .int .i64 p5, .int .i64 p6, .int .i64 p7] 53) := ⟨IsBlk.below HS.out hb1⟩
  have HZn : Aside0 (IsBlk w2 (w.heap.size + 2) Try.zeroCells47 47) := ⟨IsBlk.below HZ.out hb1⟩
  have HKn : Aside0 (Wk w2 g q seen f) := ⟨Wk.below HK.out hb1⟩
  have HBn : Aside0 (But2 w w2 g q) := ⟨But2.below HB.out hb1⟩
  clear HR HS HZ HK HB hb1 S_1
  have HS := HSn
  have HZ := HZn
  have HK := HKn
  have HB := HBn
  have HLN := Aside0.mk (show w.heap.size + 2 < w2.heap.size from blk_lt HZ.out)
  clear HSn HZn HKn HBn
  go_upto_region 14 with ((with_reducible refine wpList_storeW w2.heap.size Try.zeroCells47 (rv n m seen (hf fa)) ?_ ?_ ?_ z67_size (rv_size _ _ _ _) (rv_one _ _ _ _) ?_); rfl; rfl; exact IsBlk.new _ _ rfl; intro y8 hb8 hg8)
  have HSn : Aside0 (IsBlk y8 (w.heap.size + 1) #[.int .i64 p0, .int .i64 p1, .int .i64 p2, .int .i64 p3, .int .i64 p4, .int .i64 p5, .int .i64 p6, .int .i64 p7] 53) := ⟨IsBlk.grownBy (HS.out.alloc _) hg8 (by have := HLN.out; omega)⟩
  have HZn : Aside0 (IsBlk y8 (w.heap.size + 2) Try.zeroCells47 47) := ⟨IsBlk.grownBy (HZ.out.alloc _) hg8 (by have := HLN.out; omega)⟩
  have HKn : Aside0 (Wk y8 g q seen f) := ⟨wk_new (HK.out.alloc _) hg8 (by have := HGQ.out; have := HLN.out; omega) (by have := HGQ.out; have := HLN.out; omega)⟩
  have HBn : Aside0 (But2 w y8 g q) := ⟨but_new (HB.out.alloc _) hg8 (by have := HLN.out; omega)⟩
  have HNn := Aside0.mk hb8
  clear HS HZ HK HB hg8 hb8
  have HS := HSn
  have HZ := HZn
  have HK := HKn
  have HB := HBn
  have HN := HNn
  clear HSn HZn HKn HBn HNn
  obtain ⟨s, hs⟩ : ∃ s, w2.heap.size = s := ⟨_, rfl⟩
  rw [hs] at HLN HN ⊢
  clear hs
  have S_1 : y8.cell? ⟨w.heap.size + 1, 1, none⟩ = some (.int .i64 p1) := blk_cell HS.out 1
  refine start_ (n := 9) (S := fun w' => IsBlk w' s (rv n m seen (hf fa)) 47 ∧ w'.cell? ⟨w.heap.size + 1, 1, none⟩ = some (.int .i64 p1)) (ds := [7]) #[false, false, false, false, false, false, false, false, false] (by kernel_rfl) rfl rfl ⟨(by repeat (with_reducible first | exact HN.out | apply IsBlk.alloc | apply IsBlk.drew)), S_1⟩ (fun hHeld => ?_)
  refine pure_ (i := 1) (N := some 79) (v := ?_) (a' := ?_) #[false, true, false, false, false, false, false, false, false] rfl rfl (by kernel_rfl) (fun _ _ _ h => h) (Or.inl ⟨by rfl, ?_⟩) ?_ ?_
  rotate_left
  · intro w'
    go_simp
    with_reducible rfl
  rotate_left
  · simp only [Act.put, List.setIfInBounds_toArray, List.set_cons_zero, List.set_cons_succ, i64_w, i32_w]
    rfl
  refine pure_ (i := 2) (N := some 80) (v := ?_) (a' := ?_) #[false, true, true, false, false, false, false, false, false] rfl rfl (by kernel_rfl) (fun _ _ _ h => h) (Or.inl ⟨by rfl, ?_⟩) ?_ ?_
  rotate_left
  · intro w'
    go_simp
    with_reducible rfl
  rotate_left
  · simp only [Act.put, List.setIfInBounds_toArray, List.set_cons_zero, List.set_cons_succ, i64_w, i32_w]
    rfl
  refine pure_ (i := 5) (N := some 83) (v := ?_) (a' := ?_) #[false, true, true, false, false, true, false, false, false] rfl rfl (by kernel_rfl) (fun _ _ _ h => h) (Or.inl ⟨by rfl, ?_⟩) ?_ ?_
  rotate_left
  · intro w'
    go_simp
    with_reducible rfl
  rotate_left
  · simp only [Act.put, List.setIfInBounds_toArray, List.set_cons_zero, List.set_cons_succ, i64_w, i32_w]
    rfl
  refine take_ (i := 0) (N := some 78) (v := ?_) (a' := ?_) #[true, true, true, false, false, true, false, false, false] rfl rfl (by kernel_rfl) (fun _ _ _ h => h) (Or.inl ⟨by rfl, ?_⟩) hHeld ?_ ?_
  rotate_left
  · rintro w' ⟨s0, s1⟩
    (refine execW (x := Operand.tmp 14) s (rv n m seen (hf fa)) ?_ ?_ ?_ ?_; rfl; rfl; assumption; exact rv_size _ _ _ _)
  rotate_left
  · simp only [Act.put, List.setIfInBounds_toArray, List.set_cons_zero, List.set_cons_succ, i64_w, i32_w]
    rfl
  refine take_ (i := 3) (N := some 81) (v := ?_) (a' := ?_) #[true, true, true, true, false, true, false, false, false] rfl rfl (by kernel_rfl) (fun _ _ _ h => h) (Or.inl ⟨by rfl, ?_⟩) hHeld ?_ ?_
  rotate_left
  · rintro w' ⟨s0, s1⟩
    go_simp
    with_reducible rfl
  rotate_left
  · simp only [Act.put, List.setIfInBounds_toArray, List.set_cons_zero, List.set_cons_succ, i64_w, i32_w]
    rfl
  refine one_ (i := 4) (N := some 82) #[true, true, true, true, true, true, false, false, false] rfl rfl (by kernel_rfl) (by simp) (fun K hK => ?_)
  refine goes_ Try.func24 (by kernel_rfl) rfl #[.pointer (some ⟨g, 0, none⟩), .int .i64 p1] (by rfl) rfl rfl (by simp only [List.map_toArray, List.map_cons, List.map_nil]; rfl) ?_
  with_reducible refine (HAPW.out _ (by repeat (with_reducible first | exact HK.out | apply Wk.alloc | apply Wk.drew))).mono ?_
  rintro e y2 ⟨rfl, hk, hbt⟩
  have hbt' := Aside0.mk hbt
  have HKn := Aside0.mk hk
  have HBn : Aside0 (But2 w y2 g q) := ⟨But2.trans (by repeat (with_reducible first | exact HB.out | apply But2.alloc | apply But2.drew | apply below_alloc | apply below_drew1)) hbt⟩
  have HSn : Aside0 (IsBlk y2 (w.heap.size + 1) #[.int .i64 p0, .int .i64 p1, .int .i64 p2, .int .i64 p3, .int .i64 p4, .int .i64 p5, .int .i64 p6, .int .i64 p7] 53) := ⟨IsBlk.but (by repeat (with_reducible first | exact HS.out | apply IsBlk.alloc | apply IsBlk.drew)) hbt (by have := HGQ.out; omega) (by have := HGQ.out; omega)⟩
  have HZn : Aside0 (IsBlk y2 (w.heap.size + 2) Try.zeroCells47 47) := ⟨IsBlk.but (by repeat (with_reducible first | exact HZ.out | apply IsBlk.alloc | apply IsBlk.drew)) hbt (by have := HGQ.out; omega) (by have := HGQ.out; omega)⟩
  clear HK HB HS HZ hk hbt
  have HK := HKn
  have HB := HBn
  have HS := HSn
  have HZ := HZn
  clear HKn HBn HSn HZn
  refine ⟨_, rfl, ?_⟩
  refine hK.out _ _ ⟨IsBlk.but hHeld.1 hbt'.out (by have := HGQ.out; have := HLN.out; omega) (by have := HGQ.out; have := HLN.out; omega), cell_but hbt'.out (by have := HGQ.out; omega) (by have := HGQ.out; omega) hHeld.2⟩ (fun hHeld => ?_)
  clear hK K
  refine norm_ (a' := ?_) ?_ ?_
  rotate_left
  · show Act.put _ (some 82) _ = _
    simp only [Act.put, List.setIfInBounds_toArray, List.set_cons_zero, List.set_cons_succ, i64_w, i32_w]
    rfl
  refine pure_ (i := 6) (N := some 84) (v := ?_) (a' := ?_) #[true, true, true, true, true, true, true, false, false] rfl rfl (by kernel_rfl) (fun _ _ _ h => h) (Or.inl ⟨by rfl, ?_⟩) ?_ ?_
  rotate_left
  · intro w'
    go_simp
    with_reducible rfl
  rotate_left
  · simp only [Act.put, List.setIfInBounds_toArray, List.set_cons_zero, List.set_cons_succ, i64_w, i32_w]
    rfl
  obtain ⟨y9, hrun9, hb9, hg9⟩ := run_storeW (w.heap.size + 2) Try.zeroCells47 (rv n m seen (hf fa)) _ (by repeat (with_reducible first | exact HZ.out | apply IsBlk.alloc | apply IsBlk.drew)) z67_size (rv_size _ _ _ _) (rv_one _ _ _ _)
  refine lastStore_ (i := 7) (w1 := y9) #[true, true, true, true, true, true, true, true, false] rfl rfl (by kernel_rfl) (by simp) (by rfl) ?_ ?_
  · refine execSW (x := Operand.tmp 6) (y := Operand.tmp 78) (w.heap.size + 2) (rv n m seen (hf fa)) ?_ ?_ ?_ hrun9
    · rfl
    · rfl
    · rfl
  refine pure_ (i := 8) (N := some 7) (v := ?_) (a' := ?_) #[true, true, true, true, true, true, true, true, true] rfl rfl (by kernel_rfl) (fun _ _ _ h => h) (Or.inl ⟨by rfl, ?_⟩) ?_ ?_
  rotate_left
  · intro w'
    go_simp
    with_reducible rfl
  rotate_left
  · simp only [Act.put, List.setIfInBounds_toArray, List.set_cons_zero, List.set_cons_succ, i64_w, i32_w]
    rfl
  refine done_ (by kernel_rfl) ?_

  go_wp2
  refine retW Try.results17 (w.heap.size + 2) (rv n m seen (hf fa)) _ rfl rfl hb9 (rv_size _ _ _ _) rfl ⟨rfl, ?_⟩
  exact ⟨wk_new (by repeat (with_reducible first | exact HK.out | apply Wk.alloc | apply Wk.drew)) hg9 (by have := HGQ.out; omega) (by have := HGQ.out; omega), but_new (by repeat (with_reducible first | exact HB.out | apply But2.alloc | apply But2.drew | apply below_alloc | apply below_drew1)) hg9 (by omega)⟩
set_option maxRecDepth 100000 in
set_option maxHeartbeats 8000000 in
theorem does_5 (n m seen : Int) (g q : Nat) (f : Int → Option Sl) (p0 p1 p2 p3 p4 p5 p6 p7 : Int) (w : World) (hd : Dom n m f) (hm : 1 ≤ m ∧ m ≤ 16) (h : Wk w g q seen f) (hkd : near p0 6 = 5) : Calls Try.prog 17 #[.pointer (some ⟨g, 0, none⟩), .agg (rv n m seen (hf f)), .agg #[.int .i64 p0, .int .i64 p1, .int .i64 p2, .int .i64 p3, .int .i64 p4, .int .i64 p5, .int .i64 p6, .int .i64 p7]] w fun e w' => e = .returned (.tuple #[.agg (rv n m seen (hf (gI f (ownL f)))), .bool true]) ∧ Wk w' g q seen (gI f (ownL f)) ∧ But2 w w' g q := by
  have HD := Aside0.mk hd
  have HM := Aside0.mk hm
  have HKD := Aside0.mk hkd
  have HGQ : Aside0 (g < w.heap.size ∧ q < w.heap.size) := ⟨blk_lt h.blk, h.map.lt⟩
  have HK0 := Aside0.mk h
  clear hd hm hkd h
  go_enter Try.func17, Try.ntmps17
  go_wp2_with fail
  refine (kind_q p0 p1 p2 p3 p4 p5 p6 p7 _).mono ?_
  rw [HKD.out]
  rintro e w1 ⟨rfl, hb1⟩
  have HR : Aside0 (IsBlk w1 w.heap.size (rv n m seen (hf f)) 47) := ⟨IsBlk.below (IsBlk.alloc (IsBlk.alloc (IsBlk.new _ _ rfl) _) _) hb1⟩
  have HS : Aside0 (IsBlk w1 (w.heap.size + 1) #[.int .i64 p0, .int .i64 p1, .int .i64 p2, .int .i64 p3, .int .i64 p4, .int .i64 p5, .int .i64 p6, .int .i64 p7] 53) := ⟨IsBlk.below (IsBlk.alloc (IsBlk.new _ _ (by simp)) _) hb1⟩
  have HZ : Aside0 (IsBlk w1 (w.heap.size + 2) Try.zeroCells47 47) := ⟨IsBlk.below (IsBlk.new _ _ (by simp)) hb1⟩
  have HK : Aside0 (Wk w1 g q seen f) := ⟨Wk.below (((HK0.out.alloc _).alloc _).alloc _) hb1⟩
  have HB : Aside0 (But2 w w1 g q) := ⟨But2.below ((((But2.refl w g q).alloc _).alloc _).alloc _) hb1⟩
  clear HK0 hb1
  have S_1 : w1.cell? ⟨w.heap.size + 1, 1, none⟩ = some (.int .i64 p1) := blk_cell HS.out 1
  go_wp2_with ((with_reducible refine wpList_loadW w.heap.size (rv n m seen (hf f)) ?_ ?_ (rv_size _ _ _ _) ?_); rfl; exact (by repeat (with_reducible first | exact HR.out | apply IsBlk.alloc | apply IsBlk.drew)))
  refine (fall16_q n m seen f HD.out _).mono ?_
  rintro e w2 ⟨rfl, hb1⟩
  have HSn : Aside0 (IsBlk w2 (w.heap.size + 1) #[.int .i64 p0, .int .i64 p1, .int .i64 p2, .int .i64 p3, .int .i64 p4, .int .i64 p5, .int .i64 p6, .int .i64 p7] 53) := ⟨IsBlk.below HS.out hb1⟩
  have HZn : Aside0 (IsBlk w2 (w.heap.size + 2) Try.zeroCells47 47) := ⟨IsBlk.below HZ.out hb1⟩
  have HKn : Aside0 (Wk w2 g q seen f) := ⟨Wk.below HK.out hb1⟩
  have HBn : Aside0 (But2 w w2 g q) := ⟨But2.below HB.out hb1⟩
  clear HR HS HZ HK HB hb1 S_1
  have HS := HSn
  have HZ := HZn
  have HK := HKn
  have HB := HBn
  have HLN := Aside0.mk (show w.heap.size + 2 < w2.heap.size from blk_lt HZ.out)
  clear HSn HZn HKn HBn
  go_upto_region 16 with ((with_reducible refine wpList_storeW w2.heap.size Try.zeroCells47 (rv n m seen (hf (gI f (ownL f)))) ?_ ?_ ?_ z67_size (rv_size _ _ _ _) (rv_one _ _ _ _) ?_); rfl; rfl; exact IsBlk.new _ _ rfl; intro y8 hb8 hg8)
  have HSn : Aside0 (IsBlk y8 (w.heap.size + 1) #[.int .i64 p0, .int .i64 p1, .int .i64 p2, .int .i64 p3, .int .i64 p4, .int .i64 p5, .int .i64 p6, .int .i64 p7] 53) := ⟨IsBlk.grownBy (HS.out.alloc _) hg8 (by have := HLN.out; omega)⟩
  have HZn : Aside0 (IsBlk y8 (w.heap.size + 2) Try.zeroCells47 47) := ⟨IsBlk.grownBy (HZ.out.alloc _) hg8 (by have := HLN.out; omega)⟩
  have HKn : Aside0 (Wk y8 g q seen f) := ⟨wk_new (HK.out.alloc _) hg8 (by have := HGQ.out; have := HLN.out; omega) (by have := HGQ.out; have := HLN.out; omega)⟩
  have HBn : Aside0 (But2 w y8 g q) := ⟨but_new (HB.out.alloc _) hg8 (by have := HLN.out; omega)⟩
  have HNn := Aside0.mk hb8
  clear HS HZ HK HB hg8 hb8
  have HS := HSn
  have HZ := HZn
  have HK := HKn
  have HB := HBn
  have HN := HNn
  clear HSn HZn HKn HBn HNn
  obtain ⟨s, hs⟩ : ∃ s, w2.heap.size = s := ⟨_, rfl⟩
  rw [hs] at HLN HN ⊢
  clear hs
  have S_1 : y8.cell? ⟨w.heap.size + 1, 1, none⟩ = some (.int .i64 p1) := blk_cell HS.out 1
  refine start_ (n := 7) (S := fun w' => IsBlk w' s (rv n m seen (hf (gI f (ownL f)))) 47 ∧ w'.cell? ⟨w.heap.size + 1, 1, none⟩ = some (.int .i64 p1)) (ds := [5]) #[false, false, false, false, false, false, false] (by kernel_rfl) rfl rfl ⟨(by repeat (with_reducible first | exact HN.out | apply IsBlk.alloc | apply IsBlk.drew)), S_1⟩ (fun hHeld => ?_)
  refine pure_ (i := 1) (N := some 91) (v := ?_) (a' := ?_) #[false, true, false, false, false, false, false] rfl rfl (by kernel_rfl) (fun _ _ _ h => h) (Or.inl ⟨by rfl, ?_⟩) ?_ ?_
  rotate_left
  · intro w'
    go_simp
    with_reducible rfl
  rotate_left
  · simp only [Act.put, List.setIfInBounds_toArray, List.set_cons_zero, List.set_cons_succ, i64_w, i32_w]
    rfl
  refine pure_ (i := 3) (N := some 93) (v := ?_) (a' := ?_) #[false, true, false, true, false, false, false] rfl rfl (by kernel_rfl) (fun _ _ _ h => h) (Or.inl ⟨by rfl, ?_⟩) ?_ ?_
  rotate_left
  · intro w'
    go_simp
    with_reducible rfl
  rotate_left
  · simp only [Act.put, List.setIfInBounds_toArray, List.set_cons_zero, List.set_cons_succ, i64_w, i32_w]
    rfl
  refine take_ (i := 0) (N := some 90) (v := ?_) (a' := ?_) #[true, true, false, true, false, false, false] rfl rfl (by kernel_rfl) (fun _ _ _ h => h) (Or.inl ⟨by rfl, ?_⟩) hHeld ?_ ?_
  rotate_left
  · rintro w' ⟨s0, s1⟩
    (refine execW (x := Operand.tmp 16) s (rv n m seen (hf (gI f (ownL f)))) ?_ ?_ ?_ ?_; rfl; rfl; assumption; exact rv_size _ _ _ _)
  rotate_left
  · simp only [Act.put, List.setIfInBounds_toArray, List.set_cons_zero, List.set_cons_succ, i64_w, i32_w]
    rfl
  refine one_ (i := 2) (N := some 92) #[true, true, true, true, false, false, false] rfl rfl (by kernel_rfl) (by simp) (fun K hK => ?_)
  refine goes_ Try.func19 (by kernel_rfl) rfl #[.pointer (some ⟨g, 0, none⟩)] (by rfl) rfl rfl (by simp only [List.map_toArray, List.map_cons, List.map_nil]; rfl) ?_
  with_reducible refine (fall_w g q seen f _ (by repeat (with_reducible first | exact HK.out | apply Wk.alloc | apply Wk.drew))).mono ?_
  rintro e y2 ⟨rfl, hk, hbt⟩
  have hbt' := Aside0.mk hbt
  have HKn := Aside0.mk hk
  have HBn : Aside0 (But2 w y2 g q) := ⟨But2.trans (by repeat (with_reducible first | exact HB.out | apply But2.alloc | apply But2.drew | apply below_alloc | apply below_drew1)) hbt⟩
  have HSn : Aside0 (IsBlk y2 (w.heap.size + 1) #[.int .i64 p0, .int .i64 p1, .int .i64 p2, .int .i64 p3, .int .i64 p4, .int .i64 p5, .int .i64 p6, .int .i64 p7] 53) := ⟨IsBlk.but (by repeat (with_reducible first | exact HS.out | apply IsBlk.alloc | apply IsBlk.drew)) hbt (by have := HGQ.out; omega) (by have := HGQ.out; omega)⟩
  have HZn : Aside0 (IsBlk y2 (w.heap.size + 2) Try.zeroCells47 47) := ⟨IsBlk.but (by repeat (with_reducible first | exact HZ.out | apply IsBlk.alloc | apply IsBlk.drew)) hbt (by have := HGQ.out; omega) (by have := HGQ.out; omega)⟩
  clear HK HB HS HZ hk hbt
  have HK := HKn
  have HB := HBn
  have HS := HSn
  have HZ := HZn
  clear HKn HBn HSn HZn
  refine ⟨_, rfl, ?_⟩
  refine hK.out _ _ ⟨IsBlk.but hHeld.1 hbt'.out (by have := HGQ.out; have := HLN.out; omega) (by have := HGQ.out; have := HLN.out; omega), cell_but hbt'.out (by have := HGQ.out; omega) (by have := HGQ.out; omega) hHeld.2⟩ (fun hHeld => ?_)
  clear hK K
  refine norm_ (a' := ?_) ?_ ?_
  rotate_left
  · show Act.put _ (some 92) _ = _
    simp only [Act.put, List.setIfInBounds_toArray, List.set_cons_zero, List.set_cons_succ, i64_w, i32_w]
    rfl
  refine pure_ (i := 4) (N := some 94) (v := ?_) (a' := ?_) #[true, true, true, true, true, false, false] rfl rfl (by kernel_rfl) (fun _ _ _ h => h) (Or.inl ⟨by rfl, ?_⟩) ?_ ?_
  rotate_left
  · intro w'
    go_simp
    with_reducible rfl
  rotate_left
  · simp only [Act.put, List.setIfInBounds_toArray, List.set_cons_zero, List.set_cons_succ, i64_w, i32_w]
    rfl
  obtain ⟨y9, hrun9, hb9, hg9⟩ := run_storeW (w.heap.size + 2) Try.zeroCells47 (rv n m seen (hf (gI f (ownL f)))) _ (by repeat (with_reducible first | exact HZ.out | apply IsBlk.alloc | apply IsBlk.drew)) z67_size (rv_size _ _ _ _) (rv_one _ _ _ _)
  refine lastStore_ (i := 5) (w1 := y9) #[true, true, true, true, true, true, false] rfl rfl (by kernel_rfl) (by simp) (by rfl) ?_ ?_
  · refine execSW (x := Operand.tmp 6) (y := Operand.tmp 90) (w.heap.size + 2) (rv n m seen (hf (gI f (ownL f)))) ?_ ?_ ?_ hrun9
    · rfl
    · rfl
    · rfl
  refine pure_ (i := 6) (N := some 7) (v := ?_) (a' := ?_) #[true, true, true, true, true, true, true] rfl rfl (by kernel_rfl) (fun _ _ _ h => h) (Or.inl ⟨by rfl, ?_⟩) ?_ ?_
  rotate_left
  · intro w'
    go_simp
    with_reducible rfl
  rotate_left
  · simp only [Act.put, List.setIfInBounds_toArray, List.set_cons_zero, List.set_cons_succ, i64_w, i32_w]
    rfl
  refine done_ (by kernel_rfl) ?_

  go_wp2
  refine retW Try.results17 (w.heap.size + 2) (rv n m seen (hf (gI f (ownL f)))) _ rfl rfl hb9 (rv_size _ _ _ _) rfl ⟨rfl, ?_⟩
  exact ⟨wk_new (by repeat (with_reducible first | exact HK.out | apply Wk.alloc | apply Wk.drew)) hg9 (by have := HGQ.out; omega) (by have := HGQ.out; omega), but_new (by repeat (with_reducible first | exact HB.out | apply But2.alloc | apply But2.drew | apply below_alloc | apply below_drew1)) hg9 (by omega)⟩
end Go.Proofs.Ytkjaeodnpgpfeaa.V7
