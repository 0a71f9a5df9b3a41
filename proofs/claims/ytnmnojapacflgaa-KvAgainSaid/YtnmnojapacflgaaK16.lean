/-
  Proved here: what kvCopy answers: a new store that saw all batches; that a store lives on when another changes. No condition but how the rows read, and 40 rows at most.
-/
import Derived.Test.YtnmnojapacflgaaK15
namespace Go.Proofs.Ytnmnojapacflgaa.K16
open Go.Proofs.Ytnmnojapacflgaa.M Go.Proofs.Ytnmnojapacflgaa.K0 Go.RowKit Go.Maps Go.Sort Go.Proofs.YtnmnojapacflgaaW.PrintWords Go.Proofs.YtnmnojapacflgaaW.PrintLast Go.Proofs.YtnmnojapacflgaaW.PrintMore Go.Proofs.Ytnmnojapacflgaa.PKvPlays Go.Proofs.Ytnmnojapacflgaa.K1 Go.Proofs.Ytnmnojapacflgaa.K2 Go.Proofs.Ytnmnojapacflgaa.K3 Go.Proofs.Ytnmnojapacflgaa.K4 Go.Proofs.Ytnmnojapacflgaa.K5 Go.Proofs.Ytnmnojapacflgaa.K6 Go.Proofs.Ytnmnojapacflgaa.K9 Go.Proofs.Ytnmnojapacflgaa.K10 Go.Proofs.Ytnmnojapacflgaa.K12 Go.Proofs.Ytnmnojapacflgaa.K14 Go.Proofs.Ytnmnojapacflgaa.K15
set_option linter.unusedVariables false
set_option linter.unusedSimpArgs false
attribute [local go_sem] max2_int min2_int max_two min_two run_makeMap field_entry
theorem kv_but2 {w w1 : World} {g q g1 q1 : Nat} {rev : Int} {L : List S72} (h : Kv w g q rev L) (hb : But2 w w1 g1 q1) (n : g ≠ g1 ∧ g ≠ q1 ∧ q ≠ g1 ∧ q ≠ q1) : Kv w1 g q rev L := by
  refine ⟨h.blk.but hb n.1 n.2.1, ⟨?_, h.map.rise⟩⟩
  have hlt := h.map.lt
  obtain ⟨D, ⟨es, clock, hbk, F, hs, hD⟩, hd⟩ := h.map.own
  exact ⟨D, ⟨es, clock, (hb.block q hlt n.2.2.1 n.2.2.2).trans hbk, F, hs, hD⟩, hd⟩
def step (s : Int × List S72) (b : List S42) : Int × List S72 := (doL s.1 s.2 (asL (opsL b))).2.2
def stL (P : List (List S42)) : Int × List S72 := P.foldl step (0, [])
theorem st_next (P : List (List S42)) (i : Int) (h0 : 0 ≤ i) (hi : i < P.length) (E : List S42) (hE : P.getD i.toNat [] = E) : stL (P.take (i + 1).toNat) = step (stL (P.take i.toNat)) E := by
  have hk : i.toNat < P.length := by omega
  unfold stL
  rw [show (i + 1).toNat = i.toNat + 1 by omega, List.take_succ_eq_append_getElem hk, List.foldl_append, ← hE]
  simp [hk]
theorem rows_take {w : World} {A : Option Addr} {P : List (List S42)} (h : K15.Rows w A P) (n : Nat) : K15.Rows w A (P.take n) := by
  refine ⟨Nat.le_trans (List.length_take_le' _ _) h.max, fun i h0 h1 => ?_⟩
  have hl : (P.take n).length ≤ P.length := List.length_take_le' _ _
  obtain ⟨kb, ko, B, c, h2⟩ := h.at_ i h0 (by omega)
  have : (P.take n).getD i.toNat [] = P.getD i.toNat [] := by
    rw [List.length_take] at h1
    rw [List.getD_eq_getElem?_getD, List.getD_eq_getElem?_getD, List.getElem?_take, if_pos (by omega)]
  rw [this]
  exact ⟨kb, ko, B, c, h2⟩
theorem rows_below {w w1 : World} {A : Option Addr} {P : List (List S42)} (h : K15.Rows w A P) (hb : Below w.heap.size w w1) : K15.Rows w1 A P := by
  refine ⟨h.max, fun i h0 h1 => ?_⟩
  obtain ⟨kb, ko, B, c, hA, h2, h3, h4, h5⟩ := h.at_ i h0 h1
  exact ⟨kb, ko, B, c, hA, Nat.lt_of_lt_of_le h2 hb.size, (hb.cell (World.block_lt_of_cell? w _ h3)).trans h3, h4, Kd.C_below h5 hb⟩
set_option maxHeartbeats 8000000 in
set_option maxRecDepth 100000 in
theorem copy_q (A0 : Option Addr) (c0 : Nat) (P : List (List S42)) (W : World) (hr : K15.Rows W A0 P) (hc : P.length ≤ 40) : Calls Try.prog 19 #[.slice A0 P.length c0] W fun e w' => ∃ g q, e = .returned (.pointer (some ⟨g, 0, none⟩)) ∧ W.heap.size ≤ g ∧ W.heap.size ≤ q ∧ Kv w' g q (stL P).1 (stL P).2 ∧ K14.Good 40 (stL P).1 (stL P).2 ∧ Below W.heap.size W w' := by
  have HB := Aside0.mk (Below.refl W.heap.size W)
  have HR := Aside0.mk hr
  have hPm := hr.max
  have HP4 := Aside0.mk hc
  clear hr hc
  go_enter Try.func19, Try.ntmps19
  go_wp2_with fail
  refine (new_q _).mono ?_
  rintro e w2 ⟨rfl, hk1, hb1⟩
  have n0 := Aside0.mk (below_step (by repeat (first | (with_reducible first | exact HB.out | apply below_alloc | apply pw_below_drewN | apply below_drew1) | refine below_set ?_ (by omega))) hb1)
  clear HB hb1
  have HB := n0
  clear n0
  have HGQ : Aside0 (W.heap.size ≤ W.heap.size + 1 ∧ W.heap.size ≤ W.heap.size) := ⟨by omega⟩
  have HK := Aside0.mk hk1
  clear hk1
  obtain ⟨g, hg⟩ : ∃ g, W.heap.size + 1 = g := ⟨_, rfl⟩
  obtain ⟨q, hq⟩ : ∃ g, W.heap.size = g := ⟨_, rfl⟩
  have HGQ : Aside0 (W.heap.size ≤ g ∧ W.heap.size ≤ q) := ⟨by omega⟩
  rw [hg] at HK ⊢
  have HK2 : Aside0 (Kv w2 g q 0 []) := ⟨by rw [← hq]; exact HK.out⟩
  clear HK hg hq
  go_wp2_with fail
  go_loopw [4] (fun v4 wr => ∃ (i rev : Int) (L : List S72), v4 = .int .i64 i ∧ Aside0 (0 ≤ i ∧ i ≤ P.length) ∧ Aside0 (Kv wr g q rev L) ∧ Aside0 (K14.Good i rev L) ∧ Aside0 (stL (P.take i.toNat) = (rev, L)) ∧ Aside0 (Below W.heap.size W wr)) (fun v4 _ => (45 - intOf v4).toNat)
  case atStart => exact ⟨0, 0, [], rfl, ⟨by omega⟩, HK2, ⟨K14.Good.nil⟩, ⟨rfl⟩, ⟨by repeat (first | (with_reducible first | exact HB.out | apply below_alloc | apply pw_below_drewN | apply below_drew1) | refine below_set ?_ (by omega))⟩⟩
  case round =>
    clear HB HK2
    obtain ⟨i, rev, L, rfl, HI, HK, HG, HST, HB⟩ := hrel
    obtain ⟨wq, hwq⟩ : ∃ x, x = wr := ⟨_, rfl⟩
    subst hwq
    by_cases hi : i < P.length
    · have t1 : decide (i < (P.length : Int)) = true := decide_eq_true hi
      have hi0 : 0 ≤ i := HI.out.1
      have HIL : Aside0 (0 ≤ i ∧ i < 40) := ⟨hi0, by have := HP4.out; omega⟩
      have HSN := Aside0.mk (st_next P i hi0 hi)
      obtain ⟨kb, ko, B1, cb, rfl, hkb, ck, hcb, hCb⟩ := HR.out.at_ i HI.out.1 hi
      obtain ⟨E, hE⟩ : ∃ E, P.getD i.toNat [] = E := ⟨_, rfl⟩
      rw [hE] at ck hcb hCb
      replace ck := (HB.out.cell (World.block_lt_of_cell? W _ ck)).trans ck
      have HCb := Aside0.mk (Kd.C_below hCb HB.out)
      have HCc := Aside0.mk hcb
      have HE := Aside0.mk hE
      clear hCb hcb hE
      go_wp2_with fail
      refine (K11.ops_c B1 cb E _ HCb.out HCc.out).mono ?_
      rintro e y1 ⟨A1, c1, rfl, h1, h2, hb1⟩
      have HO := Aside0.mk (opsL_len E)
      have HSH := Aside0.mk (ops_short E)
      obtain ⟨M, hM⟩ : ∃ M, opsL E = M := ⟨_, rfl⟩
      rw [hM] at h1 h2 HO HSH
      rw [hM]
      have HMC := Aside0.mk h1
      have HM0 := Aside0.mk h2
      have hHM := Aside0.mk hM
      clear h1 h2 hM HCb HCc
      have n_HK := Aside0.mk (HK.out.below hb1)
      have n0 := Aside0.mk (below_step (by repeat (first | (with_reducible first | exact HB.out | apply below_alloc | apply pw_below_drewN | apply below_drew1) | refine below_set ?_ (by omega))) hb1)
      clear HB hb1
      have HB := n0
      clear n0
      clear HK
      have HK := n_HK
      clear n_HK
      have HM := Aside0.mk (show Kd.C k42 _ A1 M.length M from HM0.out)
      clear HM0 ck hkb
      go_wp2_with fail
      refine (K11.as_c A1 c1 M _ HM.out HMC.out (by have := HO.out; omega)).mono ?_
      rintro e y2 ⟨A3, c3, rfl, h1, h2, hb1⟩
      have HAL : Aside0 ((asL M).length ≤ 70) := ⟨by rw [asL_len]; exact HO.out⟩
      have HAC := Aside0.mk h1
      have HA := Aside0.mk h2
      clear h1 h2
      have n_HK := Aside0.mk (HK.out.below hb1)
      have n_HM := Aside0.mk (Kd.C_below HM.out hb1)
      have n0 := Aside0.mk (below_step (by repeat (first | (with_reducible first | exact HB.out | apply below_alloc | apply pw_below_drewN | apply below_drew1) | refine below_set ?_ (by omega))) hb1)
      clear HB hb1
      have HB := n0
      clear n0
      clear HK
      have HK := n_HK
      clear n_HK
      clear HM
      have HM := n_HM
      clear n_HM
      go_wp2_with fail
      refine (do_q g q rev L A3 c3 (asL M) _ HK.out HA.out HAC.out (by have := HAL.out; have := HG.out.len; omega) (by have := HG.out.rev0; have := HG.out.revn; have := HIL.out; omega)).mono ?_
      obtain ⟨⟨nn, er, rv, L2⟩, hd⟩ : ∃ x, doL rev L (asL M) = x := ⟨_, rfl⟩
      have HG2 := Aside0.mk (do_good (asL M) HG.out)
      rw [hd] at HG2 ⊢
      rintro e y3 ⟨rfl, hk1, hb1⟩
      have n_HK := Aside0.mk hk1
      have n_HM := Aside0.mk (c42_but HK.out HM.out hb1)
      have n0 := Aside0.mk (HB.out.trans (hb1.far HB.out.size HGQ.out.1 HGQ.out.2))
      clear HB hb1 hk1
      have HB := n0
      clear n0
      clear HK
      have HK := n_HK
      clear n_HK
      clear HM
      have HM := n_HM
      clear n_HM
      have HSU := Aside0.mk (HSN.out E HE.out)
      clear HSN HE
      rw [HST.out] at HSU
      have HSV : Aside0 (stL (P.take (i + 1).toNat) = (rv, L2)) := ⟨by rw [HSU.out]; unfold step; dsimp only; rw [hHM.out, hd]⟩
      have HLT := Aside0.mk hi
      clear HSU HST hd t1 hi
      have hi4 : i < 40 := HIL.out.2
      go_wp2
      exact ⟨⟨i + 1, rv, L2, rfl, ⟨by have := HLT.out; omega⟩, HK, HG2, HSV, ⟨by repeat (first | (with_reducible first | exact HB.out | apply below_alloc | apply pw_below_drewN | apply below_drew1) | refine below_set ?_ (by omega))⟩⟩, by simp only [intOf]; omega⟩
    · have t1 : decide (i < (P.length : Int)) = false := decide_eq_false hi
      have hil : P.take i.toNat = P := List.take_of_length_le (by have := HI.out; omega)
      have HS := HST.out
      rw [hil] at HS
      have HE := Aside0.mk HS
      clear HS hil
      have HG4 : Aside0 (K14.Good 40 rev L) := ⟨⟨HG.out.rev0, by have := HG.out.revn; have := HI.out; have := HP4.out; omega, HG.out.len, HG.out.rise, HG.out.lo, HG.out.hi⟩⟩
      go_wp2
      go_ret
      exact ⟨g, rfl, HGQ.out.1, q, HGQ.out.2, by rw [HE.out]; exact HK.out, by rw [HE.out]; exact HG4.out, by repeat (first | (with_reducible first | exact HB.out | apply below_alloc | apply pw_below_drewN | apply below_drew1) | refine below_set ?_ (by omega))⟩
end Go.Proofs.Ytnmnojapacflgaa.K16
