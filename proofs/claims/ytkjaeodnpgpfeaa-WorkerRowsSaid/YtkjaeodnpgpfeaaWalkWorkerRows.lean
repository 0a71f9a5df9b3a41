/-
  Proved here: what pacesetterlaw16.WorkerRows returns, whatever the input: true. No condition but how the slices read.
-/
import Derived.Test.YtkjaeodnpgpfeaaW7
import Derived.Test.YtkjaeodnpgpfeaaO
import Derived.Deep.RegionWith
import Derived.Deep.RegionHeld3
import Derived.Deep.DeepCutAuto
namespace Go.Proofs.Ytkjaeodnpgpfeaa.WalkWorkerRows
open Go.RowKit Go.Maps Go.Sort Go.Shelf Go.Proofs.Ytkjaeodnpgpfeaa.M Go.Proofs.Ytkjaeodnpgpfeaa.S0 Go.Proofs.Ytkjaeodnpgpfeaa.S4 Go.Proofs.Ytkjaeodnpgpfeaa.W0 Go.Proofs.YtkjaeodnpgpfeaaW.PrintWords Go.Proofs.YtkjaeodnpgpfeaaW.PrintLast Go.Proofs.YtkjaeodnpgpfeaaW.PrintMore Go.Proofs.Ytkjaeodnpgpfeaa.W1 Go.Proofs.Ytkjaeodnpgpfeaa.W2 Go.Proofs.Ytkjaeodnpgpfeaa.W3 Go.Proofs.Ytkjaeodnpgpfeaa.W4 Go.Proofs.Ytkjaeodnpgpfeaa.W5 Go.Proofs.Ytkjaeodnpgpfeaa.W6 Go.Proofs.Ytkjaeodnpgpfeaa.W7 Go.Proofs.Ytkjaeodnpgpfeaa.O
set_option linter.unusedVariables false
set_option linter.unusedSimpArgs false
attribute [local go_sem] max2_int min2_int max_two min_two run_makeMap

theorem info26 : (Try.prog.info? 26).map (fun i => (i.zero, i.size, i.bytes)) = some (some (.agg #[.int .i64 0, .int .i64 0, .int .i64 0, .int .i64 0, .int .i64 0, .int .i64 0]), 6, 48) := by kernel_rfl
theorem mod4 {m : Int} (h : 0 ≤ m) : wrap64 (m.tmod 4) = m % 4 ∧ m.tmod 4 = m % 4 := by
  have e : m.tmod 4 = m % 4 := Int.tmod_eq_emod_of_nonneg h
  exact ⟨by rw [e]; exact wrap64_eq (by omega) (by omega), e⟩
set_option maxRecDepth 100000 in
set_option maxHeartbeats 8000000 in
theorem walk (A : Option Addr) (c0 : Nat) (l : List (Int × Int × Int × Int × Int × Int)) (A9 : Option Addr) (k9 : Nat) (xs : List Int) (w : World) (hr : Rowz Is26 6 w A l) (hc : l.length ≤ c0) (hr9 : Rowz Is3 1 w A9 xs) (hc9 : xs.length ≤ k9) : Calls Try.prog 3 #[.slice A l.length c0, .slice A9 xs.length k9] w fun e w' => e = .returned (.bool true) ∧ Below w.heap.size w w' := by
  have HR0 := Aside0.mk hr
  have HR9 := Aside0.mk hr9
  clear hr hr9
  have HB := Aside0.mk (Below.refl w.heap.size w)
  go_enter Try.func3, Try.ntmps3
  go_wp2_with fail
  refine (lives_q _).mono ?_
  rintro e w1 ⟨rfl, hb1⟩
  have n0 := Aside0.mk (below_step (by repeat (first | (with_reducible first | exact HB.out | apply below_alloc | apply pw_below_drewN | apply below_drew1) | refine below_set ?_ (by omega))) hb1)
  clear HB hb1
  have HB := n0
  clear n0
  go_upto_block 0 with fail
  go_cut [5] (fun v5 wc => ∃ (L : List Mg) (c : Nat) (A0 : Option Addr), v5 = .slice A0 L.length c ∧ L.length ≤ c ∧ Aside0 (L.length ≤ 20) ∧ Aside0 (∀ x, x ∈ L → ∃ y, x = toCmd y) ∧ Aside0 (Kd.C km wc A0 L.length L) ∧ Aside0 (Below w.heap.size w wc))
  case first =>
    go_wp2_with fail
    go_loopw [5, 6] (fun v5 v6 wr => ∃ (i : Int), v6 = .int .i64 i ∧ Aside0 (0 ≤ i ∧ i ≤ 20 ∧ i ≤ l.length) ∧ Aside0 (Kd.R km 26 wr w.heap.size (fun _ => True) v5 ((l.take i.toNat).map toCmd)) ∧ Aside0 (Below w.heap.size w wr)) (fun _ v6 _ => 100 - (intOf v6).toNat)
    case atStart => exact ⟨0, rfl, ⟨by omega⟩, ⟨Kd.R_nil _ _ _ _ _⟩, ⟨by repeat (first | (with_reducible first | exact HB.out | apply below_alloc | apply pw_below_drewN | apply below_drew1) | refine below_set ?_ (by omega))⟩⟩
    case round =>
      clear HB
      obtain ⟨i, rfl, HI, HO, HB⟩ := hrel
      obtain ⟨wq, hwq⟩ : ∃ x, x = wr := ⟨_, rfl⟩
      subst hwq
      have hmax : l.length ≤ 9223372036854775807 := HR0.out.1
      have HX : Aside0 (((l.take i.toNat).map toCmd).length ≤ 20) := ⟨by rw [List.length_map]; have := List.length_take_le i.toNat l; have := HI.out; omega⟩
      by_cases hi : i < l.length
      · by_cases h20 : i < 20
        · have t1 : decide (i < (l.length : Int)) = true := decide_eq_true hi
          have t2 : decide (i < 20) = true := decide_eq_true h20
          have hi0 : 0 ≤ i := HI.out.1
          have hkn : i.toNat < l.length := by omega
          have H20 := Aside0.mk (And.intro h20 hi)
          obtain ⟨kb, ko, cs, rfl, _, hcs, hkb, hcell⟩ := Rowz.at' (Rowz.below HR0.out HB.out) (by omega) (0, 0, 0, 0, 0, 0) i.toNat hkn
          have htk : (l.take (i.toNat + 1)).map toCmd = (l.take i.toNat).map toCmd ++ [toCmd (l.getD i.toNat (0, 0, 0, 0, 0, 0))] := by
            rw [List.take_succ_eq_append_getElem hkn, List.map_append]
            simp [hkn]
          obtain ⟨⟨x0, x1, x2, x3, x4, x5⟩, hpp⟩ : ∃ x, l.getD i.toNat (0, 0, 0, 0, 0, 0) = x := ⟨_, rfl⟩
          rw [hpp] at hcs htk
          have HTK := Aside0.mk htk
          obtain ⟨rfl, _⟩ := hcs
          clear hpp htk
          have ck0 := hcell 0 _ rfl
          have ck1 := hcell 1 _ rfl
          have ck2 := hcell 2 _ rfl
          have ck3 := hcell 3 _ rfl
          have ck4 := hcell 4 _ rfl
          have ck5 := hcell 5 _ rfl
          rw [Nat.add_zero] at ck0
          rw [← Nat.add_assoc] at ck1
          rw [← Nat.add_assoc] at ck2
          rw [← Nat.add_assoc] at ck3
          rw [← Nat.add_assoc] at ck4
          rw [← Nat.add_assoc] at ck5
          clear hcell
          have hgood := good_q x0 x1 x2 x3 x4 x5 wq
          have hm : Aside0 (toCmd (x0, x1, x2, x3, x4, x5) = cmd (g8 x2) (g8 x3) ∧ (0 ≤ g8 x2 ∧ g8 x2 < 8)) := ⟨rfl, g8_in x2⟩
          generalize gk x0 = m0 at hgood
          generalize g8 x1 = m1 at hgood
          generalize g8 x2 = m2 at hgood hm
          generalize g8 x3 = m3 at hgood hm
          generalize g4 x4 = m4 at hgood
          generalize g5 x5 = m5 at hgood
          have hr4 : m2.tmod 4 = m2 % 4 := (mod4 hm.out.2.1).2
          have hr5 : wrap64 (m2 % 4) = m2 % 4 := wrap64_eq (by omega) (by omega)
          go_wp2_with fail
          refine hgood.mono ?_
          rintro e w3 ⟨rfl, hb1⟩
          clear ck0 ck1 ck2 ck3 ck4 ck5 hkb hgood hkn hi0 hi h20
          have HO1 := Aside0.mk (Kd.R_below HO.out hb1)
          clear HO
          have n0 := Aside0.mk (below_step (by repeat (first | (with_reducible first | exact HB.out | apply below_alloc | apply pw_below_drewN | apply below_drew1) | refine below_set ?_ (by omega))) hb1)
          clear HB hb1
          have HB := n0
          clear n0
          go_wp2_with (
            (with_reducible refine gate_builtin (b := .append) (xs := #[.tmp 37, .tmp 46]) rfl ?_)
            at_builtin
            refine Kd.R_append km (w0 := w) w.heap.size rfl (.tmp 37) (.tmp 46) 22 26 _ 48 rfl Try.underlying22 info26 rfl (by decide) (by decide) u5 ((l.take i.toNat).map toCmd) (cmd m2 m3) [.int .i64 1, .int .i64 3, .int .i64 m2, .int .i64 m3, .int .i64 (m2 % 4), .int .i64 0] (fun _ => True) (fun _ => False) rfl (by first | (go_simp; done) | (go_simp; rfl)) ?aP (fun _ hk => hk.elim) (fun _ _ => trivial) ?aO ?aB ?aS ?aL ?_
            case aP => exact km_mkM _ _ _ (cmd m2 m3)
            case aO => exact (by (with_reducible repeat (first | apply Kd.R_alloc | apply Kd.R_drewN | apply Kd.R_drew)); exact HO1.out)
            case aB => exact (by repeat (first | (with_reducible first | exact HB.out | apply below_alloc | apply pw_below_drewN | apply below_drew1) | refine below_set ?_ (by omega)))
            case aS => exact (show _ from Below.size (by repeat (first | (with_reducible first | exact HB.out | apply below_alloc | apply pw_below_drewN | apply below_drew1) | refine below_set ?_ (by omega))))
            case aL => have := HX.out; omega
            intro v1 w4 ho hb hg hat
            have HO2 := Aside0.mk ho
            have HB2 := Aside0.mk hb
            clear ho hb hg hat)
          have hw1 : wrap64 (i + 1) = i + 1 := wrap64_eq (by have := HI.out; omega) (by have := HI.out; omega)
          refine ⟨⟨i + 1, by rw [hw1], ⟨by have := HI.out; have := H20.out; omega⟩, ⟨?_⟩, HB2⟩, ?_⟩
          · have e1 : (i + 1).toNat = i.toNat + 1 := by have := HI.out; omega
            rw [e1, HTK.out, hm.out.1]
            exact HO2.out
          · have := HI.out
            have := H20.out
            simp only [intOf, hw1]
            omega
        · have t2 : decide (i < 20) = false := decide_eq_false h20
          obtain ⟨L, hL⟩ : ∃ x, (l.take i.toNat).map toCmd = x := ⟨_, rfl⟩
          rw [hL] at HO HX
          have hmem : Aside0 (∀ x, x ∈ L → ∃ y, x = toCmd y) := ⟨fun x hx => by rw [← hL] at hx; obtain ⟨y, _, rfl⟩ := List.mem_map.1 hx; exact ⟨y, rfl⟩⟩
          clear hL
          obtain ⟨A1, c1, rfl, hlc, hC⟩ := Kd.R_reads HO.out
          have HC1 := Aside0.mk hC
          have HLC := Aside0.mk hlc
          clear hC hlc HO
          go_wp2_with fail
          go_meet
          exact ⟨L, c1, A1, rfl, HLC.out, HX, hmem, HC1, HB⟩
      · have t1 : decide (i < (l.length : Int)) = false := decide_eq_false hi
        obtain ⟨L, hL⟩ : ∃ x, (l.take i.toNat).map toCmd = x := ⟨_, rfl⟩
        rw [hL] at HO HX
        have hmem : Aside0 (∀ x, x ∈ L → ∃ y, x = toCmd y) := ⟨fun x hx => by rw [← hL] at hx; obtain ⟨y, _, rfl⟩ := List.mem_map.1 hx; exact ⟨y, rfl⟩⟩
        clear hL
        obtain ⟨A1, c1, rfl, hlc, hC⟩ := Kd.R_reads HO.out
        have HC1 := Aside0.mk hC
        have HLC := Aside0.mk hlc
        clear hC hlc HO
        go_wp2_with fail
        go_meet
        exact ⟨L, c1, A1, rfl, HLC.out, HX, hmem, HC1, HB⟩
  case rest =>
    clear HB
    obtain ⟨L, c, A0, rfl, hlc, HX, HMEM, HC, HB⟩ := hcut
    obtain ⟨wx, hwx⟩ : ∃ x, x = wc := ⟨_, rfl⟩
    subst hwx
    have HBw := HB
    clear HB
    have HB := Aside0.mk (Below.refl wx.heap.size wx)
    go_wp2_with fail
    refine (new_q 0 1 _ (by decide) (by decide) (by decide) (by decide)).mono ?_
    rintro e w2 ⟨rfl, hk, hb1⟩
    have HK := Aside0.mk hk
    have HG0 : Aside0 (wx.heap.size ≤ wx.heap.size + 1 ∧ wx.heap.size ≤ wx.heap.size ∧ wx.heap.size + 1 < w2.heap.size) := ⟨by have := blk_lt hk.blk; omega⟩
    clear hk
    have n0 := Aside0.mk (below_step (by repeat (first | (with_reducible first | exact HB.out | apply below_alloc | apply pw_below_drewN | apply below_drew1) | refine below_set ?_ (by omega))) hb1)
    clear HB hb1
    have HB := n0
    clear n0
    go_wp2_with fail
    refine (new_q 0 1 _ (by decide) (by decide) (by decide) (by decide)).mono ?_
    rintro e w3 ⟨rfl, hk, hb1⟩
    have HKb := Aside0.mk hk
    have HK' := Aside0.mk (Wk.below (by repeat (with_reducible first | exact HK.out | apply Wk.alloc | apply Wk.drewN | apply Wk.drew)) hb1)
    clear HK hk
    have HK := HK'
    clear HK'
    have n0 := Aside0.mk (below_step (by repeat (first | (with_reducible first | exact HB.out | apply below_alloc | apply pw_below_drewN | apply below_drew1) | refine below_set ?_ (by omega))) hb1)
    clear HB hb1
    have HB := n0
    clear n0
    have HS : Aside0 (St wx w3 (wx.heap.size + 1) wx.heap.size (w2.heap.size + 1) w2.heap.size [] []) := ⟨One.new HK.out, One.new HKb.out, HB.out, by have := HG0.out; omega, by have := HG0.out; omega⟩
    clear HK HKb HG0 HB
    go_wp2_with fail
    generalize wx.heap.size + 1 = g at HS ⊢
    generalize hq0 : wx.heap.size = q at HS ⊢
    generalize w2.heap.size + 1 = g' at HS ⊢
    generalize w2.heap.size = q' at HS ⊢
    go_loopw [12] (fun v12 wr => ∃ (i : Int), v12 = .int .i64 i ∧ Aside0 (0 ≤ i ∧ i ≤ L.length) ∧ Aside0 (St wx wr g q g' q' ((L.take i.toNat).map pr) [])) (fun v12 _ => 100 - (intOf v12).toNat)
    case atStart => exact ⟨0, rfl, ⟨by omega⟩, HS⟩
    case round =>
      clear HS
      obtain ⟨i, rfl, HI, HS⟩ := hrel
      obtain ⟨wq, hwq⟩ : ∃ x, x = wr := ⟨_, rfl⟩
      subst hwq
      by_cases hi : i < L.length
      · have t1 : decide (i < (L.length : Int)) = true := decide_eq_true hi
        have hi0 : 0 ≤ i := HI.out.1
        obtain ⟨kb, ko, q0, u, rfl, hpr, hq, hu, hkb, ck0, ck1, ck2, ck3, ck4, ck5⟩ := own_at (Kd.C_below HC.out HS.out.bel) HMEM.out i hi0 hi
        have HPR := Aside0.mk hpr
        have HIL := Aside0.mk (And.intro hi0 hi)
        have HQU : Aside0 (0 ≤ q0 ∧ (0 ≤ u ∧ u < 16)) := ⟨⟨hq.1, hu.1, by omega⟩⟩
        clear hpr hq hu
        go_wp2_with fail
        refine (St.doA (by repeat (with_reducible first | exact HS.out | apply St.alloc | apply St.drewN | apply St.drew)) q0 u HQU.out.1 HQU.out.2).mono ?_
        rintro e w5 ⟨r, rfl, hS⟩
        clear ck0 ck1 ck2 ck3 ck4 ck5 hkb HS hi hi0
        have HS := Aside0.mk hS
        clear hS
        have hw1 : wrap64 (i + 1) = i + 1 := wrap64_eq (by have := HI.out; omega) (by have := HIL.out; have := HX.out; omega)
        go_wp2
        go_roundw
        case rel => exact ⟨i + 1, by rw [hw1], ⟨by have := HIL.out; omega⟩, ⟨HS.out.mem (pr_step i HIL.out.1 HIL.out.2 _ HPR.out) (fun _ => Iff.rfl)⟩⟩
        case measure => have := HIL.out; have := HX.out; simp [intOf, hw1]; omega
      · have t1 : decide (i < (L.length : Int)) = false := decide_eq_false hi
        have HS2 : Aside0 (St wx wq g q g' q' (L.map pr) []) := ⟨by have := HS.out; rw [List.take_of_length_le (by have := HI.out; omega)] at this; exact this⟩
        clear HS HI hi
        have HS := HS2
        clear HS2
        go_upto_block 4 with fail
        go_cut [13] (fun v13 wc => ∃ (K : List (Int × Int)), Aside0 (∀ x, x ∈ K → x ∈ L.map pr) ∧ Aside0 (St wx wc g q g' q' (L.map pr) K))
        case first =>
          go_wp2_with fail
          go_loopw [13] (fun v13 wr => ∃ (i : Int) (K : List (Int × Int)), v13 = .int .i64 i ∧ Aside0 (0 ≤ i ∧ i ≤ 40 ∧ i ≤ xs.length) ∧ Aside0 (∀ x, x ∈ K → x ∈ L.map pr) ∧ Aside0 (St wx wr g q g' q' (L.map pr) K)) (fun v13 _ => 100 - (intOf v13).toNat)
          case atStart => exact ⟨0, [], rfl, ⟨by omega⟩, ⟨fun x hx => by cases hx⟩, HS⟩
          case round =>
            clear HS
            obtain ⟨i, K, rfl, HI, HK, HS⟩ := hrel
            obtain ⟨wq, hwq⟩ : ∃ x, x = wr := ⟨_, rfl⟩
            subst hwq
            by_cases hi : i < xs.length
            · by_cases h40 : i < 40
              · by_cases hl : 0 < L.length
                · have t1 : decide (i < (xs.length : Int)) = true := decide_eq_true hi
                  have t2 : decide (i < 40) = true := decide_eq_true h40
                  have t3 : decide (0 < L.length) = true := decide_eq_true hl
                  have t4 : decide ((0 : Int) < (L.length : Int)) = true := decide_eq_true (by omega)
                  have hi0 : 0 ≤ i := HI.out.1
                  obtain ⟨rb, ro, cs, rfl, _, hcs, hrb, hcell⟩ := Rowz.at' (Rowz.below (Rowz.below HR9.out HBw.out) HS.out.bel) (by omega) 0 i.toNat (by omega)
                  obtain ⟨x, hx⟩ : ∃ x, xs.getD i.toNat 0 = x := ⟨_, rfl⟩
                  rw [hx] at hcs
                  obtain ⟨rfl, _⟩ := hcs
                  have rk0 := hcell 0 _ rfl
                  rw [Nat.add_zero, Nat.mul_one] at rk0
                  clear hcell hx
                  obtain ⟨m, hm⟩ : ∃ m, near x L.length = m := ⟨_, rfl⟩
                  have hLL : (L.length : Int) ≤ 20 := by have := HX.out; omega
                  have hmb := near_bounds x L.length (by omega)
                  have hw : wrap64 ((IntKind.u64.wrap x).tmod (L.length : Int)) = m := (raw_near x L.length (by omega) (by omega)).trans hm
                  have hw2 : IntKind.u64.wrap (L.length : Int) = (L.length : Int) := by rw [u64_wrap]; omega
                  rw [hm] at hmb
                  obtain ⟨hm0, hm1⟩ := hmb
                  obtain ⟨kb, ko, q0, u, rfl, hpr, hq, hu, hkb, ck0, ck1, ck2, ck3, ck4, ck5⟩ := own_at (Kd.C_below HC.out HS.out.bel) HMEM.out m hm0 hm1
                  have HPR := Aside0.mk hpr
                  have HIL := Aside0.mk (And.intro hi0 (And.intro hi h40))
                  have HQU : Aside0 (0 ≤ q0 ∧ (0 ≤ u ∧ u < 16)) := ⟨⟨hq.1, hu.1, by omega⟩⟩
                  have HM := Aside0.mk (And.intro hm0 hm1)
                  have hmx : xs.length ≤ 9223372036854775807 := HR9.out.1
                  clear hpr hq hu hm
                  go_wp2_with fail
                  refine (St.doB (by repeat (with_reducible first | exact HS.out | apply St.alloc | apply St.drewN | apply St.drew)) q0 u HQU.out.1 HQU.out.2).mono ?_
                  rintro e w5 ⟨r, rfl, hS⟩
                  clear ck0 ck1 ck2 ck3 ck4 ck5 hkb HS hi hi0 hl h40 hw hw2 rk0 hrb hm0 hm1 t3 t4
                  have HS := Aside0.mk hS
                  clear hS
                  have hw1 : wrap64 (i + 1) = i + 1 := wrap64_eq (by have := HI.out; omega) (by have := HIL.out; omega)
                  go_wp2
                  go_roundw
                  case rel => exact ⟨i + 1, (q0, u) :: K, by rw [hw1], ⟨by have := HIL.out; omega⟩, ⟨fun x hx => by rcases List.mem_cons.1 hx with rfl | hx; exact pr_in m HM.out.1 HM.out.2 _ HPR.out; exact HK.out x hx⟩, HS⟩
                  case measure => have := HIL.out; simp [intOf, hw1]; omega
                · have t1 : decide (i < (xs.length : Int)) = true := decide_eq_true hi
                  have t2 : decide (i < 40) = true := decide_eq_true h40
                  have t3 : decide (0 < L.length) = false := decide_eq_false hl
                  clear hl hi h40
                  go_wp2_with fail
                  go_meet
                  exact ⟨K, HK, HS⟩
              · have t1 : decide (i < (xs.length : Int)) = true := decide_eq_true hi
                have t2 : decide (i < 40) = false := decide_eq_false h40
                go_wp2_with fail
                go_meet
                exact ⟨K, HK, HS⟩
            · have t1 : decide (i < (xs.length : Int)) = false := decide_eq_false hi
              go_wp2_with fail
              go_meet
              exact ⟨K, HK, HS⟩
        case rest =>
          clear HS
          obtain ⟨K, HK, HS⟩ := hcut
          have hLL : (L.length : Int) ≤ 20 := by have := HX.out; omega
          have hw3 : wrap64 ((L.length : Int) - 1) = (L.length : Int) - 1 := wrap64_eq (by omega) (by omega)
          go_wp2_with fail
          have HW3 := Aside0.mk hw3
          clear hw3
          go_loopw [14] (fun v14 wr => ∃ (i : Int) (K : List (Int × Int)), v14 = .int .i64 i ∧ Aside0 (-1 ≤ i ∧ i < L.length) ∧ Aside0 (∀ x, x ∈ K → x ∈ L.map pr) ∧ Aside0 (∀ x, x ∈ (L.drop (i + 1).toNat).map pr → x ∈ K) ∧ Aside0 (St wx wr g q g' q' (L.map pr) K)) (fun v14 _ => (1 + intOf v14).toNat)
          case atStart =>
            refine ⟨(L.length : Int) - 1, K, by first | rfl | rw [HW3.out], ⟨by omega⟩, HK, ⟨fun x hx => ?_⟩, HS⟩
            rw [show ((L.length : Int) - 1 + 1).toNat = L.length by omega, List.drop_length] at hx
            cases hx
          case round =>
            clear HS HK HW3
            obtain ⟨i, K, rfl, HI, HK, HD, HS⟩ := hrel
            obtain ⟨wq, hwq⟩ : ∃ x, x = wr := ⟨_, rfl⟩
            subst hwq
            by_cases hi : 0 ≤ i
            · have t1 : decide (0 ≤ i) = true := decide_eq_true hi
              have hil := HI.out.2
              obtain ⟨kb, ko, q0, u, rfl, hpr, hq, hu, hkb, ck0, ck1, ck2, ck3, ck4, ck5⟩ := own_at (Kd.C_below HC.out HS.out.bel) HMEM.out i hi hil
              have HPR := Aside0.mk hpr
              have HIL := Aside0.mk (And.intro hi hil)
              have HQU : Aside0 (0 ≤ q0 ∧ (0 ≤ u ∧ u < 16)) := ⟨⟨hq.1, hu.1, by omega⟩⟩
              clear hpr hq hu
              go_wp2_with fail
              refine (St.doB (by repeat (with_reducible first | exact HS.out | apply St.alloc | apply St.drewN | apply St.drew)) q0 u HQU.out.1 HQU.out.2).mono ?_
              rintro e w5 ⟨r, rfl, hS⟩
              clear ck0 ck1 ck2 ck3 ck4 ck5 hkb HS hi hil
              have HS := Aside0.mk hS
              clear hS
              have hw1 : wrap64 (i - 1) = i - 1 := wrap64_eq (by have := HI.out; omega) (by have := HIL.out; have := HX.out; omega)
              go_wp2
              go_roundw
              case rel => exact ⟨i - 1, (q0, u) :: K, by rw [hw1], ⟨by have := HIL.out; omega⟩, ⟨fun x hx => by rcases List.mem_cons.1 hx with rfl | hx; exact pr_in i HIL.out.1 HIL.out.2 _ HPR.out; exact HK.out x hx⟩, ⟨fun x hx => by rw [show i - 1 + 1 = i by omega] at hx; rcases pr_drop i HIL.out.1 HIL.out.2 _ HPR.out x hx with rfl | hx; exact List.mem_cons_self .. ; exact List.mem_cons_of_mem _ (HD.out x hx)⟩, HS⟩
              case measure => have := HIL.out; simp [intOf, hw1]; omega
            · have t1 : decide (0 ≤ i) = false := decide_eq_false hi
              obtain rfl : i = -1 := by have := HI.out; omega
              have hends := HS.out.ends (fun x => ⟨fun hx => HD.out x (by simpa using hx), HK.out x⟩)
              have HB2 := Aside0.mk (below_step HBw.out HS.out.bel)
              clear HS HK HD HI hi HBw
              obtain ⟨sa, sb, fa, fb, hka, hkb, hall⟩ := hends
              have HKA := Aside0.mk hka
              have HKB := Aside0.mk hkb
              have HALL := Aside0.mk hall
              clear hka hkb hall
              go_wp2_with fail
              go_loopw [15] (fun v15 wr => ∃ (i : Int), v15 = .int .i64 i ∧ Aside0 (0 ≤ i ∧ i ≤ 16) ∧ Aside0 (Wk wr g q sa fa) ∧ Aside0 (Wk wr g' q' sb fb) ∧ Aside0 (Below w.heap.size w wr)) (fun v15 _ => 100 - (intOf v15).toNat)
              case atStart => exact ⟨0, rfl, ⟨by omega⟩, HKA, HKB, HB2⟩
              case round =>
                clear HKA HKB HB2
                obtain ⟨i, rfl, HI, HKA, HKB, HB⟩ := hrel
                obtain ⟨wq, hwq⟩ : ∃ x, x = wr := ⟨_, rfl⟩
                subst hwq
                by_cases hi : i < 16
                · have t1 : decide (i < 16) = true := decide_eq_true hi
                  obtain ⟨a, b, a', b', c1, d1, hfa, hfb⟩ := HALL.out i HI.out.1 hi
                  have HI16 := Aside0.mk hi
                  have HFA := Aside0.mk hfa
                  have HFB := Aside0.mk hfb
                  clear hfa hfb hi
                  go_wp2_with fail
                  refine (slot_l g q sa fa i a b c1 d1 true _ (by repeat (with_reducible first | exact HKA.out | apply Wk.alloc | apply Wk.drewN | apply Wk.drew)) (some_slot _ i _ HFA.out) (by rw [HFA.out]; rfl)).mono ?_
                  rintro e w6 ⟨rfl, hb1⟩
                  have HKA' := Aside0.mk (Wk.below (by repeat (with_reducible first | exact HKA.out | apply Wk.alloc | apply Wk.drewN | apply Wk.drew)) hb1)
                  have HKB' := Aside0.mk (Wk.below (by repeat (with_reducible first | exact HKB.out | apply Wk.alloc | apply Wk.drewN | apply Wk.drew)) hb1)
                  clear HKA HKB
                  have n0 := Aside0.mk (below_step (by repeat (first | (with_reducible first | exact HB.out | apply below_alloc | apply pw_below_drewN | apply below_drew1) | refine below_set ?_ (by omega))) hb1)
                  clear HB hb1
                  have HB := n0
                  clear n0
                  go_wp2_with fail
                  have hS : IsBlk (w6.alloc (.cells #[.int .i64 a, .int .i64 b, .int .i64 c1, .int .i64 d1] 35)) w6.heap.size #[.int .i64 a, .int .i64 b, .int .i64 c1, .int .i64 d1] 35 := IsBlk.new _ _ rfl
                  have HKA : Aside0 (Wk (w6.alloc (.cells #[.int .i64 a, .int .i64 b, .int .i64 c1, .int .i64 d1] 35)) g q sa fa) := ⟨HKA'.out.alloc _⟩
                  have HKB : Aside0 (Wk (w6.alloc (.cells #[.int .i64 a, .int .i64 b, .int .i64 c1, .int .i64 d1] 35)) g' q' sb fb) := ⟨HKB'.out.alloc _⟩
                  have HB' : Aside0 (Below w.heap.size w (w6.alloc (.cells #[.int .i64 a, .int .i64 b, .int .i64 c1, .int .i64 d1] 35))) := ⟨below_alloc HB.out _⟩
                  clear HKA' HKB' HB
                  generalize (w6.alloc (.cells #[.int .i64 a, .int .i64 b, .int .i64 c1, .int .i64 d1] 35)) = w7 at *
                  have S := hS
                  have HB := HB'
                  clear hS HB'
                  have S_0 := blk_cell S 0
                  have S_1 := blk_cell S 1
                  have S_2 := blk_cell S 2
                  have S_3 := blk_cell S 3
                  simp only [List.getElem?_toArray, List.getElem?_cons_zero, List.getElem?_cons_succ] at S_0 S_1 S_2 S_3
                  have S_z0 := blk_frozen S 0
                  have S_z1 := blk_frozen S 1
                  have S_z2 := blk_frozen S 2
                  have S_z3 := blk_frozen S 3
                  have S_l := blk_lt S
                  have HS := Aside0.mk S
                  clear S
                  refine (slot_l g' q' sb fb i a' b' c1 d1 true _ (by repeat (with_reducible first | exact HKB.out | apply Wk.alloc | apply Wk.drewN | apply Wk.drew)) (some_slot _ i _ HFB.out) (by rw [HFB.out]; rfl)).mono ?_
                  rintro e w8 ⟨rfl, hb1⟩
                  have S' := IsBlk.below (by repeat (with_reducible first | exact HS.out | apply IsBlk.alloc | apply IsBlk.drewN | apply IsBlk.drew)) hb1
                  have HKA' := Aside0.mk (Wk.below (by repeat (with_reducible first | exact HKA.out | apply Wk.alloc | apply Wk.drewN | apply Wk.drew)) hb1)
                  have HKB' := Aside0.mk (Wk.below (by repeat (with_reducible first | exact HKB.out | apply Wk.alloc | apply Wk.drewN | apply Wk.drew)) hb1)
                  clear HKA HKB
                  clear S_0 S_1 S_2 S_3 S_z0 S_z1 S_z2 S_z3 S_l HS
                  have S := S'
                  have HKA := HKA'
                  have HKB := HKB'
                  clear S' HKA' HKB'
                  have S_0 := blk_cell S 0
                  have S_1 := blk_cell S 1
                  have S_2 := blk_cell S 2
                  have S_3 := blk_cell S 3
                  simp only [List.getElem?_toArray, List.getElem?_cons_zero, List.getElem?_cons_succ] at S_0 S_1 S_2 S_3
                  have S_z0 := blk_frozen S 0
                  have S_z1 := blk_frozen S 1
                  have S_z2 := blk_frozen S 2
                  have S_z3 := blk_frozen S 3
                  have S_l := blk_lt S
                  have HS := Aside0.mk S
                  clear S
                  have n0 := Aside0.mk (below_step (by repeat (first | (with_reducible first | exact HB.out | apply below_alloc | apply pw_below_drewN | apply below_drew1) | refine below_set ?_ (by omega))) hb1)
                  clear HB hb1
                  have HB := n0
                  clear n0
                  go_upto_region 28 with fail
                  have R : IsBlk (w8.alloc (.cells #[.int .i64 a', .int .i64 b', .int .i64 c1, .int .i64 d1] 35)) w8.heap.size #[.int .i64 a', .int .i64 b', .int .i64 c1, .int .i64 d1] 35 := IsBlk.new _ _ rfl
                  have S' : IsBlk (w8.alloc (.cells #[.int .i64 a', .int .i64 b', .int .i64 c1, .int .i64 d1] 35)) w6.heap.size #[.int .i64 a, .int .i64 b, .int .i64 c1, .int .i64 d1] 35 := HS.out.alloc _
                  have HKA' : Aside0 (Wk (w8.alloc (.cells #[.int .i64 a', .int .i64 b', .int .i64 c1, .int .i64 d1] 35)) g q sa fa) := ⟨HKA.out.alloc _⟩
                  have HKB' : Aside0 (Wk (w8.alloc (.cells #[.int .i64 a', .int .i64 b', .int .i64 c1, .int .i64 d1] 35)) g' q' sb fb) := ⟨HKB.out.alloc _⟩
                  have HB' : Aside0 (Below w.heap.size w (w8.alloc (.cells #[.int .i64 a', .int .i64 b', .int .i64 c1, .int .i64 d1] 35))) := ⟨below_alloc HB.out _⟩
                  clear S_0 S_1 S_2 S_3 S_z0 S_z1 S_z2 S_z3 S_l HS
                  clear HKA HKB HB
                  generalize (w8.alloc (.cells #[.int .i64 a', .int .i64 b', .int .i64 c1, .int .i64 d1] 35)) = w9 at *
                  have S := S'
                  have HKA := HKA'
                  have HKB := HKB'
                  have HB := HB'
                  clear S' HKA' HKB' HB'
                  have S_0 := blk_cell S 0
                  have S_1 := blk_cell S 1
                  have S_2 := blk_cell S 2
                  have S_3 := blk_cell S 3
                  simp only [List.getElem?_toArray, List.getElem?_cons_zero, List.getElem?_cons_succ] at S_0 S_1 S_2 S_3
                  have S_z0 := blk_frozen S 0
                  have S_z1 := blk_frozen S 1
                  have S_z2 := blk_frozen S 2
                  have S_z3 := blk_frozen S 3
                  have S_l := blk_lt S
                  have HS := Aside0.mk S
                  clear S
                  have R_0 := blk_cell R 0
                  have R_1 := blk_cell R 1
                  have R_2 := blk_cell R 2
                  have R_3 := blk_cell R 3
                  simp only [List.getElem?_toArray, List.getElem?_cons_zero, List.getElem?_cons_succ] at R_0 R_1 R_2 R_3
                  have R_z0 := blk_frozen R 0
                  have R_z1 := blk_frozen R 1
                  have R_z2 := blk_frozen R 2
                  have R_z3 := blk_frozen R 3
                  have R_l := blk_lt R
                  have HR := Aside0.mk R
                  clear R
                  have hw1 : wrap64 (i + 1) = i + 1 := wrap64_eq (by have := HI.out; omega) (by have := HI16.out; omega)
                  go_wp2
                  go_roundw
                  case rel => exact ⟨i + 1, by rw [hw1], ⟨by have := HI.out; have := HI16.out; omega⟩, ⟨by repeat (with_reducible first | exact HKA.out | apply Wk.alloc | apply Wk.drewN | apply Wk.drew)⟩, ⟨by repeat (with_reducible first | exact HKB.out | apply Wk.alloc | apply Wk.drewN | apply Wk.drew)⟩, ⟨by repeat (first | (with_reducible first | exact HB.out | apply below_alloc | apply pw_below_drewN | apply below_drew1) | refine below_set ?_ (by omega))⟩⟩
                  case measure => have := HI.out; have := HI16.out; simp [intOf, hw1]; omega
                · have t1 : decide (i < 16) = false := decide_eq_false hi
                  go_wp2
                  go_ret
                  exact ⟨rfl, by repeat (first | (with_reducible first | exact HB.out | apply below_alloc | apply pw_below_drewN | apply below_drew1) | refine below_set ?_ (by omega))⟩
end Go.Proofs.Ytkjaeodnpgpfeaa.WalkWorkerRows
