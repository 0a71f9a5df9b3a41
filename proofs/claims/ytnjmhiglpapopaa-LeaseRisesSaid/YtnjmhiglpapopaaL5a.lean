/-
  Proved here: a step's kind; the first 80 steps. No condition.
-/
import Derived.Test.YtnjmhiglpapopaaL4
import Derived.Test.YtnjmhiglpapopaaO
import Derived.Test.YtnjmhiglpapopaaPLeaseKeepsx0
namespace Go.Proofs.Ytnjmhiglpapopaa.L5a
open Go.RowKit Go.Proofs.Ytnjmhiglpapopaa.M Go.Proofs.Ytnjmhiglpapopaa.L0 Go.Proofs.YtnjmhiglpapopaaW.PrintWords Go.Proofs.YtnjmhiglpapopaaW.PrintLast Go.Proofs.YtnjmhiglpapopaaW.PrintMore
open PLeaseKeeps (S35 k35 z35 k35_open rd_T35 info35 k35_mkM k35_mk)
set_option linter.unusedVariables false
set_option linter.unusedSimpArgs false
attribute [local go_sem] max2_int min2_int max_two min_two

def kd (n : Int) : Int := (n % 18446744073709551616) % 4
theorem kd_cases (n : Int) : kd n = 0 ∨ kd n = 1 ∨ kd n = 2 ∨ kd n = 3 := by unfold kd; omega
theorem wrap64_eq {n : Int} (h : -9223372036854775808 ≤ n) (h1 : n ≤ 9223372036854775807) : wrap64 n = n := by unfold wrap64; omega
theorem u64_wrap (n : Int) : IntKind.u64.wrap n = n % 18446744073709551616 := by
  have h : IntKind.u64.wrap n = n.emod 18446744073709551616 := by simp [IntKind.wrap]; rfl
  exact h
theorem raw_mod (n k : Int) (hk : 0 < k) (hk' : k ≤ 1073741824) : wrap64 ((IntKind.u64.wrap n).tmod k) = (n % 18446744073709551616) % k := by
  rw [u64_wrap, Int.tmod_eq_emod_of_nonneg (Int.emod_nonneg _ (by decide))]
  have h1 := Int.emod_nonneg (n % 18446744073709551616) (by omega : k ≠ 0)
  have h2 := Int.emod_lt_of_pos (n % 18446744073709551616) hk
  exact wrap64_eq (by omega) (by omega)
theorem ret_int {k : IntKind} {a b : Int} (h : a = b) : Ending.returned (.int k a) = .returned (.int k b) := by rw [h]
theorem kind_q (x0 x1 x2 x3 x4 : Int) (s : ByteArray) (w : World) : Calls Try.prog 14 #[.agg #[.int .i64 x0, .int .i64 x1, .int .i64 x2, .int .i64 x3, .int .i64 x4, .string s]] w fun e w' => e = .returned (.int .i64 (kd x0)) ∧ Below w.heap.size w w' := by
  have HB := Aside0.mk (Below.refl w.heap.size w)
  go_enter Try.func14, Try.ntmps14
  go_wp2
  go_ret
  exact ⟨ret_int (raw_mod _ _ (by decide) (by decide)), by repeat (first | (with_reducible first | exact HB.out | apply below_alloc | apply pw_below_drewN | apply below_drew1) | refine below_set ?_ (by omega))⟩

/-- A row's element, where it lies. -/
theorem C_at {w : World} {A : Option Addr} {n : Nat} {xs : List S35} (hC : Kd.C k35 w A n xs) (k : Nat) (hk : k < n) :
    ∃ (rb ro : Nat) (x0 x1 x2 x3 x4 : Int) (s : ByteArray), A = some ⟨rb, ro, none⟩ ∧ rb < w.heap.size ∧ w.cell? ⟨rb, ro + k * 6, none⟩ = some (.int .i64 x0) ∧ w.cell? ⟨rb, ro + k * 6 + 1, none⟩ = some (.int .i64 x1) ∧ w.cell? ⟨rb, ro + k * 6 + 2, none⟩ = some (.int .i64 x2) ∧
      w.cell? ⟨rb, ro + k * 6 + 3, none⟩ = some (.int .i64 x3) ∧ w.cell? ⟨rb, ro + k * 6 + 4, none⟩ = some (.int .i64 x4) ∧ w.cell? ⟨rb, ro + k * 6 + 5, none⟩ = some (.string s) := by
  obtain ⟨ad0, cs0, e_, hl0, hK0, hcell0⟩ := Kd.C_get hC z35 0 (by omega) (by omega)
  obtain rfl := k35_open hK0
  have g0 := hcell0 0 _ rfl
  have hsz : k35.sz = 6 := rfl
  rw [show Int.toNat 0 * k35.sz + 0 = 0 from rfl, show ad0.add 0 = ad0 from rfl] at g0
  have hsp := World.cell?_spot g0
  obtain ⟨ad, cs, e2_, hl, hK, hcell⟩ := Kd.C_get hC z35 (k : Int) (by omega) (by omega)
  obtain rfl : ad0 = ad := by rw [e_] at e2_; exact Option.some.inj e2_
  subst e_
  obtain rfl := k35_open hK
  have e0 := hcell 0 _ rfl
  have e1 := hcell 1 _ rfl
  have e2 := hcell 2 _ rfl
  have e3 := hcell 3 _ rfl
  have e4 := hcell 4 _ rfl
  have e5 := hcell 5 _ rfl
  rw [hsz] at e0 e1 e2 e3 e4 e5
  obtain ⟨rb, ro, sp⟩ := ad0
  dsimp only at hsp
  subst hsp
  simp only [O.add_at, Int.toNat_natCast, Nat.add_zero, ← Nat.add_assoc] at e0 e1 e2 e3 e4 e5
  exact ⟨rb, ro, _, _, _, _, _, _, rfl, World.block_lt_of_cell? w _ e0, e0, e1, e2, e3, e4, e5⟩

set_option maxRecDepth 100000 in
set_option maxHeartbeats 4000000 in
theorem early_own (A : Option Addr) (c : Nat) (l : List S35) (w : World) (hr : Kd.C k35 w A l.length l) (hc : l.length ≤ c) :
    Calls Try.prog 13 #[.slice A l.length c] w fun e w' => ∃ (v : Value) (xs : List S35), e = .returned v ∧ xs.length ≤ 80 ∧ Kd.R k35 35 w' w.heap.size (fun _ => True) v xs ∧ Below w.heap.size w w' := by
  have HR := Aside0.mk hr
  have HC := Aside0.mk hc
  clear hr hc
  have HB := Aside0.mk (Below.refl w.heap.size w)
  have hu35 := Try.underlying35
  go_enter Try.func13, Try.ntmps13
  go_wp2
  go_loopw [3, 4] (fun v3 v4 wr => ∃ (i : Nat) (x : List S35), v4 = .int .i64 i ∧ i ≤ 80 ∧ i ≤ l.length ∧ Aside0 (x.length = i) ∧ Aside0 (Kd.R k35 35 wr w.heap.size (fun _ => True) v3 x) ∧ Aside0 (Below w.heap.size w wr)) (fun _ v4 _ => 80 - (intOf v4).toNat)
  case atStart => exact ⟨0, [], rfl, by omega, by omega, ⟨rfl⟩, ⟨Kd.R_nil _ _ _ _ _⟩, HB⟩
  case round =>
    obtain ⟨i, x, rfl, hi80, hil, HX, HO, HB⟩ := hrel
    by_cases h1 : i < l.length
    · have hi1 : decide ((i : Int) < (l.length : Int)) = true := by simp; omega
      by_cases h2 : i < 80
      · have hi2 : decide ((i : Int) < 80) = true := by simp; omega
        obtain ⟨rb, ro, x0, x1, x2, x3, x4, s, rfl, hrb, c0, c1, c2, c3, c4, c5⟩ := C_at (Kd.C_below HR.out HB.out) i h1
        obtain ⟨j, hj⟩ : ∃ j : Int, (if 20 < (s.size : Int) then 20 else (s.size : Int)) = j := ⟨_, rfl⟩
        have hj0 : 0 ≤ j := by rw [← hj]; split <;> omega
        have hj1 : j ≤ (s.size : Int) := by rw [← hj]; split <;> omega
        have hilt : (i : Int) < (l.length : Int) := by omega
        clear hil hi80
        go_wp2_with (
          (with_reducible refine gate_builtin (b := .append) (xs := #[.tmp 28, .tmp 30]) rfl ?_)
          at_builtin
          refine Kd.R_append k35 (w0 := w) w.heap.size rfl (.tmp 28) (.tmp 30) 32 35 (.agg #[(.int .i64 0), (.int .i64 0), (.int .i64 0), (.int .i64 0), (.int .i64 0), (.string ⟨#[]⟩)]) 56 rfl Try.underlying32 info35 rfl (by decide) (by omega) u3 x (⟨x0, x1, x2, x3, x4, s.extract 0 j.toNat⟩ : S35) [.int .i64 x0, .int .i64 x1, .int .i64 x2, .int .i64 x3, .int .i64 x4, .string (s.extract 0 j.toNat)] (fun _ => True) (fun _ => False) rfl (by first | (go_simp; done) | (go_simp; rfl)) ?aP (fun _ hk => hk.elim) (fun _ _ => trivial) ?aO ?aB ?aS ?aL ?_
          case aP => exact k35_mkM _ _ _ (⟨x0, x1, x2, x3, x4, s.extract 0 j.toNat⟩ : S35)
          case aO => exact (by (with_reducible repeat (first | apply Kd.R_alloc | apply Kd.R_drewN | apply Kd.R_drew)); exact HO.out)
          case aB => exact (by repeat (first | (with_reducible first | exact HB.out | apply below_alloc | apply pw_below_drewN | apply below_drew1) | refine below_set ?_ (by omega)))
          case aS => exact below_size (by repeat (first | (with_reducible first | exact HB.out | apply below_alloc | apply pw_below_drewN | apply below_drew1) | refine below_set ?_ (by omega)))
          case aL => have := HX.out; omega
          intro v1 w1 ho hb hg hat
          have HO1 := Aside0.mk ho
          have HB1 := Aside0.mk hb
          clear ho hb hg hat)
        go_roundw
        case rel => exact ⟨i + 1, _, by go_num, by omega, by omega, ⟨by rw [List.length_append, HX.out]; rfl⟩, HO1, HB1⟩
        case measure => simp [intOf]; omega
      · have hi2 : decide ((i : Int) < 80) = false := by simp; omega
        go_wp2
        go_ret
        exact ⟨_, x, rfl, by rw [HX.out]; omega, HO.out, HB.out⟩
    · have hi1 : decide ((i : Int) < (l.length : Int)) = false := by simp; omega
      go_wp2
      go_ret
      exact ⟨_, x, rfl, by rw [HX.out]; omega, HO.out, HB.out⟩
end Go.Proofs.Ytnjmhiglpapopaa.L5a
