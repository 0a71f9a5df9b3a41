/-
  Proved here: what kv's why answers. No condition but how the slice reads, and its length.
-/
import Derived.Test.YtnmnojapacflgaaK2
namespace Go.Proofs.Ytnmnojapacflgaa.K3
open Go.Proofs.Ytnmnojapacflgaa.M Go.Proofs.Ytnmnojapacflgaa.K0 Go.RowKit Go.Maps Go.Sort Go.Proofs.YtnmnojapacflgaaW.PrintWords Go.Proofs.YtnmnojapacflgaaW.PrintLast Go.Proofs.YtnmnojapacflgaaW.PrintMore Go.Proofs.Ytnmnojapacflgaa.PKvPlays Go.Proofs.Ytnmnojapacflgaa.K1 Go.Proofs.Ytnmnojapacflgaa.K2
set_option linter.unusedVariables false
set_option linter.unusedSimpArgs false
theorem field_entry (x y : Value) (w : World) : (Instr.field 61 (.agg #[x, y]) 1).run Try.prog w = .ok y w := by
  simp [Instr.field, run_underlying Try.underlying61, part, asAgg, Result.andThen]
attribute [local go_sem] max2_int min2_int max_two min_two run_makeMap field_entry

section
variable {ops : Array Oper} {rest : List Oper} {o : Oper} {a : Act} {Q : Exit → Act → World → Prop} {q : Nat} {L : List S72}
theorem wpList_lenK (w : World) (hg : o.guard = none) (m : Operand) (hop : o.op = Op.call { callee := Callee.builtin Builtin.len, args := #[m], argTypes := #[56] }) (hm : a.eval m = .map (some q)) (h : KM w q L)
    (hK : wpList Try.prog ops Q rest (a.put o.dst (.int .i64 (L.length : Int))) w) : wpList Try.prog ops Q (o :: rest) a w := by
  obtain ⟨D, ho, hd⟩ := h.own
  refine wpList_len_own w hg m 56 hop 9 61 Try.underlying56 Rs q L.length D hm ho ?_
  rw [hd.size h.rise ho]
  exact hK
end
def whyFrom (L : List S72) : List S53 → Int → Bool → Int
  | [], n, z => if z = true then 5 else if decide (64 < n) = true then 4 else 0
  | e :: r, n, z =>
    if (decide (0 ≤ e.f2) && e.f2 != (K0.look L e.f0).2) = true then 7
    else if e.f3 = true then whyFrom L r (n - 1) (z || (K0.look L e.f0).2 == 0)
    else if ((K0.look L e.f0).2 == 0) = true then whyFrom L r (n + 1) z
    else whyFrom L r n z
theorem whyFrom_nil (L : List S72) (n : Int) (z : Bool) : whyFrom L [] n z = if z = true then 5 else if decide (64 < n) = true then 4 else 0 := rfl
theorem whyFrom_cons (L : List S72) (e : S53) (r : List S53) (n : Int) (z : Bool) : whyFrom L (e :: r) n z =
    if (decide (0 ≤ e.f2) && e.f2 != (K0.look L e.f0).2) = true then 7
    else if e.f3 = true then whyFrom L r (n - 1) (z || (K0.look L e.f0).2 == 0)
    else if ((K0.look L e.f0).2 == 0) = true then whyFrom L r (n + 1) z
    else whyFrom L r n z := rfl
/-- Why ops may not be done. -/
def whyL (L : List S72) (l : List S53) : Int := if rightB l = true then whyFrom L l L.length false else 1
theorem rightFrom_short : ∀ (l : List S53) (seen : List ByteArray), rightFrom seen l = true → ∀ e ∈ l, e.f0.size ≤ 64
  | [], _, _, e, he => by cases he
  | x :: r, seen, h, e, he => by
    unfold rightFrom at h
    simp only [Bool.and_eq_true] at h
    rcases List.mem_cons.1 he with rfl | he
    · have h1 := h.1.1
      unfold okOp at h1
      simp only [Bool.not_eq_true', Bool.or_eq_false_iff, decide_eq_false_iff_not] at h1
      omega
    · exact rightFrom_short r _ h.2 e he
theorem rightB_short {l : List S53} (h : rightB l = true) : ∀ e ∈ l, e.f0.size ≤ 64 := by
  unfold rightB at h
  simp only [Bool.and_eq_true] at h
  exact rightFrom_short l [] h.1
theorem why_nil (A : Option Addr) (c0 : Nat) (l : List S53) (w : World) : Calls Try.prog 25 #[.pointer none, .slice A l.length c0] w fun e w' => e = .returned (.int .i64 1) ∧ Below w.heap.size w w' := by
  have HB := Aside0.mk (Below.refl w.heap.size w)
  go_enter Try.func25, Try.ntmps25
  go_wp2
  go_ret
  exact ⟨rfl, by repeat (first | (with_reducible first | exact HB.out | apply below_alloc | apply pw_below_drewN | apply below_drew1) | refine below_set ?_ (by omega))⟩
set_option maxHeartbeats 4000000 in
set_option maxRecDepth 100000 in
theorem why_q (g q : Nat) (rev : Int) (L : List S72) (A : Option Addr) (c0 : Nat) (l : List S53) (w : World) (h : Kv w g q rev L) (hC : Kd.C k53 w A l.length l) (hc : l.length ≤ c0) (hs : l.length ≤ 1000 ∧ L.length ≤ 1000) : Calls Try.prog 25 #[.pointer (some ⟨g, 0, none⟩), .slice A l.length c0] w fun e w' => e = .returned (.int .i64 (whyL L l)) ∧ Below w.heap.size w w' := by
  have HB := Aside0.mk (Below.refl w.heap.size w)
  have HC := Aside0.mk hC
  have HLC := Aside0.mk hc
  have HS := Aside0.mk hs
  have HKv := Aside0.mk h
  clear hC hc hs h
  go_enter Try.func25, Try.ntmps25
  go_wp2_with fail
  refine (right_q A c0 l _ HC.out HLC.out).mono ?_
  rintro e w1 ⟨rfl, hb1⟩
  have HKn := Aside0.mk (Kv.below HKv.out hb1)
  clear HKv
  have HKv := HKn
  clear HKn
  have n0 := Aside0.mk (below_step (by repeat (first | (with_reducible first | exact HB.out | apply below_alloc | apply pw_below_drewN | apply below_drew1) | refine below_set ?_ (by omega))) hb1)
  clear HB hb1
  have HB := n0
  clear n0
  cases hrt : rightB l
  · have HE : Aside0 (whyL L l = 1) := ⟨by unfold whyL; rw [hrt]; rfl⟩
    clear hrt
    go_wp2
    go_ret
    exact ⟨by rw [HE.out]; rfl, by repeat (first | (with_reducible first | exact HB.out | apply below_alloc | apply pw_below_drewN | apply below_drew1) | refine below_set ?_ (by omega))⟩
  have HE : Aside0 (whyL L l = whyFrom L l L.length false) := ⟨by unfold whyL; rw [hrt]; rfl⟩
  have HSH := Aside0.mk (rightB_short hrt)
  clear hrt
  have D := HKv.out.blk
  have D_0 := blk_cell D 0
  have D_1 := blk_cell D 1
  simp only [List.getElem?_toArray, List.getElem?_cons_zero, List.getElem?_cons_succ] at D_0 D_1
  have D_z0 := blk_frozen D 0
  have D_z1 := blk_frozen D 1
  have D_l := blk_lt D
  have HD := Aside0.mk D
  clear D
  go_upto_region 4 with (at_len; refine wpList_lenK _ rfl _ rfl rfl HKv.out.map ?_)
  go_wp2_with fail
  clear D_0 D_1 D_z0 D_z1 D_l HD
  have hmx := Kd.C_max HC.out
  have hS1 := HS.out.1
  have hS2 := HS.out.2
  go_loopw [5, 6, 24] (fun v5 v6 v24 wr => ∃ (i n : Int) (z : Bool), v24 = .int .i64 i ∧ v5 = .int .i64 n ∧ v6 = .bool z ∧ Aside0 (0 ≤ i ∧ i ≤ l.length ∧ (L.length : Int) - i ≤ n ∧ n ≤ (L.length : Int) + i) ∧ Aside0 (whyL L l = whyFrom L (l.drop i.toNat) n z) ∧ Aside0 (Kv wr g q rev L) ∧ Aside0 (Below w.heap.size w wr)) (fun _ _ v24 _ => (l.length + 5 - intOf v24).toNat)
  case atStart => exact ⟨0, L.length, false, rfl, rfl, rfl, ⟨by omega⟩, ⟨HE.out⟩, HKv, ⟨by repeat (first | (with_reducible first | exact HB.out | apply below_alloc | apply pw_below_drewN | apply below_drew1) | refine below_set ?_ (by omega))⟩⟩
  case round =>
    clear HB HKv
    obtain ⟨i, n, z, rfl, rfl, rfl, HI, HF, HKv, HB⟩ := hrel
    obtain ⟨wq, hwq⟩ : ∃ x, x = wr := ⟨_, rfl⟩
    subst hwq
    by_cases hi : i < l.length
    · have t1 : decide (i < (l.length : Int)) = true := decide_eq_true hi
      have hi0 : 0 ≤ i := HI.out.1
      have HIL := Aside0.mk (And.intro hi0 hi)
      have hkn : i.toNat < l.length := by omega
      obtain ⟨kb, ko, rfl, hkb, ck0, ck1, ck2, ck3⟩ := el53 (Kd.C_below HC.out HB.out) i hi0 hi
      have hdr : l.drop i.toNat = l.getD i.toNat z53 :: l.drop (i + 1).toNat := by
        rw [show (i + 1).toNat = i.toNat + 1 by omega, List.drop_eq_getElem_cons hkn]
        simp [hkn]
      have hin : l.getD i.toNat z53 ∈ l := by rw [List.getD_eq_getElem?_getD, List.getElem?_eq_getElem hkn]; exact List.getElem_mem hkn
      obtain ⟨⟨kk, vv, rr, dd⟩, he⟩ : ∃ e, l.getD i.toNat z53 = e := ⟨_, rfl⟩
      rw [he] at ck0 ck1 ck2 ck3 hdr hin
      dsimp only at ck0 ck1 ck2 ck3
      have hsz : kk.size ≤ maxLen := Nat.le_trans (HSH.out _ hin) (by decide)
      rw [hdr, whyFrom_cons] at HF
      dsimp only at HF
      obtain ⟨⟨ov, orv⟩, hor⟩ : ∃ x, K0.look L kk = x := ⟨_, rfl⟩
      rw [hor] at HF
      dsimp only at HF
      have HSZ := Aside0.mk hsz
      have HOR := Aside0.mk hor
      clear he hdr hkn hin hsz hor
      go_upto_region 8 with fail
      have S : IsBlk (wq.alloc (.cells #[.string kk, .string vv, .int .i64 rr, .bool dd] 53)) wq.heap.size #[.string kk, .string vv, .int .i64 rr, .bool dd] 53 := IsBlk.new _ _ rfl
      have HKn : Aside0 (Kv (wq.alloc (.cells #[.string kk, .string vv, .int .i64 rr, .bool dd] 53)) g q rev L) := ⟨HKv.out.alloc _⟩
      have HBn : Aside0 (Below w.heap.size w (wq.alloc (.cells #[.string kk, .string vv, .int .i64 rr, .bool dd] 53))) := ⟨below_alloc HB.out _⟩
      clear HKv HB ck0 ck1 ck2 ck3 hkb
      generalize (wq.alloc (.cells #[.string kk, .string vv, .int .i64 rr, .bool dd] 53)) = w1 at *
      have HKv := HKn
      have HB := HBn
      clear HKn HBn
      obtain ⟨x5, hx5⟩ : ∃ x, wq.heap.size = x := ⟨_, rfl⟩
      rw [hx5] at S ⊢
      clear hx5
      have S_0 := blk_cell S 0
      have S_1 := blk_cell S 1
      have S_2 := blk_cell S 2
      have S_3 := blk_cell S 3
      simp only [List.getElem?_toArray, List.getElem?_cons_zero, List.getElem?_cons_succ] at S_0 S_1 S_2 S_3
      have S_z0 := blk_frozen S 0
      have S_z1 := blk_frozen S 1
      have S_z2 := blk_frozen S 2
      have S_z3 := blk_frozen S 3
      have S_l := blk_lt S
      have HS := Aside0.mk S
      clear S
      have D := HKv.out.blk
      have D_0 := blk_cell D 0
      have D_1 := blk_cell D 1
      simp only [List.getElem?_toArray, List.getElem?_cons_zero, List.getElem?_cons_succ] at D_0 D_1
      have D_z0 := blk_frozen D 0
      have D_z1 := blk_frozen D 1
      have D_l := blk_lt D
      have HD := Aside0.mk D
      clear D
      have hlookd := HKv.out.map.drew.look HSZ.out
      rw [HOR.out] at hlookd
      replace hlookd : (Instr.lookup 56 (.map (some q)) (.string kk) false).run Try.prog w1.drew = .ok (.agg #[.string ov, .int .i64 orv]) w1.drew := hlookd
      refine start_ (n := 9) (S := fun w' => w'.cell? ⟨g, 0, none⟩ = some (.map (some q)) ∧ w'.cell? ⟨x5, 0, none⟩ = some (.string kk) ∧ (Instr.lookup 56 (.map (some q)) (.string kk) false).run Try.prog w' = .ok (.agg #[.string ov, .int .i64 orv]) w') (ds := []) #[false, false, false, false, false, false, false, false, false] (by kernel_rfl) rfl rfl ⟨D_0, S_0, hlookd⟩ (fun hHeld => ?_)
      refine pure_ (i := 0) (N := some 28) (v := ?_) (a' := ?_) #[true, false, false, false, false, false, false, false, false] rfl rfl (by kernel_rfl) (fun _ _ _ h => h) (Or.inl ⟨by rfl, ?_⟩) ?_ ?_
      rotate_left
      · intro w'
        go_simp
        with_reducible rfl
      rotate_left
      · simp only [Act.put, List.setIfInBounds_toArray, List.set_cons_zero, List.set_cons_succ, i64_w, i32_w]
        rfl
      refine pure_ (i := 1) (N := some 29) (v := ?_) (a' := ?_) #[true, true, false, false, false, false, false, false, false] rfl rfl (by kernel_rfl) (fun _ _ _ h => h) (Or.inl ⟨by rfl, ?_⟩) ?_ ?_
      rotate_left
      · intro w'
        go_simp
        with_reducible rfl
      rotate_left
      · simp only [Act.put, List.setIfInBounds_toArray, List.set_cons_zero, List.set_cons_succ, i64_w, i32_w]
        rfl
      refine pure_ (i := 2) (N := some 30) (v := ?_) (a' := ?_) #[true, true, true, false, false, false, false, false, false] rfl rfl (by kernel_rfl) (fun _ _ _ h => h) (Or.inl ⟨by rfl, ?_⟩) ?_ ?_
      rotate_left
      · intro w'
        go_simp
        with_reducible rfl
      rotate_left
      · simp only [Act.put, List.setIfInBounds_toArray, List.set_cons_zero, List.set_cons_succ, i64_w, i32_w]
        rfl
      refine pure_ (i := 4) (N := some 32) (v := ?_) (a' := ?_) #[true, true, true, false, true, false, false, false, false] rfl rfl (by kernel_rfl) (fun _ _ _ h => h) (Or.inl ⟨by rfl, ?_⟩) ?_ ?_
      rotate_left
      · intro w'
        go_simp
        with_reducible rfl
      rotate_left
      · simp only [Act.put, List.setIfInBounds_toArray, List.set_cons_zero, List.set_cons_succ, i64_w, i32_w]
        rfl
      refine take_ (i := 3) (N := some 31) (v := ?_) (a' := ?_) #[true, true, true, true, true, false, false, false, false] rfl rfl (by kernel_rfl) (fun _ _ _ h => h) (Or.inl ⟨by rfl, ?_⟩) hHeld ?_ ?_
      rotate_left
      · rintro w' ⟨s0, s1, s2⟩
        go_simp
        with_reducible rfl
      rotate_left
      · simp only [Act.put, List.setIfInBounds_toArray, List.set_cons_zero, List.set_cons_succ, i64_w, i32_w]
        rfl
      refine take_ (i := 5) (N := some 33) (v := ?_) (a' := ?_) #[true, true, true, true, true, true, false, false, false] rfl rfl (by kernel_rfl) (fun _ _ _ h => h) (Or.inl ⟨by rfl, ?_⟩) hHeld ?_ ?_
      rotate_left
      · rintro w' ⟨s0, s1, s2⟩
        go_simp
        with_reducible rfl
      rotate_left
      · simp only [Act.put, List.setIfInBounds_toArray, List.set_cons_zero, List.set_cons_succ, i64_w, i32_w]
        rfl
      refine take_ (i := 6) (N := some 34) (v := ?_) (a' := ?_) #[true, true, true, true, true, true, true, false, false] rfl rfl (by kernel_rfl) (fun _ _ _ h => h) (Or.inl ⟨by rfl, ?_⟩) hHeld ?_ ?_
      rotate_left
      · rintro w' ⟨s0, s1, s2⟩
        go_simp
        with_reducible rfl
      rotate_left
      · simp only [Act.put, List.setIfInBounds_toArray, List.set_cons_zero, List.set_cons_succ, i64_w, i32_w]
        rfl
      refine pure_ (i := 7) (N := some 35) (v := ?_) (a' := ?_) #[true, true, true, true, true, true, true, true, false] rfl rfl (by kernel_rfl) (fun _ _ _ h => h) (Or.inl ⟨by rfl, ?_⟩) ?_ ?_
      rotate_left
      · intro w'
        go_simp
        with_reducible rfl
      rotate_left
      · simp only [Act.put, List.setIfInBounds_toArray, List.set_cons_zero, List.set_cons_succ, i64_w, i32_w]
        rfl
      refine pure_ (i := 8) (N := some 9) (v := ?_) (a' := ?_) #[true, true, true, true, true, true, true, true, true] rfl rfl (by kernel_rfl) (fun _ _ _ h => h) (Or.inl ⟨by rfl, ?_⟩) ?_ ?_
      rotate_left
      · intro w'
        go_simp
        with_reducible rfl
      rotate_left
      · simp only [Act.put, List.setIfInBounds_toArray, List.set_cons_zero, List.set_cons_succ, i64_w, i32_w]
        rfl
      refine done_ (by kernel_rfl) ?_

      have HKn : Aside0 (Kv w1.drew g q rev L) := ⟨HKv.out.drew⟩
      have HBn : Aside0 (Below w.heap.size w w1.drew) := ⟨below_drew1 HB.out⟩
      clear HKv HB hlookd
      have HKv := HKn
      have HB := HBn
      clear HKn HBn
      cases y1 : decide (0 ≤ rr)
      · skip
        cases dd
        · cases y4 : (orv == 0)
          · skip
            have HN : Aside0 (whyL L l = whyFrom L (l.drop (i + 1).toNat) (n) (z)) := ⟨by rw [HF.out]; simp [y1, y4]⟩
            have hw1 : wrap64 (n) = n := wrap64_eq (by have := HI.out; have := HIL.out; omega) (by have := HI.out; have := HIL.out; omega)
            clear HF
            go_wp2
            go_roundw
            case rel => exact ⟨i + 1, n, z, rfl, by first | rfl | rw [hw1], rfl, ⟨by have := HIL.out; have := HI.out; omega⟩, ⟨by have h9 := HN.out; simpa using h9⟩, HKv, HB⟩
            case measure => have := HIL.out; simp only [intOf]; omega
          · skip
            have HN : Aside0 (whyL L l = whyFrom L (l.drop (i + 1).toNat) (n + 1) (z)) := ⟨by rw [HF.out]; simp [y1, y4]⟩
            have hw1 : wrap64 (n + 1) = n + 1 := wrap64_eq (by have := HI.out; have := HIL.out; omega) (by have := HI.out; have := HIL.out; omega)
            clear HF
            go_wp2
            go_roundw
            case rel => exact ⟨i + 1, n + 1, z, rfl, by first | rfl | rw [hw1], rfl, ⟨by have := HIL.out; have := HI.out; omega⟩, ⟨by have h9 := HN.out; simpa using h9⟩, HKv, HB⟩
            case measure => have := HIL.out; simp only [intOf]; omega
        · cases z
          · cases y4 : (orv == 0)
            · skip
              have HN : Aside0 (whyL L l = whyFrom L (l.drop (i + 1).toNat) (n - 1) (false)) := ⟨by rw [HF.out]; simp [y1, y4]⟩
              have hw1 : wrap64 (n - 1) = n - 1 := wrap64_eq (by have := HI.out; have := HIL.out; omega) (by have := HI.out; have := HIL.out; omega)
              clear HF
              go_wp2
              go_roundw
              case rel => exact ⟨i + 1, n - 1, false, rfl, by first | rfl | rw [hw1], rfl, ⟨by have := HIL.out; have := HI.out; omega⟩, ⟨by have h9 := HN.out; simpa using h9⟩, HKv, HB⟩
              case measure => have := HIL.out; simp only [intOf]; omega
            · skip
              have HN : Aside0 (whyL L l = whyFrom L (l.drop (i + 1).toNat) (n - 1) (true)) := ⟨by rw [HF.out]; simp [y1, y4]⟩
              have hw1 : wrap64 (n - 1) = n - 1 := wrap64_eq (by have := HI.out; have := HIL.out; omega) (by have := HI.out; have := HIL.out; omega)
              clear HF
              go_wp2
              go_roundw
              case rel => exact ⟨i + 1, n - 1, true, rfl, by first | rfl | rw [hw1], rfl, ⟨by have := HIL.out; have := HI.out; omega⟩, ⟨by have h9 := HN.out; simpa using h9⟩, HKv, HB⟩
              case measure => have := HIL.out; simp only [intOf]; omega
          · skip
            have HN : Aside0 (whyL L l = whyFrom L (l.drop (i + 1).toNat) (n - 1) (true)) := ⟨by rw [HF.out]; simp [y1]⟩
            have hw1 : wrap64 (n - 1) = n - 1 := wrap64_eq (by have := HI.out; have := HIL.out; omega) (by have := HI.out; have := HIL.out; omega)
            clear HF
            go_wp2
            go_roundw
            case rel => exact ⟨i + 1, n - 1, true, rfl, by first | rfl | rw [hw1], rfl, ⟨by have := HIL.out; have := HI.out; omega⟩, ⟨by have h9 := HN.out; simpa using h9⟩, HKv, HB⟩
            case measure => have := HIL.out; simp only [intOf]; omega
      · cases y2 : (rr != orv)
        · skip
          cases dd
          · cases y4 : (orv == 0)
            · skip
              have HN : Aside0 (whyL L l = whyFrom L (l.drop (i + 1).toNat) (n) (z)) := ⟨by rw [HF.out]; simp [y1, y2, y4]⟩
              have hw1 : wrap64 (n) = n := wrap64_eq (by have := HI.out; have := HIL.out; omega) (by have := HI.out; have := HIL.out; omega)
              clear HF
              go_wp2
              go_roundw
              case rel => exact ⟨i + 1, n, z, rfl, by first | rfl | rw [hw1], rfl, ⟨by have := HIL.out; have := HI.out; omega⟩, ⟨by have h9 := HN.out; simpa using h9⟩, HKv, HB⟩
              case measure => have := HIL.out; simp only [intOf]; omega
            · skip
              have HN : Aside0 (whyL L l = whyFrom L (l.drop (i + 1).toNat) (n + 1) (z)) := ⟨by rw [HF.out]; simp [y1, y2, y4]⟩
              have hw1 : wrap64 (n + 1) = n + 1 := wrap64_eq (by have := HI.out; have := HIL.out; omega) (by have := HI.out; have := HIL.out; omega)
              clear HF
              go_wp2
              go_roundw
              case rel => exact ⟨i + 1, n + 1, z, rfl, by first | rfl | rw [hw1], rfl, ⟨by have := HIL.out; have := HI.out; omega⟩, ⟨by have h9 := HN.out; simpa using h9⟩, HKv, HB⟩
              case measure => have := HIL.out; simp only [intOf]; omega
          · cases z
            · cases y4 : (orv == 0)
              · skip
                have HN : Aside0 (whyL L l = whyFrom L (l.drop (i + 1).toNat) (n - 1) (false)) := ⟨by rw [HF.out]; simp [y1, y2, y4]⟩
                have hw1 : wrap64 (n - 1) = n - 1 := wrap64_eq (by have := HI.out; have := HIL.out; omega) (by have := HI.out; have := HIL.out; omega)
                clear HF
                go_wp2
                go_roundw
                case rel => exact ⟨i + 1, n - 1, false, rfl, by first | rfl | rw [hw1], rfl, ⟨by have := HIL.out; have := HI.out; omega⟩, ⟨by have h9 := HN.out; simpa using h9⟩, HKv, HB⟩
                case measure => have := HIL.out; simp only [intOf]; omega
              · skip
                have HN : Aside0 (whyL L l = whyFrom L (l.drop (i + 1).toNat) (n - 1) (true)) := ⟨by rw [HF.out]; simp [y1, y2, y4]⟩
                have hw1 : wrap64 (n - 1) = n - 1 := wrap64_eq (by have := HI.out; have := HIL.out; omega) (by have := HI.out; have := HIL.out; omega)
                clear HF
                go_wp2
                go_roundw
                case rel => exact ⟨i + 1, n - 1, true, rfl, by first | rfl | rw [hw1], rfl, ⟨by have := HIL.out; have := HI.out; omega⟩, ⟨by have h9 := HN.out; simpa using h9⟩, HKv, HB⟩
                case measure => have := HIL.out; simp only [intOf]; omega
            · skip
              have HN : Aside0 (whyL L l = whyFrom L (l.drop (i + 1).toNat) (n - 1) (true)) := ⟨by rw [HF.out]; simp [y1, y2]⟩
              have hw1 : wrap64 (n - 1) = n - 1 := wrap64_eq (by have := HI.out; have := HIL.out; omega) (by have := HI.out; have := HIL.out; omega)
              clear HF
              go_wp2
              go_roundw
              case rel => exact ⟨i + 1, n - 1, true, rfl, by first | rfl | rw [hw1], rfl, ⟨by have := HIL.out; have := HI.out; omega⟩, ⟨by have h9 := HN.out; simpa using h9⟩, HKv, HB⟩
              case measure => have := HIL.out; simp only [intOf]; omega
        · have HN : Aside0 (whyL L l = 7) := ⟨by rw [HF.out]; simp [y1, y2]⟩
          go_wp2
          go_ret
          exact ⟨by rw [HN.out]; rfl, by repeat (first | (with_reducible first | exact HB.out | apply below_alloc | apply pw_below_drewN | apply below_drew1) | refine below_set ?_ (by omega))⟩
    · have t1 : decide (i < (l.length : Int)) = false := decide_eq_false hi
      obtain rfl : i = (l.length : Int) := by have := HI.out; omega
      rw [show ((l.length : Int)).toNat = l.length by omega, List.drop_length, whyFrom_nil] at HF
      cases z
      · cases y5 : decide (64 < n)
        · have HN : Aside0 (whyL L l = 0) := ⟨by rw [HF.out, y5]; rfl⟩
          go_wp2
          go_ret
          exact ⟨by rw [HN.out]; rfl, by repeat (first | (with_reducible first | exact HB.out | apply below_alloc | apply pw_below_drewN | apply below_drew1) | refine below_set ?_ (by omega))⟩
        · have HN : Aside0 (whyL L l = 4) := ⟨by rw [HF.out, y5]; rfl⟩
          go_wp2
          go_ret
          exact ⟨by rw [HN.out]; rfl, by repeat (first | (with_reducible first | exact HB.out | apply below_alloc | apply pw_below_drewN | apply below_drew1) | refine below_set ?_ (by omega))⟩
      · have HN : Aside0 (whyL L l = 5) := ⟨by rw [HF.out]; rfl⟩
        go_wp2
        go_ret
        exact ⟨by rw [HN.out]; rfl, by repeat (first | (with_reducible first | exact HB.out | apply below_alloc | apply pw_below_drewN | apply below_drew1) | refine below_set ?_ (by omega))⟩
end Go.Proofs.Ytnmnojapacflgaa.K3
