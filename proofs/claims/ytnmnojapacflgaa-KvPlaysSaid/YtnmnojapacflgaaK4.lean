/-
  Proved here: what kv's Do answers and leaves. No condition but how the slice reads, and its length.
-/
import Derived.Test.YtnmnojapacflgaaK3
namespace Go.Proofs.Ytnmnojapacflgaa.K4
open Go.Proofs.Ytnmnojapacflgaa.M Go.Proofs.Ytnmnojapacflgaa.K0 Go.RowKit Go.Maps Go.Sort Go.Proofs.YtnmnojapacflgaaW.PrintWords Go.Proofs.YtnmnojapacflgaaW.PrintLast Go.Proofs.YtnmnojapacflgaaW.PrintMore Go.Proofs.Ytnmnojapacflgaa.PKvPlays Go.Proofs.Ytnmnojapacflgaa.K1 Go.Proofs.Ytnmnojapacflgaa.K2 Go.Proofs.Ytnmnojapacflgaa.K3
set_option linter.unusedVariables false
set_option linter.unusedSimpArgs false
attribute [local go_sem] max2_int min2_int max_two min_two run_makeMap field_entry

section
variable {ops : Array Oper} {rest : List Oper} {o : Oper} {a : Act} {Q : Exit → Act → World → Prop} {q : Nat} {L : List S72}
theorem wpList_deleteK (w : World) (hg : o.guard = none) (m x : Operand) (hop : o.op = Op.call { callee := Callee.builtin Builtin.delete, args := #[m, x], argTypes := #[56, 9] }) (hm : a.eval m = .map (some q)) (h : KM w q L) (k : ByteArray) (hk : k.size ≤ maxLen) (hx : a.eval x = .string k)
    (hK : ∀ w', KM w' q (del L k) → w.grownBy w' (some q) → wpList Try.prog ops Q rest (a.put o.dst (.tuple #[])) w') : wpList Try.prog ops Q (o :: rest) a w := by
  obtain ⟨D, ho, hd⟩ := h.own
  refine wpList_delete_own w hg m x 56 9 hop 61 (string_keyed Try.underlying9) Try.underlying56 Rs q L.length D hm ho (.string k) (LS k) hx (key_of hk) ?_
  intro w' ho2 ht
  have hd2 := hd.del k
  have hr2 := h.rise.del k
  refine hK w' ⟨⟨_, K0.tight ho2 hd2 hr2, hd2⟩, hr2⟩ ?_
  obtain ⟨es, clock, es', clock', hb, rfl⟩ := ht
  exact ⟨rfl, rfl, rfl, by simp [ChangeMaps.setBlock], fun i _ hi => ChangeMaps.heap_setBlock_other hb _ (fun e => hi (by rw [e]))⟩
theorem wpList_putK (w : World) (hg : o.guard = none) (m x v : Operand) (hop : o.op = Op.mapUpdate 56 m x v) (hm : a.eval m = .map (some q)) (h : KM w q L) (k : ByteArray) (hk : k.size ≤ maxLen) (hx : a.eval x = .string k) (hl : L.length < maxLen) (s : ByteArray) (r : Int) (hv : a.eval v = .agg #[.string s, .int .i64 r])
    (hK : ∀ w', KM w' q (ins (del L k) ⟨k, s, r⟩) → w.grownBy w' (some q) → wpList Try.prog ops Q rest (a.put o.dst undef) w') : wpList Try.prog ops Q (o :: rest) a w := by
  refine wpList_plain hg fun K' hK' => ?_
  obtain ⟨w', hrun, r1, r2⟩ := h.store hk hl s r
  have hrun' : (Instr.mapUpdate 56 (.map (some q)) (.string k) (.agg #[.string s, .int .i64 r])).run Try.prog w = .ok () w' := hrun
  unfold Oper.wp
  simp [execOp, hop, hm, hx, hv, hrun', Result.andThen]
  exact hK' _ _ (hK w' r1 r2)
end
theorem kv_cell {w : World} {g q : Nat} {rev : Int} {L : List S72} (h : Kv w g q rev L) {a : Addr} {v : Value} (ha : w.cell? a = some v) : a.block ≠ q ∧ (a.block = g → v = .map (some q) ∨ v = .int .i64 rev) := by
  constructor
  · intro e
    obtain ⟨D, ⟨es, clock, hb, _⟩, _⟩ := h.map.own
    obtain ⟨b, o, sp⟩ := a
    dsimp only at e
    subst e
    simp [World.cell?, hb] at ha
  · intro e
    obtain ⟨b, o, sp⟩ := a
    dsimp only at e
    subst e
    have hs := World.cell?_spot ha
    dsimp only at hs
    subst hs
    rw [blk_cell h.blk] at ha
    match o, ha with
    | 0, ha => exact .inl (by simpa using ha.symm)
    | 1, ha => exact .inr (by simpa using ha.symm)
    | o + 2, ha => simp at ha
theorem c53_but {w w1 : World} {g q : Nat} {rev : Int} {L : List S72} {A : Option Addr} {n : Nat} {xs : List S53} (hk : Kv w g q rev L) (h : Kd.C k53 w A n xs) (hb : But2 w w1 g q) : Kd.C k53 w1 A n xs := by
  refine ⟨h.1, h.2.1, fun hn => ?_⟩
  obtain ⟨ad, e, hc⟩ := h.2.2 hn
  refine ⟨ad, e, fun j p hj => ?_⟩
  obtain ⟨cs, h1, h2, h3⟩ := hc j p hj
  obtain rfl := k53_open h2
  refine ⟨_, h1, k53_mk w1 p, fun i u hu => ?_⟩
  have h4 := h3 i u hu
  have h0 := h3 0 _ rfl
  have hbl : (ad.add (j * k53.sz + i)).block = (ad.add (j * k53.sz + 0)).block := by unfold Addr.add; split <;> split <;> rfl
  have k0 := kv_cell hk h0
  have k1 := kv_cell hk h4
  have hg : (ad.add (j * k53.sz + i)).block ≠ g := fun e2 => by
    rcases k0.2 (hbl ▸ e2) with h5 | h5 <;> cases h5
  have hkp := hb.block _ (World.block_lt_of_cell? w _ h4) hg k1.1
  rw [← h4]
  simp only [World.cell?, hkp]
/-- What one op leaves, at a revision. -/
def opL (rev : Int) (L : List S72) (e : S53) : List S72 := if e.f3 = true then del L e.f0 else ins (del L e.f0) ⟨e.f0, e.f1, rev⟩
theorem ins_len (L : List S72) (e : S72) : (ins L e).length = L.length + 1 := by
  induction L with
  | nil => rfl
  | cons x L ih =>
    unfold ins
    split
    · rfl
    · simp [ih]
theorem del_len (L : List S72) (k : ByteArray) : (del L k).length ≤ L.length := List.length_filter_le _ _
theorem opL_len (rev : Int) (L : List S72) (e : S53) : (opL rev L e).length ≤ L.length + 1 := by
  unfold opL
  have := del_len L e.f0
  split
  · omega
  · rw [ins_len]; omega
theorem fold_len (rev : Int) : ∀ (l : List S53) (L : List S72), (l.foldl (opL rev) L).length ≤ L.length + l.length
  | [], L => Nat.le_refl _
  | e :: l, L => by
    have h1 := fold_len rev l (opL rev L e)
    have h2 := opL_len rev L e
    simp only [List.foldl_cons, List.length_cons]
    omega
/-- What Do answers; the revision then; the entries then. -/
def doL (rev : Int) (L : List S72) (l : List S53) : Int × Int × Int × List S72 :=
  if whyL L l = 0 then (rev + 1, 0, rev + 1, l.foldl (opL (rev + 1)) L) else (0, whyL L l, rev, L)
theorem why_right {L : List S72} {l : List S53} (h : whyL L l = 0) : rightB l = true := by
  unfold whyL at h
  split at h
  · assumption
  · cases h
theorem do_nil (A : Option Addr) (c0 : Nat) (l : List S53) (w : World) : Calls Try.prog 11 #[.pointer none, .slice A l.length c0] w fun e w' => e = .returned (.tuple #[.int .i64 0, .int .i64 1]) ∧ Below w.heap.size w w' := by
  have HB := Aside0.mk (Below.refl w.heap.size w)
  go_enter Try.func11, Try.ntmps11
  go_wp2_with fail
  refine (why_nil A c0 l _).mono ?_
  rintro e w1 ⟨rfl, hb1⟩
  have n0 := Aside0.mk (below_step (by repeat (first | (with_reducible first | exact HB.out | apply below_alloc | apply pw_below_drewN | apply below_drew1) | refine below_set ?_ (by omega))) hb1)
  clear HB hb1
  have HB := n0
  clear n0
  go_wp2
  go_ret2
  exact ⟨rfl, by repeat (first | (with_reducible first | exact HB.out | apply below_alloc | apply pw_below_drewN | apply below_drew1) | refine below_set ?_ (by omega))⟩
set_option maxHeartbeats 4000000 in
set_option maxRecDepth 100000 in
theorem do_no (g q : Nat) (rev : Int) (L : List S72) (A : Option Addr) (c0 : Nat) (l : List S53) (w : World) (h : Kv w g q rev L) (hC : Kd.C k53 w A l.length l) (hc : l.length ≤ c0) (hs : l.length ≤ 1000 ∧ L.length ≤ 1000) (y : Int) (hy : whyL L l = y) (hn : (y != 0) = true) : Calls Try.prog 11 #[.pointer (some ⟨g, 0, none⟩), .slice A l.length c0] w fun e w' => e = .returned (.tuple #[.int .i64 0, .int .i64 y]) ∧ Below w.heap.size w w' := by
  have HB := Aside0.mk (Below.refl w.heap.size w)
  have HC := Aside0.mk hC
  have HLC := Aside0.mk hc
  have HS := Aside0.mk hs
  have HY := Aside0.mk hy
  have HKv := Aside0.mk h
  clear hC hc hs h hy
  go_enter Try.func11, Try.ntmps11
  go_wp2_with fail
  refine (why_q g q rev L A c0 l _ HKv.out HC.out HLC.out HS.out).mono ?_
  rw [HY.out]
  rintro e w1 ⟨rfl, hb1⟩
  have n0 := Aside0.mk (below_step (by repeat (first | (with_reducible first | exact HB.out | apply below_alloc | apply pw_below_drewN | apply below_drew1) | refine below_set ?_ (by omega))) hb1)
  clear HB hb1
  have HB := n0
  clear n0
  go_wp2
  go_ret2
  exact ⟨rfl, by repeat (first | (with_reducible first | exact HB.out | apply below_alloc | apply pw_below_drewN | apply below_drew1) | refine below_set ?_ (by omega))⟩
set_option maxHeartbeats 8000000 in
set_option maxRecDepth 100000 in
theorem do_yes (g q : Nat) (rev : Int) (L : List S72) (A : Option Addr) (c0 : Nat) (l : List S53) (w : World) (h : Kv w g q rev L) (hC : Kd.C k53 w A l.length l) (hc : l.length ≤ c0) (hs : l.length ≤ 1000 ∧ L.length ≤ 1000) (hr : 0 ≤ rev ∧ rev ≤ 1000000) (hy : whyL L l = 0) : Calls Try.prog 11 #[.pointer (some ⟨g, 0, none⟩), .slice A l.length c0] w fun e w' => e = .returned (.tuple #[.int .i64 (rev + 1), .int .i64 0]) ∧ Kv w' g q (rev + 1) (l.foldl (opL (rev + 1)) L) ∧ But2 w w' g q := by
  have HSH := Aside0.mk (rightB_short (why_right hy))
  have HB := Aside0.mk (Below.refl w.heap.size w)
  have HC := Aside0.mk hC
  have HLC := Aside0.mk hc
  have HS := Aside0.mk hs
  have HY := Aside0.mk hy
  have HKv := Aside0.mk h
  have HCQ := Aside0.mk h.map.lt
  have HCG := Aside0.mk (blk_lt h.blk)
  obtain ⟨hr0, hr1⟩ := hr
  have HRV := Aside0.mk (And.intro hr0 hr1)
  clear hC hc hs h hy
  go_enter Try.func11, Try.ntmps11
  go_wp2_with fail
  refine (why_q g q rev L A c0 l _ HKv.out HC.out HLC.out HS.out).mono ?_
  rw [HY.out]
  rintro e w1 ⟨rfl, hb1⟩
  have HKn := Aside0.mk (Kv.below HKv.out hb1)
  have HCn := Aside0.mk (Kd.C_below HC.out hb1)
  clear HKv HC
  have HKv := HKn
  have HC := HCn
  clear HKn HCn
  have n0 := Aside0.mk (below_step (by repeat (first | (with_reducible first | exact HB.out | apply below_alloc | apply pw_below_drewN | apply below_drew1) | refine below_set ?_ (by omega))) hb1)
  clear HB hb1
  have HB := n0
  clear n0
  have D := HKv.out.blk
  have D_0 := blk_cell D 0
  have D_1 := blk_cell D 1
  simp only [List.getElem?_toArray, List.getElem?_cons_zero, List.getElem?_cons_succ] at D_0 D_1
  have D_z0 := blk_frozen D 0
  have D_z1 := blk_frozen D 1
  have D_l := blk_lt D
  have HD := Aside0.mk D
  clear D
  go_upto_region 5 with fail
  have HWn : Aside0 (Kv (w1.setCell ⟨g, 1, none⟩ (.int .i64 (rev + 1))) g q (rev + 1) L) := ⟨⟨blk_set HKv.out.blk 1 _, HKv.out.map.far HKv.out.ne.symm _⟩⟩
  have HB2 : Aside0 (But2 w (w1.setCell ⟨g, 1, none⟩ (.int .i64 (rev + 1))) g q) := ⟨(But2.of_below HB.out g q).own 1 _⟩
  have HC2 : Aside0 (Kd.C k53 (w1.setCell ⟨g, 1, none⟩ (.int .i64 (rev + 1))) A l.length l) := ⟨c53_but HKv.out HC.out ((But2.refl w1 g q).own 1 _)⟩
  clear D_0 D_1 D_z0 D_z1 D_l HD HKv HB HC
  generalize (w1.setCell ⟨g, 1, none⟩ (.int .i64 (rev + 1))) = w2 at *
  have hmx := Kd.C_max HC2.out
  have hS1 := HS.out.1
  have hS2 := HS.out.2
  go_wp2_with fail
  go_loopw [24] (fun v24 wr => ∃ (i : Int), v24 = .int .i64 i ∧ Aside0 (0 ≤ i ∧ i ≤ l.length) ∧ Aside0 (Kv wr g q (rev + 1) ((l.take i.toNat).foldl (opL (rev + 1)) L)) ∧ Aside0 (Kd.C k53 wr A l.length l) ∧ Aside0 (But2 w wr g q)) (fun v24 _ => (l.length + 5 - intOf v24).toNat)
  case atStart => exact ⟨0, rfl, ⟨by omega⟩, HWn, HC2, HB2⟩
  case round =>
    clear HWn HC2 HB2
    obtain ⟨i, rfl, HI, HKv, HC, HB⟩ := hrel
    obtain ⟨wq, hwq⟩ : ∃ x, x = wr := ⟨_, rfl⟩
    subst hwq
    by_cases hi : i < l.length
    · have t1 : decide (i < (l.length : Int)) = true := decide_eq_true hi
      have hi0 : 0 ≤ i := HI.out.1
      have HIL := Aside0.mk (And.intro hi0 hi)
      have hkn : i.toNat < l.length := by omega
      obtain ⟨kb, ko, rfl, hkb, ck0, ck1, ck2, ck3⟩ := el53 HC.out i hi0 hi
      have htk : (l.take (i + 1).toNat).foldl (opL (rev + 1)) L = opL (rev + 1) ((l.take i.toNat).foldl (opL (rev + 1)) L) (l.getD i.toNat z53) := by
        rw [show (i + 1).toNat = i.toNat + 1 by omega, List.take_succ_eq_append_getElem hkn, List.foldl_append]
        simp [hkn]
      have hfl := fold_len (rev + 1) (l.take i.toNat) L
      have htl : (l.take i.toNat).length ≤ l.length := List.length_take_le' _ _
      have hin : l.getD i.toNat z53 ∈ l := by rw [List.getD_eq_getElem?_getD, List.getElem?_eq_getElem hkn]; exact List.getElem_mem hkn
      obtain ⟨⟨kk, vv, rr, dd⟩, he⟩ : ∃ e, l.getD i.toNat z53 = e := ⟨_, rfl⟩
      obtain ⟨M, hM⟩ : ∃ x, (l.take i.toNat).foldl (opL (rev + 1)) L = x := ⟨_, rfl⟩
      rw [he] at ck0 ck1 ck2 ck3 hin htk
      rw [hM] at htk hfl HKv
      dsimp only at ck0 ck1 ck2 ck3
      have HSZ : Aside0 (kk.size ≤ maxLen) := ⟨Nat.le_trans (HSH.out _ hin) (by decide)⟩
      have HML : Aside0 (M.length < maxLen) := ⟨Nat.lt_of_le_of_lt (show M.length ≤ 2000 by omega) (by decide)⟩
      have HTK := Aside0.mk htk
      clear he hM htk hkn hin hfl htl
      go_upto_region 8 with fail
      have S : IsBlk (wq.alloc (.cells #[.string kk, .string vv, .int .i64 rr, .bool dd] 53)) wq.heap.size #[.string kk, .string vv, .int .i64 rr, .bool dd] 53 := IsBlk.new _ _ rfl
      have HKn : Aside0 (Kv (wq.alloc (.cells #[.string kk, .string vv, .int .i64 rr, .bool dd] 53)) g q (rev + 1) M) := ⟨HKv.out.alloc _⟩
      have HBn : Aside0 (But2 w (wq.alloc (.cells #[.string kk, .string vv, .int .i64 rr, .bool dd] 53)) g q) := ⟨HB.out.alloc _⟩
      have HCn : Aside0 (Kd.C k53 (wq.alloc (.cells #[.string kk, .string vv, .int .i64 rr, .bool dd] 53)) (some ⟨kb, ko, none⟩) l.length l) := ⟨Kd.C_alloc HC.out _⟩
      have HQL := Aside0.mk (show g < wq.heap.size ∧ q < wq.heap.size from ⟨blk_lt HKv.out.blk, HKv.out.map.lt⟩)
      clear HKv HB HC ck0 ck1 ck2 ck3 hkb
      generalize (wq.alloc (.cells #[.string kk, .string vv, .int .i64 rr, .bool dd] 53)) = w3 at *
      have HKv := HKn
      have HB := HBn
      have HC := HCn
      clear HKn HBn HCn
      have S_0 := blk_cell S 0
      have S_1 := blk_cell S 1
      have S_2 := blk_cell S 2
      have S_3 := blk_cell S 3
      simp only [List.getElem?_toArray, List.getElem?_cons_zero, List.getElem?_cons_succ] at S_0 S_1 S_2 S_3
      have S_z0 := blk_frozen S 0
      have S_z1 := blk_frozen S 1
      have S_z2 := blk_frozen S 2
      have S_z3 := blk_frozen S 3
      have S_l := blk_lt S
      have HSv := Aside0.mk S
      clear S
      have D := HKv.out.blk
      have D_0 := blk_cell D 0
      have D_1 := blk_cell D 1
      simp only [List.getElem?_toArray, List.getElem?_cons_zero, List.getElem?_cons_succ] at D_0 D_1
      have D_z0 := blk_frozen D 0
      have D_z1 := blk_frozen D 1
      have D_l := blk_lt D
      have HD := Aside0.mk D
      clear D
      cases dd
      · go_upto_region 10 with fail
        refine wp_region_still_tail 13 (by kernel_rfl) (by kernel_rfl) ?_
        simp only [List.take_succ_cons, List.take_zero, List.drop_succ_cons, List.drop_zero]
        repeat still_step
        refine wpStill_nil ?_
        refine wpList_putK _ rfl _ _ _ rfl rfl HKv.out.map.drew kk HSZ.out rfl HML.out vv (rev + 1) rfl ?_
        intro w5 hM5 hg5
        have HKn : Aside0 (Kv w5 g q (rev + 1) (ins (del M kk) ⟨kk, vv, rev + 1⟩)) := ⟨⟨IsBlk.grownBy HKv.out.blk.drew hg5 HKv.out.ne, hM5⟩⟩
        have HBn : Aside0 (But2 w w5 g q) := ⟨HB.out.drew.trans (But2.of_two hg5 g)⟩
        have HCn : Aside0 (Kd.C k53 w5 (some ⟨kb, ko, none⟩) l.length l) := ⟨c53_but HKv.out.drew (Kd.C_drew HC.out) (But2.of_two hg5 g)⟩
        clear hM5 hg5 HKv HB HC S_0 S_1 S_2 S_3 S_z0 S_z1 S_z2 S_z3 S_l HSv D_0 D_1 D_z0 D_z1 D_l HD
        go_wp2
        refine ⟨⟨i + 1, rfl, ⟨by have := HIL.out; omega⟩, ⟨?_⟩, HCn, HBn⟩, ?_⟩
        · rw [HTK.out]; exact HKn.out
        · have := HIL.out; simp only [intOf]; omega
      · go_upto_region 9 with fail
        refine wp_region_still_tail 6 (by kernel_rfl) (by kernel_rfl) ?_
        simp only [List.take_succ_cons, List.take_zero, List.drop_succ_cons, List.drop_zero]
        repeat still_step
        refine wpStill_nil ?_
        refine wpList_deleteK _ rfl _ _ rfl rfl HKv.out.map.drew kk HSZ.out rfl ?_
        intro w5 hM5 hg5
        have HKn : Aside0 (Kv w5 g q (rev + 1) (del M kk)) := ⟨⟨IsBlk.grownBy HKv.out.blk.drew hg5 HKv.out.ne, hM5⟩⟩
        have HBn : Aside0 (But2 w w5 g q) := ⟨HB.out.drew.trans (But2.of_two hg5 g)⟩
        have HCn : Aside0 (Kd.C k53 w5 (some ⟨kb, ko, none⟩) l.length l) := ⟨c53_but HKv.out.drew (Kd.C_drew HC.out) (But2.of_two hg5 g)⟩
        clear hM5 hg5 HKv HB HC S_0 S_1 S_2 S_3 S_z0 S_z1 S_z2 S_z3 S_l HSv D_0 D_1 D_z0 D_z1 D_l HD
        go_wp2
        refine ⟨⟨i + 1, rfl, ⟨by have := HIL.out; omega⟩, ⟨?_⟩, HCn, HBn⟩, ?_⟩
        · rw [HTK.out]; exact HKn.out
        · have := HIL.out; simp only [intOf]; omega
    · have t1 : decide (i < (l.length : Int)) = false := decide_eq_false hi
      obtain rfl : i = (l.length : Int) := by have := HI.out; omega
      have HKn : Aside0 (Kv wq g q (rev + 1) (l.foldl (opL (rev + 1)) L)) := ⟨by have h9 := HKv.out; rw [show ((l.length : Int)).toNat = l.length by omega, List.take_length] at h9; exact h9⟩
      have D := HKn.out.blk
      have D_0 := blk_cell D 0
      have D_1 := blk_cell D 1
      simp only [List.getElem?_toArray, List.getElem?_cons_zero, List.getElem?_cons_succ] at D_0 D_1
      have D_z0 := blk_frozen D 0
      have D_z1 := blk_frozen D 1
      have D_l := blk_lt D
      have HD := Aside0.mk D
      clear D
      clear HKv HC
      go_wp2
      go_ret2
      exact ⟨rfl, HKn.out, HB.out⟩
theorem do_q (g q : Nat) (rev : Int) (L : List S72) (A : Option Addr) (c0 : Nat) (l : List S53) (w : World) (h : Kv w g q rev L) (hC : Kd.C k53 w A l.length l) (hc : l.length ≤ c0) (hs : l.length ≤ 1000 ∧ L.length ≤ 1000) (hr : 0 ≤ rev ∧ rev ≤ 1000000) : Calls Try.prog 11 #[.pointer (some ⟨g, 0, none⟩), .slice A l.length c0] w fun e w' => e = .returned (.tuple #[.int .i64 (doL rev L l).1, .int .i64 (doL rev L l).2.1]) ∧ Kv w' g q (doL rev L l).2.2.1 (doL rev L l).2.2.2 ∧ But2 w w' g q := by
  unfold doL
  by_cases hy : whyL L l = 0
  · rw [if_pos hy]
    exact do_yes g q rev L A c0 l w h hC hc hs hr hy
  · rw [if_neg hy]
    refine (do_no g q rev L A c0 l w h hC hc hs _ rfl (by simpa using hy)).mono ?_
    rintro e w' ⟨rfl, hb⟩
    exact ⟨rfl, h.below hb, But2.of_below hb g q⟩
end Go.Proofs.Ytnmnojapacflgaa.K4
