/-
  Proved here: what a worker's Count and Fall answer and leave. No condition.
-/
import Derived.Test.YtkjaeodnpgpfeaaW5
namespace Go.Proofs.Ytkjaeodnpgpfeaa.W8
open Go.RowKit Go.Maps Go.Sort Go.Shelf Go.Proofs.Ytkjaeodnpgpfeaa.M Go.Proofs.Ytkjaeodnpgpfeaa.S0 Go.Proofs.Ytkjaeodnpgpfeaa.S4 Go.Proofs.Ytkjaeodnpgpfeaa.W0 Go.Proofs.YtkjaeodnpgpfeaaW.PrintWords Go.Proofs.YtkjaeodnpgpfeaaW.PrintLast Go.Proofs.YtkjaeodnpgpfeaaW.PrintMore Go.Proofs.Ytkjaeodnpgpfeaa.W1 Go.Proofs.Ytkjaeodnpgpfeaa.W2 Go.Proofs.Ytkjaeodnpgpfeaa.W3 Go.Proofs.Ytkjaeodnpgpfeaa.W4 Go.Proofs.Ytkjaeodnpgpfeaa.W5
set_option linter.unusedVariables false
set_option linter.unusedSimpArgs false
attribute [local go_sem] max2_int min2_int max_two min_two run_makeMap

/-- How many own units that are no longer to come have a state. -/
def cntL (f : Int → Option Sl) (st : Int) (left : Lit → Bool) : Nat := (ownL f).countP fun k => !left (.int .i64 k) && ((f k).getD zs).st == st
def cntW (f : Int → Option Sl) (st : Int) : Nat := (ownL f).countP fun k => ((f k).getD zs).st == st
theorem cntL_end (f : Int → Option Sl) (st : Int) (left : Lit → Bool) (h : ∀ kl, left kl = false) : cntL f st left = cntW f st := by
  unfold cntL cntW
  refine List.countP_congr fun k _ => ?_
  rw [h]; simp
theorem cntL_le (f : Int → Option Sl) (st : Int) (left : Lit → Bool) : cntL f st left ≤ 16 := Nat.le_trans List.countP_le_length (ownL_len f)
theorem count_step (p : Int → Bool) (left : Int → Bool) (x : Int) : ∀ l : List Int, l.Nodup → x ∈ l → left x = true →
    l.countP (fun k => !(left k && !(k == x)) && p k) = l.countP (fun k => !left k && p k) + if p x = true then 1 else 0
  | [], _, h, _ => by cases h
  | a :: l, hn, h, hl => by
    obtain ⟨h1, h2⟩ := List.nodup_cons.1 hn
    simp only [List.countP_cons]
    by_cases e : a = x
    · subst e
      have hsame : l.countP (fun k => !(left k && !(k == a)) && p k) = l.countP (fun k => !left k && p k) := by
        refine List.countP_congr fun k hk => ?_
        have : ¬ k = a := fun e => h1 (e ▸ hk)
        simp [this]
      rw [hsame]
      simp [hl]
    · have hx : x ∈ l := by
        rcases List.mem_cons.1 h with h3 | h3
        · exact absurd h3.symm e
        · exact h3
      rw [count_step p left x l h2 hx hl]
      have : (a == x) = false := by simp [e]
      simp [this]
      omega
theorem ownL_nodup (f : Int → Option Sl) : (ownL f).Nodup := (ownL_sorted f).imp (fun h => Int.ne_of_lt h)
theorem same_int (k x : Int) : (Lit.int .i64 k).sameKey (.int .i64 x) = (k == x) := by simp [Lit.sameKey, BEq.beq]
theorem cntL_step (f : Int → Option Sl) (st : Int) (left : Lit → Bool) (x : Int) (hx : x ∈ ownL f) (hl : left (.int .i64 x) = true) :
    cntL f st (fun z => left z && !z.sameKey (.int .i64 x)) = cntL f st left + if (((f x).getD zs).st == st) = true then 1 else 0 := by
  unfold cntL
  simp only [same_int]
  exact count_step (fun k => ((f k).getD zs).st == st) (fun k => left (.int .i64 k)) x (ownL f) (ownL_nodup f) hx hl
section
variable {w : World} {q n : Nat} {f : Int → Option Sl} {D : DataW Unit}
theorem cntL_start (h : WM w q f) (ho : w.ownsMap Try.prog 3 Rs q n D) (st : Int) : cntL f st (Maps.has D) = 0 := by
  unfold cntL
  rw [List.countP_eq_zero]
  intro k hk
  rw [h.has ho, (ownL_mem h.low k).1 hk]
  simp
theorem WM.entry (h : WM w q f) (ho : w.ownsMap Try.prog 3 Rs q n D) (x : Int) (s : Sl) (hat : ∀ zd, D.atKey (.int .i64 x) zd = dat s) (hk : (Lit.int .i64 x).wf = true) : f x = some s ∧ x ∈ ownL f := by
  obtain ⟨v, ps, hrun, hR⟩ := ho.look_ok (int_keyed Try.underlying3) Try.underlying63 (zero_slot w) (Rs_sv zs) (key_of x hk)
  have h1 := h.is.look_ok (coded_int .i64) Try.underlying63 Try.underlying3 (zero_slot w) x
  have h2 := hrun.symm.trans h1
  simp only [Result.ok.injEq, Value.tuple.injEq, and_true] at h2
  have h3 := congrArg (fun z : Array Value => z[0]?) h2
  have h4 : v = sv ((f x).getD zs) := by rw [← getD_sv]; simpa using h3
  rw [h4, Rs_sv, hat] at hR
  have h5 : (f x).getD zs = s := dat_inj (by simp only [Option.some.injEq, Prod.mk.injEq] at hR; exact hR.1)
  have h6 : (f x).isSome = true := by rw [← h.has ho x]; exact has_true_of_atKey hat
  obtain ⟨s', hs'⟩ := Option.isSome_iff_exists.1 h6
  rw [hs'] at h5
  exact ⟨by rw [hs']; exact congrArg some h5, (ownL_mem h.low x).2 h6⟩
end
set_option maxHeartbeats 4000000 in
set_option maxRecDepth 100000 in
theorem count_w (g q : Nat) (seen : Int) (f : Int → Option Sl) (st : Int) (w : World) (h : Wk w g q seen f) : Calls Try.prog 18 #[.pointer (some ⟨g, 0, none⟩), .int .i64 st] w fun e w' => e = .returned (.int .i64 (cntW f st : Int)) ∧ Below w.heap.size w w' := by
  have HB := Aside0.mk (Below.refl w.heap.size w)
  have D := h.blk
  have D_0 := blk_cell D 0
  have D_1 := blk_cell D 1
  simp only [List.getElem?_toArray, List.getElem?_cons_zero, List.getElem?_cons_succ] at D_0 D_1
  have D_z0 := blk_frozen D 0
  have D_z1 := blk_frozen D 1
  have D_l := blk_lt D
  have HD := Aside0.mk D
  clear D
  have HM := Aside0.mk h.map
  obtain ⟨n, Dm, ho⟩ := h.map.own
  have HO := Aside0.mk ho
  clear h ho
  go_enter Try.func18, Try.ntmps18
  go_wp2_with (at_range; refine wpList_range_own _ rfl _ 63 rfl 3 35 (int_keyed Try.underlying3) Try.underlying63 Rs q n Dm rfl HO.out ?_; intro w0 hrg0 hg0 hs0)
  go_frame
  have HRG := Aside0.mk hrg0
  have HG0 := Aside0.mk hg0
  have HB0 : Aside0 (Below w.heap.size w w0) := ⟨⟨hg0.os, hg0.tape, hg0.output, hg0.size, fun i hi => hg0.block i hi (by simp)⟩⟩
  have HQL := Aside0.mk HM.out.lt
  clear hrg0 hg0 hs0 HB D_0 D_1 D_z0 D_z1 D_l HD
  go_loopw [5, 16, 17] (fun v5 v16 v17 wr => ∃ (c : Int) (left : Lit → Bool) (cnt : Nat), v5 = .int .i64 c ∧ Aside0 (c = (cntL f st left : Int)) ∧ Aside0 (wr.ranges Try.prog 3 Rs q w.heap.size n Dm left cnt) ∧ Aside0 (Below w.heap.size w wr)) (fun _ _ _ wr => wr.rangeLeft q w.heap.size)
  case atStart => exact ⟨0, _, _, rfl, ⟨by rw [cntL_start HM.out HO.out]; rfl⟩, HRG, HB0⟩
  case round =>
    clear HRG HB0 HG0
    obtain ⟨c0, left, cnt, rfl, HC, HRG, HB⟩ := hrel
    obtain ⟨wq, hwq⟩ : ∃ x, x = wr := ⟨_, rfl⟩
    subst hwq
    have hcl := cntL_le f st left
    have hcb0 : 0 ≤ c0 := by have := HC.out; omega
    have hcb1 : c0 ≤ 16 := by have := HC.out; omega
    clear hcl
    go_wp2_with (at_next; refine wpList_next_ranges _ rfl _ rfl 3 (int_keyed Try.underlying3) Rs (Value.int .i64) sv (fun key kl hkey => by obtain ⟨x, rfl, _⟩ := Maps.keyOf_int_inv Try.underlying3 hkey; exact ⟨x, rfl⟩) (fun v y hv => by obtain ⟨s, rfl, _⟩ := Rs_inv hv; exact ⟨s, rfl⟩) q w.heap.size n Dm left cnt rfl HRG.out ?_ ?_)
    · intro hc0 hl0
      have HE := Aside0.mk (HC.out.trans (by rw [cntL_end f st left hl0]))
      clear hl0 HC
      obtain rfl : c0 = (cntW f st : Int) := HE.out
      go_wp2
      go_ret
      exact ⟨rfl, by repeat (first | (with_reducible first | exact HB.out | apply below_alloc | apply pw_below_drewN | apply below_drew1) | refine below_set ?_ (by omega))⟩
    · intro x s kl yd yp w1 cnt1 hkey hlk hR hat hrg1 hlt hg1 hs1 hen
      obtain ⟨x', ex, rfl, hwx⟩ := Maps.keyOf_int_inv Try.underlying3 hkey
      cases ex
      rw [Rs_sv] at hR
      cases hR
      obtain ⟨hfx, hmem⟩ := WM.entry HM.out HO.out x s hat hwx
      have HST := Aside0.mk (cntL_step f st left x hmem hlk)
      have HFX := Aside0.mk hfx
      have HLT := Aside0.mk hlt
      have HRG1 := Aside0.mk hrg1
      have HB1 : Aside0 (Below w.heap.size w w1) := ⟨⟨hg1.os.trans HB.out.os, hg1.tape.trans HB.out.tape, hg1.output.trans HB.out.output, Nat.le_trans HB.out.size hg1.size, fun i hi => (hg1.block i (Nat.lt_of_lt_of_le hi HB.out.size) (by simp; omega)).trans (HB.out.block i hi)⟩⟩
      obtain ⟨a, b, c, d⟩ := s
      clear hkey hlk hat hrg1 hlt hg1 hs1 hwx hfx hmem HB
      have HB := HB1
      clear HB1
      have hw2 : wrap64 (c0 + 1) = c0 + 1 := wrap64_eq (by omega) (by omega)
      dsimp only [sv] at hen ⊢
      by_cases he : a = st
      · have t1 : (a == st) = true := by simp [he]
        have HT := Aside0.mk t1
        clear he
        go_wp2
        go_roundw
        case rel => exact ⟨c0 + 1, _, _, by first | rfl | rw [hw2], ⟨by rw [HST.out, HFX.out]; have := HT.out; have h2 := HC.out; simp [this]; omega⟩, ⟨HRG1.out.alloc _⟩, ⟨by repeat (first | (with_reducible first | exact HB.out | apply below_alloc | apply pw_below_drewN | apply below_drew1) | refine below_set ?_ (by omega))⟩⟩
        case measure => rw [(HRG1.out.alloc _).left_eq, HRG.out.left_eq]; exact HLT.out
      · have t1 : (a == st) = false := by simp [he]
        have HT := Aside0.mk t1
        clear he
        go_wp2
        go_roundw
        case rel => exact ⟨c0, _, _, rfl, ⟨by rw [HST.out, HFX.out]; have := HT.out; have h2 := HC.out; simp [this]; omega⟩, ⟨HRG1.out.alloc _⟩, ⟨by repeat (first | (with_reducible first | exact HB.out | apply below_alloc | apply pw_below_drewN | apply below_drew1) | refine below_set ?_ (by omega))⟩⟩
        case measure => rw [(HRG1.out.alloc _).left_eq, HRG.out.left_eq]; exact HLT.out

/-! ### Fall -/
theorem map_block {w : World} {q n : Nat} {D : DataW Unit} (h : w.ownsMap Try.prog 3 Rs q n D) (o : Nat) (s : Addr) (hs : s.block = q) : w.cell? s = none := by
  obtain ⟨es, clock, hb, _⟩ := h
  subst hs
  simp [World.cell?, hb]
theorem ci_but {w w1 : World} {q n : Nat} {D : DataW Unit} {A : Option Addr} {k : Nat} {xs : List Int} (h : Kd.C (Kd.int .i64) w A k xs) (ho : w.ownsMap Try.prog 3 Rs q n D) (hg : w.grownBy w1 (some q)) : Kd.C (Kd.int .i64) w1 A k xs := by
  refine ⟨h.1, h.2.1, fun hn => ?_⟩
  obtain ⟨ad, e, hc⟩ := h.2.2 hn
  refine ⟨ad, e, fun j p hj => ?_⟩
  obtain ⟨cs, h1, h2, h3⟩ := hc j p hj
  refine ⟨cs, h1, h2, fun i u hu => ?_⟩
  have h4 := h3 i u hu
  have hne : (ad.add (j * (Kd.int .i64).sz + i)).block ≠ q := fun e => by rw [map_block ho 0 _ e] at h4; cases h4
  have hk := hg.block _ (World.block_lt_of_cell? w _ h4) (fun e => hne (by simpa using e))
  rw [← h4]
  simp only [World.cell?, hk]
theorem ci_at {w : World} {A : Option Addr} {L : List Int} (h : Kd.C (Kd.int .i64) w A L.length L) (i : Int) (h0 : 0 ≤ i) (h1 : i < L.length) : ∃ (kb ko : Nat), A = some ⟨kb, ko, none⟩ ∧ kb < w.heap.size ∧ w.cell? ⟨kb, ko + i.toNat, none⟩ = some (.int .i64 (L.getD i.toNat 0)) := by
  obtain ⟨ad, c, e, _, hK, hc⟩ := Kd.C_get h 0 i h0 h1
  obtain ⟨ad2, c2, e2, _, hK2, hc2⟩ := Kd.C_get h 0 0 (by decide) (by omega)
  rw [e] at e2
  cases e2
  have hk : c = [.int .i64 (L.getD i.toNat 0)] := hK
  have hk2 : c2 = [.int .i64 (L.getD 0 0)] := hK2
  have z := hc2 0 _ (by rw [hk2]; rfl)
  have hz : w.cell? ad = some (.int .i64 (L.getD 0 0)) := z
  have hsp := World.cell?_spot hz
  obtain ⟨b, o, sp⟩ := ad
  subst hsp
  have h4 := hc 0 _ (by rw [hk]; rfl)
  have hadd : (⟨b, o, none⟩ : Addr).add (i.toNat * (Kd.int .i64).sz + 0) = ⟨b, o + i.toNat, none⟩ := by
    rw [show i.toNat * (Kd.int .i64).sz + 0 = i.toNat by simp [Kd.int, Kd.scalar]]
    unfold Addr.add
    split <;> simp_all
  rw [hadd] at h4
  exact ⟨b, o, e, World.block_lt_of_cell? w _ h4, h4⟩
/-- Behind a Fall of the units of T. -/
def gI (f : Int → Option Sl) (T : List Int) : Int → Option Sl := fun k => if k ∈ T then (f k).map (fun s => (falls s).1) else f k
theorem gI_nil (f : Int → Option Sl) : gI f [] = f := by funext k; unfold gI; rw [if_neg (by simp)]
def cntFW (f : Int → Option Sl) (T : List Int) : Nat := T.countP fun k => (falls ((f k).getD zs)).2
theorem gI_step (f : Int → Option Sl) (T : List Int) (k : Int) (s : Sl) (hk : k ∉ T) (hf : f k = some s) : app (gI f T) k (fun s => falls s) = (gI f (T ++ [k]), (falls s).2) := by
  have e : gI f T k = some s := by unfold gI; rw [if_neg hk]; exact hf
  unfold app
  rw [e]
  refine Prod.ext ?_ rfl
  funext j
  show upd (gI f T) k (falls s).1 j = gI f (T ++ [k]) j
  unfold upd gI
  by_cases h : j = k
  · subst h
    rw [if_pos rfl, if_pos (by simp), hf]
    rfl
  · rw [if_neg h]
    by_cases h2 : j ∈ T
    · rw [if_pos h2, if_pos (by simp [h2])]
    · rw [if_neg h2, if_neg (by simp [h, h2])]
theorem cntFW_step (f : Int → Option Sl) (T : List Int) (k : Int) (s : Sl) (hf : f k = some s) : cntFW f (T ++ [k]) = cntFW f T + if (falls s).2 = true then 1 else 0 := by
  unfold cntFW
  rw [List.countP_append]
  simp [List.countP_cons, hf]
theorem cntFW_le (f : Int → Option Sl) (T : List Int) : cntFW f T ≤ T.length := List.countP_le_length
set_option maxHeartbeats 4000000 in
set_option maxRecDepth 100000 in
theorem fall_w (g q : Nat) (seen : Int) (f : Int → Option Sl) (w : World) (h : Wk w g q seen f) : Calls Try.prog 19 #[.pointer (some ⟨g, 0, none⟩)] w fun e w' => e = .returned (.int .i64 (cntFW f (ownL f) : Int)) ∧ Wk w' g q seen (gI f (ownL f)) ∧ But2 w w' g q := by
  have HK := Aside0.mk h
  have HLO := Aside0.mk h.map.low
  clear h
  go_enter Try.func19, Try.ntmps19
  go_wp2_with fail
  refine (units_q g q seen f _ HK.out).mono ?_
  rintro e w1 ⟨A, cp, rfl, hlc, hC, hb1⟩
  have HC := Aside0.mk hC
  have HLC := Aside0.mk hlc
  have HK' := Aside0.mk (Wk.below HK.out hb1)
  have HB := Aside0.mk (But2.of_below hb1 g q)
  have hl16 := ownL_len f
  have hnd := ownL_nodup f
  have hmem := ownL_mem HLO.out
  have HL16 := Aside0.mk hl16
  have HND := Aside0.mk hnd
  have HMEM := Aside0.mk hmem
  clear HK hC hlc hb1 hl16 hnd hmem
  generalize hL : ownL f = L at *
  have HLE := Aside0.mk hL
  clear hL
  go_wp2_with fail
  go_loopw [3, 9] (fun v3 v9 wr => ∃ (i c : Int), v9 = .int .i64 i ∧ v3 = .int .i64 c ∧ Aside0 (0 ≤ i ∧ i ≤ L.length) ∧ Aside0 (c = (cntFW f (L.take i.toNat) : Int)) ∧ Aside0 (Wk wr g q seen (gI f (L.take i.toNat))) ∧ Aside0 (Kd.C (Kd.int .i64) wr A L.length L) ∧ Aside0 (But2 w wr g q)) (fun _ v9 _ => 40 - (intOf v9).toNat)
  case atStart => exact ⟨0, 0, rfl, rfl, ⟨by omega⟩, ⟨rfl⟩, ⟨by rw [show (0 : Int).toNat = 0 from rfl, List.take_zero, gI_nil]; exact HK'.out⟩, HC, HB⟩
  case round =>
    clear HB HC HK'
    obtain ⟨i, c0, rfl, rfl, HI, HCN, HK, HC, HB⟩ := hrel
    obtain ⟨wq, hwq⟩ : ∃ x, x = wr := ⟨_, rfl⟩
    subst hwq
    by_cases hi : i < L.length
    · have t1 : decide (i < (L.length : Int)) = true := decide_eq_true hi
      have hi0 : 0 ≤ i := HI.out.1
      have HIL := Aside0.mk (And.intro hi0 hi)
      have hkn : i.toNat < L.length := by omega
      have htk : L.take (i + 1).toNat = L.take i.toNat ++ [L.getD i.toNat 0] := by
        rw [show (i + 1).toNat = i.toNat + 1 by omega, List.take_succ_eq_append_getElem hkn]
        simp [hkn]
      obtain ⟨kb, ko, rfl, hkb, ck⟩ := ci_at HC.out i hi0 hi
      have hin : L.getD i.toNat 0 ∈ L := by rw [List.getD_eq_getElem?_getD, List.getElem?_eq_getElem hkn]; exact List.getElem_mem hkn
      have hnot : L.getD i.toNat 0 ∉ L.take i.toNat := by
        have h1 := HND.out.sublist (List.take_sublist (i.toNat + 1) L)
        rw [List.take_succ_eq_append_getElem hkn] at h1
        rw [List.getD_eq_getElem?_getD, List.getElem?_eq_getElem hkn]
        have h2 := (List.nodup_append.1 h1).2.2
        intro hm
        exact h2 _ hm _ (by simp) rfl
      obtain ⟨x, hx⟩ : ∃ x, L.getD i.toNat 0 = x := ⟨_, rfl⟩
      rw [hx] at ck hin hnot htk
      obtain ⟨s, hs⟩ := Option.isSome_iff_exists.1 ((HMEM.out x).1 hin)
      have hap := gI_step f (L.take i.toNat) x s hnot hs
      have hcn := cntFW_step f (L.take i.toNat) x s hs
      have hcl := cntFW_le f (L.take i.toNat)
      have hcl2 : (L.take i.toNat).length ≤ 16 := by have := List.length_take_le i.toNat L; have := HL16.out; omega
      rw [← htk] at hap hcn
      have hcb0 : 0 ≤ c0 := by have := HCN.out; omega
      have hcb1 : c0 ≤ 16 := by have := HCN.out; omega
      have hit := fall_turn g q seen (gI f (L.take i.toNat)) x wq HK.out
      rw [hap] at hit
      have hil := HL16.out
      have hw1 : wrap64 (i + 1) = i + 1 := wrap64_eq (by omega) (by omega)
      have hw2 : wrap64 (c0 + 1) = c0 + 1 := wrap64_eq (by omega) (by omega)
      obtain ⟨n, Dm, ho⟩ := HK.out.map.own
      have HO := Aside0.mk ho
      have HCNS := Aside0.mk hcn
      clear hap hcn hcl hcl2 hin hnot htk hx hs ho hkn hil
      go_wp2_with fail
      refine hit.mono ?_
      cases hy : (falls s).2
      · rintro e w5 ⟨rfl, hk, hg⟩
        have HY := Aside0.mk hy
        have HK2 := Aside0.mk hk
        have HC2 := Aside0.mk (ci_but HC.out HO.out hg)
        have HB2 := Aside0.mk (But2.trans HB.out (But2.of_two hg g))
        clear hy hk hg ck hkb hi
        go_wp2
        go_roundw
        case rel => exact ⟨i + 1, c0, by first | rfl | rw [hw1], rfl, ⟨by have := HIL.out; omega⟩, ⟨by have h1 := HCNS.out; rw [HY.out] at h1; have h2 := HCN.out; rw [h1]; simp; omega⟩, HK2, HC2, HB2⟩
        case measure => have := HIL.out; have := HL16.out; simp [intOf, hw1]; omega
      · rintro e w5 ⟨rfl, hk, hg⟩
        have HY := Aside0.mk hy
        have HK2 := Aside0.mk hk
        have HC2 := Aside0.mk (ci_but HC.out HO.out hg)
        have HB2 := Aside0.mk (But2.trans HB.out (But2.of_two hg g))
        clear hy hk hg ck hkb hi
        go_wp2
        go_roundw
        case rel => exact ⟨i + 1, c0 + 1, by first | rfl | rw [hw1], by first | rfl | rw [hw2], ⟨by have := HIL.out; omega⟩, ⟨by have h1 := HCNS.out; rw [HY.out] at h1; have h2 := HCN.out; rw [h1]; simp; omega⟩, HK2, HC2, HB2⟩
        case measure => have := HIL.out; have := HL16.out; simp [intOf, hw1]; omega
    · have t1 : decide (i < (L.length : Int)) = false := decide_eq_false hi
      obtain rfl : i = (L.length : Int) := by have := HI.out; omega
      have HK2 : Aside0 (Wk wq g q seen (gI f L)) := ⟨by have := HK.out; rw [show ((L.length : Int)).toNat = L.length by omega, List.take_length] at this; exact this⟩
      obtain rfl : c0 = (cntFW f L : Int) := by have := HCN.out; rw [show ((L.length : Int)).toNat = L.length by omega, List.take_length] at this; exact this
      clear HK HCN
      go_wp2
      go_ret
      rw [HLE.out]
      exact ⟨rfl, HK2.out, HB.out⟩
end Go.Proofs.Ytkjaeodnpgpfeaa.W8
