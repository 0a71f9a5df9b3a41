/-
  Proved here: what kv.right answers. No condition but how the slice reads.
-/
import Derived.Test.YtnmnojapacflgaaK1
namespace Go.Proofs.Ytnmnojapacflgaa.K2
open Go.Proofs.Ytnmnojapacflgaa.M Go.Proofs.Ytnmnojapacflgaa.K0 Go.RowKit Go.Maps Go.Sort Go.Proofs.YtnmnojapacflgaaW.PrintWords Go.Proofs.YtnmnojapacflgaaW.PrintLast Go.Proofs.YtnmnojapacflgaaW.PrintMore Go.Proofs.Ytnmnojapacflgaa.PKvPlays Go.Proofs.Ytnmnojapacflgaa.K1
set_option linter.unusedVariables false
set_option linter.unusedSimpArgs false
attribute [local go_sem] max2_int min2_int max_two min_two run_makeMap

theorem el53 {w : World} {A : Option Addr} {L : List S53} (h : Kd.C k53 w A L.length L) (i : Int) (h0 : 0 ≤ i) (h1 : i < L.length) : ∃ (kb ko : Nat), A = some ⟨kb, ko, none⟩ ∧ kb < w.heap.size ∧ w.cell? ⟨kb, ko + i.toNat * 4, none⟩ = some (.string (L.getD i.toNat z53).f0) ∧ w.cell? ⟨kb, ko + i.toNat * 4 + 1, none⟩ = some (.string (L.getD i.toNat z53).f1) ∧ w.cell? ⟨kb, ko + i.toNat * 4 + 2, none⟩ = some (.int .i64 (L.getD i.toNat z53).f2) ∧ w.cell? ⟨kb, ko + i.toNat * 4 + 3, none⟩ = some (.bool (L.getD i.toNat z53).f3) := by
  obtain ⟨ad, c, e, _, hK, hc⟩ := Kd.C_get h z53 i h0 h1
  obtain ⟨ad2, c2, e2, _, hK2, hc2⟩ := Kd.C_get h z53 0 (by decide) (by omega)
  rw [e] at e2
  cases e2
  obtain rfl := k53_open hK
  obtain rfl := k53_open hK2
  have hz := hc2 0 _ rfl
  have hsp := World.cell?_spot (show w.cell? ad = _ from hz)
  obtain ⟨b, o, sp⟩ := ad
  subst hsp
  have hadd : ∀ j, (⟨b, o, none⟩ : Addr).add (i.toNat * k53.sz + j) = ⟨b, o + i.toNat * 4 + j, none⟩ := fun j => by
    rw [show k53.sz = 4 from rfl, Nat.add_assoc]
    unfold Addr.add
    split <;> simp_all
  have z0 := hc 0 _ rfl
  have z1 := hc 1 _ rfl
  have z2 := hc 2 _ rfl
  have z3 := hc 3 _ rfl
  rw [hadd] at z0 z1 z2 z3
  rw [Nat.add_zero] at z0
  exact ⟨b, o, e, World.block_lt_of_cell? w _ z0, z0, z1, z2, z3⟩
def inB (k : ByteArray) (seen : List ByteArray) : Bool := seen.any fun s => decide (s = k)
theorem inB_snoc (k x : ByteArray) (seen : List ByteArray) : inB k (seen ++ [x]) = (inB k seen || decide (x = k)) := by unfold inB; simp
def okOp (e : S53) : Bool := !(e.f0.toList.isEmpty || decide (64 < (e.f0.size : Int)) || decide (64 < (e.f1.size : Int)))
def rightFrom : List ByteArray → List S53 → Bool
  | _, [] => true
  | seen, e :: r => okOp e && !inB e.f0 seen && rightFrom (seen ++ [e.f0]) r
def rightB (l : List S53) : Bool := rightFrom [] l && decide (0 < l.length)
/-- What the map of the keys seen holds. -/
def sn (seen : List ByteArray) : ByteArray → Option Value := fun k => if inB k seen = true then some (.bool true) else none
theorem sn_nil : sn [] = fun _ => none := by funext k; unfold sn; rw [if_neg (by simp [inB])]
theorem sn_put (seen : List ByteArray) (k : ByteArray) : M.put (sn seen) k (.bool true) = sn (seen ++ [k]) := by
  funext j
  unfold M.put sn
  rw [inB_snoc]
  by_cases e : j = k
  · rw [if_pos e, if_pos (by simp [e])]
  · rw [if_neg e]
    have : decide (k = j) = false := decide_eq_false fun x => e x.symm
    rw [this, Bool.or_false]
theorem sn_look (seen : List ByteArray) (k : ByteArray) : (sn seen k).getD (.bool false) = .bool (inB k seen) := by
  unfold sn
  cases inB k seen <;> rfl
set_option maxHeartbeats 4000000 in
set_option maxRecDepth 100000 in
theorem right_q (A : Option Addr) (c0 : Nat) (l : List S53) (w : World) (hC : Kd.C k53 w A l.length l) (hc : l.length ≤ c0) : Calls Try.prog 33 #[.slice A l.length c0] w fun e w' => e = .returned (.bool (rightB l)) ∧ Below w.heap.size w w' := by
  have HB := Aside0.mk (Below.refl w.heap.size w)
  have HC := Aside0.mk hC
  have hmax := Kd.C_max hC
  have HMX := Aside0.mk hmax
  clear hC
  go_enter Try.func33, Try.ntmps33
  go_wp2_with fail
  go_loopw [9] (fun v9 wr => ∃ (i : Int), v9 = .int .i64 i ∧ Aside0 (0 ≤ i ∧ i ≤ l.length) ∧ Aside0 (MapIs KS .string wr w.heap.size (sn ((l.take i.toNat).map (·.f0)))) ∧ Aside0 (rightFrom [] l = rightFrom ((l.take i.toNat).map (·.f0)) (l.drop i.toNat)) ∧ Aside0 (Below w.heap.size w wr)) (fun v9 _ => (l.length + 5 - intOf v9).toNat)
  case atStart => exact ⟨0, rfl, ⟨by omega⟩, ⟨by rw [show (0 : Int).toNat = 0 from rfl, List.take_zero, List.map_nil, sn_nil]; exact MapIs.made w _ _⟩, ⟨rfl⟩, ⟨by repeat (first | (with_reducible first | exact HB.out | apply below_alloc | apply pw_below_drewN | apply below_drew1) | refine below_set ?_ (by omega))⟩⟩
  case round =>
    clear HB
    obtain ⟨i, rfl, HI, HM, HF, HB⟩ := hrel
    obtain ⟨wq, hwq⟩ : ∃ x, x = wr := ⟨_, rfl⟩
    subst hwq
    by_cases hi : i < l.length
    · have t1 : decide (i < (l.length : Int)) = true := decide_eq_true hi
      have hi0 : 0 ≤ i := HI.out.1
      have HIL := Aside0.mk (And.intro hi0 hi)
      have hkn : i.toNat < l.length := by omega
      obtain ⟨kb, ko, rfl, hkb, ck0, ck1, ck2, ck3⟩ := el53 (Kd.C_below HC.out HB.out) i hi0 hi
      have htk : (l.take (i + 1).toNat).map (·.f0) = (l.take i.toNat).map (·.f0) ++ [(l.getD i.toNat z53).f0] := by
        rw [show (i + 1).toNat = i.toNat + 1 by omega, List.take_succ_eq_append_getElem hkn, List.map_append]
        simp [hkn]
      have hdr : l.drop i.toNat = l.getD i.toNat z53 :: l.drop (i + 1).toNat := by
        rw [show (i + 1).toNat = i.toNat + 1 by omega, List.drop_eq_getElem_cons hkn]
        simp [hkn]
      obtain ⟨⟨kk, vv, rr, dd⟩, he⟩ : ∃ e, l.getD i.toNat z53 = e := ⟨_, rfl⟩
      rw [he] at ck0 ck1 ck2 ck3 htk hdr
      dsimp only at ck0 ck1 ck2 ck3 htk
      have HTK := Aside0.mk htk
      have HDR := Aside0.mk hdr
      clear he htk hdr hkn
      go_upto_region 5 with fail
      have S : IsBlk (wq.alloc (.cells #[.string kk, .string vv, .int .i64 rr, .bool dd] 53)) wq.heap.size #[.string kk, .string vv, .int .i64 rr, .bool dd] 53 := IsBlk.new _ _ rfl
      have HMn : Aside0 (MapIs KS .string (wq.alloc (.cells #[.string kk, .string vv, .int .i64 rr, .bool dd] 53)) w.heap.size (sn ((l.take i.toNat).map (·.f0)))) := ⟨HM.out.alloc _⟩
      have HBn : Aside0 (Below w.heap.size w (wq.alloc (.cells #[.string kk, .string vv, .int .i64 rr, .bool dd] 53))) := ⟨below_alloc HB.out _⟩
      clear HM HB ck0 ck1 ck2 ck3 hkb
      generalize (wq.alloc (.cells #[.string kk, .string vv, .int .i64 rr, .bool dd] 53)) = w1 at *
      have HM := HMn
      have HB := HBn
      clear HMn HBn
      have S_0 := blk_cell S 0
      have S_1 := blk_cell S 1
      have S_2 := blk_cell S 2
      have S_3 := blk_cell S 3
      simp only [List.getElem?_toArray, List.getElem?_cons_zero, List.getElem?_cons_succ] at S_0 S_1 S_2 S_3
      have S_z0 := blk_frozen S 0
      have S_z1 := blk_frozen S 1
      have S_z2 := blk_frozen S 2
      have S_z3 := blk_frozen S 3
      have S_l := blk_lt S
      have HS := Aside0.mk S
      clear S
      have hlook := HM.out.look (P := Try.prog) coded_string Try.underlying76 Try.underlying9 (z := .bool false) (w := w1) rfl kk
      rw [sn_look] at hlook
      obtain ⟨seen, hseen⟩ : ∃ x, (l.take i.toNat).map (·.f0) = x := ⟨_, rfl⟩
      rw [hseen] at HM HF HTK hlook
      have HSE := Aside0.mk hseen
      clear hseen
      replace hlook : (Instr.lookup 76 (.map (some w.heap.size)) (.string kk) false).run Try.prog w1 = .ok (.bool (inB kk seen)) w1 := hlook
      cases x1 : kk.toList.isEmpty
      · cases x2 : decide (64 < (kk.size : Int))
        · cases x3 : decide (64 < (vv.size : Int))
          · cases x4 : inB kk seen
            · have HF2 : Aside0 (rightFrom [] l = rightFrom (seen ++ [kk]) (l.drop (i + 1).toNat)) := ⟨by rw [HF.out, HDR.out]; conv => lhs; unfold rightFrom okOp; (dsimp only); rw [x1, x2, x3, x4]; simp⟩
              rw [x4] at hlook
              have hil := HMX.out
              go_wp2_with (at_mapUpdate; refine M.wpList_store (f := sn seen) (b := w.heap.size) (enc := KS) _ rfl _ _ _ _ rfl coded_string Try.underlying76 Try.underlying9 rfl HM.out kk rfl _ rfl ?_; intro w2 hM2 hg2)
              have HM3 := Aside0.mk hM2
              have HB2 := Aside0.mk (HB.out.grown hg2 HB.out.size (fun k hk => by cases hk; exact Nat.le_refl _))
              clear hM2 hg2 hlook HM HF
              refine ⟨⟨i + 1, rfl, ⟨by have := HIL.out; omega⟩, ⟨?_⟩, ⟨?_⟩, HB2⟩, ?_⟩
              · rw [show (l.take (i + 1).toNat).map (fun x => x.f0) = seen ++ [kk] from HTK.out, ← sn_put]
                exact HM3.out
              · rw [HF2.out, show (l.take (i + 1).toNat).map (fun x => x.f0) = seen ++ [kk] from HTK.out]
              · have := HIL.out; simp only [intOf]; omega
            · rw [x4] at hlook
              have HE : Aside0 (rightB l = false) := ⟨by unfold rightB; rw [HF.out, HDR.out]; unfold rightFrom okOp; dsimp only; rw [x1, x2, x3, x4]; rfl⟩
              go_wp2
              go_ret
              exact ⟨by rw [HE.out]; rfl, by repeat (first | (with_reducible first | exact HB.out | apply below_alloc | apply pw_below_drewN | apply below_drew1) | refine below_set ?_ (by omega))⟩
          · skip
            have HE : Aside0 (rightB l = false) := ⟨by unfold rightB; rw [HF.out, HDR.out]; unfold rightFrom okOp; dsimp only; rw [x1, x2, x3]; rfl⟩
            go_wp2
            go_ret
            exact ⟨by rw [HE.out]; rfl, by repeat (first | (with_reducible first | exact HB.out | apply below_alloc | apply pw_below_drewN | apply below_drew1) | refine below_set ?_ (by omega))⟩
        · skip
          have HE : Aside0 (rightB l = false) := ⟨by unfold rightB; rw [HF.out, HDR.out]; unfold rightFrom okOp; dsimp only; rw [x1, x2]; rfl⟩
          go_wp2
          go_ret
          exact ⟨by rw [HE.out]; rfl, by repeat (first | (with_reducible first | exact HB.out | apply below_alloc | apply pw_below_drewN | apply below_drew1) | refine below_set ?_ (by omega))⟩
      · skip
        have HE : Aside0 (rightB l = false) := ⟨by unfold rightB; rw [HF.out, HDR.out]; unfold rightFrom okOp; dsimp only; rw [x1]; rfl⟩
        go_wp2
        go_ret
        exact ⟨by rw [HE.out]; rfl, by repeat (first | (with_reducible first | exact HB.out | apply below_alloc | apply pw_below_drewN | apply below_drew1) | refine below_set ?_ (by omega))⟩
    · have t1 : decide (i < (l.length : Int)) = false := decide_eq_false hi
      obtain rfl : i = (l.length : Int) := by have := HI.out; omega
      have HE : Aside0 (rightFrom [] l = true) := ⟨by rw [HF.out, show ((l.length : Int)).toNat = l.length by omega, List.drop_length]; unfold rightFrom; rfl⟩
      obtain ⟨z, hz⟩ : ∃ x, decide (0 < l.length) = x := ⟨_, rfl⟩
      have HZ := Aside0.mk hz
      clear HM HF hi HI hmax
      go_wp2
      go_ret
      exact ⟨by unfold rightB; rw [HE.out, HZ.out]; first | rfl | simp, by repeat (first | (with_reducible first | exact HB.out | apply below_alloc | apply pw_below_drewN | apply below_drew1) | refine below_set ?_ (by omega))⟩
end Go.Proofs.Ytnmnojapacflgaa.K2
