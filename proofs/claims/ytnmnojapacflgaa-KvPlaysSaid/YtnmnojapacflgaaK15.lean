/-
  Proved here: how rows of rows read; that slices live on when a store changes; that Same says true of a slice and itself. No condition.
-/
import Derived.Test.YtnmnojapacflgaaK11
import Derived.Test.YtnmnojapacflgaaK12
import Derived.Test.YtnmnojapacflgaaK14
import Derived.Test.YtnmnojapacflgaaPKvPlaysx8
namespace Go.Proofs.Ytnmnojapacflgaa.K15
open Go.Proofs.Ytnmnojapacflgaa.M Go.Proofs.Ytnmnojapacflgaa.K0 Go.RowKit Go.Maps Go.Sort Go.Proofs.YtnmnojapacflgaaW.PrintWords Go.Proofs.YtnmnojapacflgaaW.PrintLast Go.Proofs.YtnmnojapacflgaaW.PrintMore Go.Proofs.Ytnmnojapacflgaa.PKvPlays Go.Proofs.Ytnmnojapacflgaa.K1 Go.Proofs.Ytnmnojapacflgaa.K2 Go.Proofs.Ytnmnojapacflgaa.K3 Go.Proofs.Ytnmnojapacflgaa.K4 Go.Proofs.Ytnmnojapacflgaa.K5 Go.Proofs.Ytnmnojapacflgaa.K6 Go.Proofs.Ytnmnojapacflgaa.K9 Go.Proofs.Ytnmnojapacflgaa.K10 Go.Proofs.Ytnmnojapacflgaa.K12 Go.Proofs.Ytnmnojapacflgaa.K14
set_option linter.unusedVariables false
set_option linter.unusedSimpArgs false
theorem cells31_ : Try.prog.cellsOf 31 = 1 := by kernel_rfl
abbrev Tup := ByteArray × ByteArray × Int × Bool
def Is31 (w : World) (p : List Tup) (cs : List Value) : Prop := ∃ A c, cs = [.slice A p.length c] ∧ p.length ≤ c ∧ O.Rowz O.Is42 4 w A p
theorem sl22 {H : Type} {enc : TypeId × Value → H} {w : World} {base : Nat} {spare : Nat → Bool} {held : Bool} {n : Nat} {cs : List Value} {y : DataW H × List MemPlace} (h : DataW.trod enc Try.prog w base spare held n 22 cs = some y) :
    ∃ (A : Option Addr) (c : Nat) (ps : List (List Tup)), cs = [.slice A ps.length c] ∧ ps.length ≤ c ∧ O.Rowz (Is31 w) 1 w A ps :=
  O.rows_open Try.underlying22 cells31_ (fun cs y n hy => by obtain ⟨A, c, ps, h1, h2, h3⟩ := O.sl31 hy; exact ⟨ps, A, c, h1, h2, h3⟩) h
/-- Rows of rows, in the walks' words. -/
structure Rows (w : World) (A : Option Addr) (P : List (List S42)) : Prop where
  max : P.length ≤ maxLen
  at_ : ∀ i : Int, 0 ≤ i → i < P.length → ∃ (kb ko : Nat) (B : Option Addr) (c : Nat), A = some ⟨kb, ko, none⟩ ∧ kb < w.heap.size ∧ w.cell? ⟨kb, ko + i.toNat, none⟩ = some (.slice B (P.getD i.toNat []).length c) ∧ (P.getD i.toNat []).length ≤ c ∧ Kd.C k42 w B (P.getD i.toNat []).length (P.getD i.toNat [])
theorem rows_of {w : World} {A : Option Addr} {l : List (List Tup)} (h : O.Rowz (Is31 w) 1 w A l) : Rows w A (l.map fun p => p.map mk42) := by
  refine ⟨by rw [List.length_map]; exact h.1, fun i h0 h1 => ?_⟩
  rw [List.length_map] at h1
  obtain ⟨kb, ko, cs, hA, hcl, ⟨B, c, e, hle, hr⟩, hkb, hcell⟩ := O.Rowz.at' h (by decide) [] i.toNat (by omega)
  subst e
  have hg : (l.map fun p => p.map mk42).getD i.toNat [] = (l.getD i.toNat []).map mk42 := by
    rw [List.getD_eq_getElem?_getD, List.getD_eq_getElem?_getD, List.getElem?_map, List.getElem?_eq_getElem (by omega)]
    rfl
  have hl : ((l.getD i.toNat []).map mk42).length = (l.getD i.toNat []).length := List.length_map _
  have h3 := c_of hr
  have hz := hcell 0 _ rfl
  rw [Nat.add_zero, Nat.mul_one] at hz
  exact ⟨kb, ko, B, c, hA, hkb, by rw [hg, hl]; exact hz, by rw [hg, hl]; exact hle, by rw [hg]; exact h3⟩
theorem c42_but {w w1 : World} {g q : Nat} {rev : Int} {L : List S72} {A : Option Addr} {n : Nat} {xs : List S42} (hk : Kv w g q rev L) (h : Kd.C k42 w A n xs) (hb : But2 w w1 g q) : Kd.C k42 w1 A n xs := by
  refine ⟨h.1, h.2.1, fun hn => ?_⟩
  obtain ⟨ad, e, hc⟩ := h.2.2 hn
  refine ⟨ad, e, fun j p hj => ?_⟩
  obtain ⟨cs, h1, h2, h3⟩ := hc j p hj
  obtain rfl := k42_open h2
  refine ⟨_, h1, k42_mk w1 p, fun i u hu => ?_⟩
  have h4 := h3 i u hu
  have h0 := h3 0 _ rfl
  have hbl : (ad.add (j * (k42).sz + i)).block = (ad.add (j * (k42).sz + 0)).block := by unfold Addr.add; split <;> split <;> rfl
  have k0 := kv_cell hk h0
  have k1 := kv_cell hk h4
  have hg : (ad.add (j * (k42).sz + i)).block ≠ g := fun e2 => by
    rcases k0.2 (hbl ▸ e2) with h5 | h5 <;> cases h5
  have hkp := hb.block _ (World.block_lt_of_cell? w _ h4) hg k1.1
  rw [← h4]
  simp only [World.cell?, hkp]
theorem cS_but {w w1 : World} {g q : Nat} {rev : Int} {L : List S72} {A : Option Addr} {n : Nat} {xs : List ByteArray} (hk : Kv w g q rev L) (h : Kd.C Kd.string w A n xs) (hb : But2 w w1 g q) : Kd.C Kd.string w1 A n xs := by
  refine ⟨h.1, h.2.1, fun hn => ?_⟩
  obtain ⟨ad, e, hc⟩ := h.2.2 hn
  refine ⟨ad, e, fun j p hj => ?_⟩
  obtain ⟨cs, h1, h2, h3⟩ := hc j p hj
  obtain rfl : cs = [.string p] := h2
  refine ⟨_, h1, rfl, fun i u hu => ?_⟩
  have h4 := h3 i u hu
  have h0 := h3 0 _ rfl
  have hbl : (ad.add (j * (Kd.string).sz + i)).block = (ad.add (j * (Kd.string).sz + 0)).block := by unfold Addr.add; split <;> split <;> rfl
  have k0 := kv_cell hk h0
  have k1 := kv_cell hk h4
  have hg : (ad.add (j * (Kd.string).sz + i)).block ≠ g := fun e2 => by
    rcases k0.2 (hbl ▸ e2) with h5 | h5 <;> cases h5
  have hkp := hb.block _ (World.block_lt_of_cell? w _ h4) hg k1.1
  rw [← h4]
  simp only [World.cell?, hkp]

theorem el42 {w : World} {A : Option Addr} {L : List S42} (h : Kd.C k42 w A L.length L) (i : Int) (h0 : 0 ≤ i) (h1 : i < L.length) : ∃ (kb ko : Nat), A = some ⟨kb, ko, none⟩ ∧ kb < w.heap.size ∧ w.cell? ⟨kb, ko + i.toNat * 4, none⟩ = some (.string (L.getD i.toNat z42).f0) ∧ w.cell? ⟨kb, ko + i.toNat * 4 + 1, none⟩ = some (.string (L.getD i.toNat z42).f1) ∧ w.cell? ⟨kb, ko + i.toNat * 4 + 2, none⟩ = some (.int .i64 (L.getD i.toNat z42).f2) ∧ w.cell? ⟨kb, ko + i.toNat * 4 + 3, none⟩ = some (.bool (L.getD i.toNat z42).f3) := by
  obtain ⟨ad, c, e, _, hK, hc⟩ := Kd.C_get h z42 i h0 h1
  obtain ⟨ad2, c2, e2, _, hK2, hc2⟩ := Kd.C_get h z42 0 (by decide) (by omega)
  rw [e] at e2
  cases e2
  obtain rfl := k42_open hK
  obtain rfl := k42_open hK2
  have hz := hc2 0 _ rfl
  have hsp := World.cell?_spot (show w.cell? ad = _ from hz)
  obtain ⟨b, o, sp⟩ := ad
  subst hsp
  have hadd : ∀ j, (⟨b, o, none⟩ : Addr).add (i.toNat * k42.sz + j) = ⟨b, o + i.toNat * 4 + j, none⟩ := fun j => by
    rw [show k42.sz = 4 from rfl, Nat.add_assoc]
    unfold Addr.add
    split <;> simp_all
  have z0 := hc 0 _ rfl
  have z1 := hc 1 _ rfl
  have z2 := hc 2 _ rfl
  have z3 := hc 3 _ rfl
  rw [hadd] at z0 z1 z2 z3
  rw [Nat.add_zero] at z0
  exact ⟨b, o, e, World.block_lt_of_cell? w _ z0, z0, z1, z2, z3⟩
theorem elS {w : World} {A : Option Addr} {L : List ByteArray} (h : Kd.C Kd.string w A L.length L) (i : Int) (h0 : 0 ≤ i) (h1 : i < L.length) : ∃ (kb ko : Nat), A = some ⟨kb, ko, none⟩ ∧ kb < w.heap.size ∧ w.cell? ⟨kb, ko + i.toNat, none⟩ = some (.string (L.getD i.toNat ze)) := by
  obtain ⟨ad, e, hc⟩ := Kd.at_string h i h0 h1
  obtain ⟨ad2, e2, hc2⟩ := Kd.at_string h 0 (by decide) (by omega)
  rw [e] at e2
  cases e2
  have hsp := World.cell?_spot (show w.cell? ad = _ from hc2)
  obtain ⟨b, o, sp⟩ := ad
  subst hsp
  have hadd : (⟨b, o, none⟩ : Addr).add i.toNat = ⟨b, o + i.toNat, none⟩ := by
    unfold Addr.add
    split <;> simp_all
  rw [hadd] at hc
  exact ⟨b, o, e, World.block_lt_of_cell? w _ hc, hc⟩
theorem gave_slice {w : World} {B : Nat} {v : Value} {ks : List ByteArray} (h : Gave w B v ks) : ∃ A c, v = .slice A ks.length c ∧ ks.length ≤ c ∧ Kd.C Kd.string w A ks.length ks := by
  rcases h with ⟨rfl, rfl⟩ | ⟨blk, cap, rfl, _, h1, h2⟩
  · exact ⟨none, 0, rfl, Nat.le_refl _, rfl, by decide, fun h => absurd h (by decide)⟩
  · exact ⟨_, cap, rfl, h1, h2⟩
theorem gave_nil {w : World} {B : Nat} {v : Value} (h : Gave w B v []) : ∃ A c, v = .slice A 0 c := by
  obtain ⟨A, c, h1, _⟩ := gave_slice h
  exact ⟨A, c, h1⟩
theorem same_l0 (l : List ByteArray) (hl : l.length ≤ 1000) : ∀ (j i : Nat), i + j = l.length → pacesetterref08_Same.l0 (j + 1) l l (i : Int) = some true
  | 0, i, h => by
    simp only [pacesetterref08_Same.l0]
    rw [if_neg (by omega)]
  | j + 1, i, h => by
    have ih := same_l0 l hl j (i + 1) (by omega)
    rw [show pacesetterref08_Same.l0 (j + 1 + 1) l l (i : Int) = (if (i : Int) < (l.length : Int) then (if 0 ≤ (i : Int) then (if (i : Int) < (l.length : Int) then (if (rdOf ByteArray.empty l (i : Int)).toList = (rdOf ByteArray.empty l (i : Int)).toList then (pacesetterref08_Same.l0 (j + 1) l l (wrap64 ((i : Int) + 1))) else (some false)) else (none)) else (none)) else (some true)) from rfl,
      if_pos (by omega), if_pos (by omega), if_pos (by omega), if_pos rfl, K1.wrap64_eq (by omega) (by omega)]
    exact ih
theorem same_f (l : List ByteArray) (hl : l.length ≤ 1000) : pacesetterref08_Same.f (l.length + 1) l l = some true := by
  unfold pacesetterref08_Same.f
  rw [if_pos rfl]
  exact same_l0 l hl l.length 0 (by omega)
theorem same_q (A0 A1 : Option Addr) (c0 c1 : Nat) (l : List ByteArray) (w : World) (hl : l.length ≤ 1000) (h0 : Kd.C Kd.string w A0 l.length l) (hc0 : l.length ≤ c0) (h1 : Kd.C Kd.string w A1 l.length l) (hc1 : l.length ≤ c1) :
    Calls Try.prog 18 #[.slice A0 l.length c0, .slice A1 l.length c1] w fun e w' => e = .returned (.bool true) ∧ Below w.heap.size w w' := by
  refine (pacesetterref08_Same.calls _ A0 c0 l A1 c1 l true w h0 hc0 h1 hc1 (same_f l hl)).mono ?_
  rintro e w' ⟨rfl, hd⟩
  exact ⟨rfl, hd.below⟩
theorem since_top {n rev : Int} {L : List S72} (g : K14.Good n rev L) : since L rev = [] := by
  unfold since
  rw [List.map_eq_nil_iff, List.filter_eq_nil_iff]
  intro e he
  have := g.hi e he
  simp
  omega
theorem since_all {n rev : Int} {L : List S72} (g : K14.Good n rev L) : since L 0 = L.map (·.f0) := by
  unfold since
  congr 1
  rw [List.filter_eq_self]
  intro e he
  have := g.lo e he
  simp
  omega
theorem cutS_size (b : ByteArray) : (cutS b).size ≤ 70 := by
  unfold cutS
  rw [ByteArray.size_extract]
  have : mn (b.size : Int) 70 ≤ 70 := by unfold mn; split <;> omega
  omega
theorem ops_short (l : List S42) : ∀ e ∈ opsL l, e.f0.size ≤ maxLen := by
  intro e he
  unfold opsL at he
  obtain ⟨x, _, rfl⟩ := List.mem_map.1 he
  exact Nat.le_trans (cutS_size x.f0) (by decide)
end Go.Proofs.Ytnmnojapacflgaa.K15
