/-
  Proved here: for all whole numbers n, parts of 64 bits the printed function of NumShares answers true. No condition.
-/
import Derived.Test.YtldanidookkmaaaPNumSharesx2
namespace Go.Proofs.Ytldanidookkmaaa.Pure
open Go.RowKit Go.Proofs.Ytldanidookkmaaa.PNumShares Go.Proofs.YtldanidookkmaaaW.PrintWords Go.Proofs.YtldanidookkmaaaW.PrintLast Go.Proofs.YtldanidookkmaaaW.PrintMore

theorem lives_true : pacesetterlaw02_lives.f 200 = some true := by decide +kernel

theorem mn_mx_bounds (n lo hi : Int) (h : lo ≤ hi) : lo ≤ mn (mx n lo) hi ∧ mn (mx n lo) hi ≤ hi := by
  unfold mn mx; constructor <;> (repeat' split) <;> omega

theorem wrap_in (x : Int) (h0 : -1048576000 ≤ x) (h1 : x ≤ 1048576000) : wrap64 x = x := by unfold wrap64; omega

/-- p parts of q * p + r: r greater ones first. -/
def parted (q : Int) (r p : Nat) : List Int := List.replicate r (q + 1) ++ List.replicate (p - r) q

theorem parted_len (q : Int) (r p : Nat) (h : r ≤ p) : (parted q r p).length = p := by simp [parted]; omega

theorem parted_rd (q : Int) (r p i : Nat) (h : i < p) : rd (parted q r p) (i : Int) = if i < r then q + 1 else q := by
  unfold rd parted
  rw [Int.toNat_natCast, List.getD_eq_getElem?_getD, List.getElem?_append]
  simp only [List.length_replicate, List.getElem?_replicate]
  by_cases hi : i < r
  · simp [hi]
  · have : i - r < p - r := by omega
    simp [hi, this]

theorem mul_nonneg' (q : Int) (p : Nat) (hq : 0 ≤ q) : 0 ≤ q * (p : Int) := Int.mul_nonneg hq (by omega)

theorem share_loop (q : Int) (hq : 0 ≤ q) : ∀ (p r k : Nat) (acc : List Int), (r < p ∨ r = 0) → p < k → acc.length + p ≤ 64 → p ≤ 64 → q * p + r ≤ 1048576 →
    num_Share.l0 k (q * p + r) p acc = some (acc ++ parted q r p) := by
  intro p
  induction p with
  | zero =>
    intro r k acc hr hk _ _ _
    obtain ⟨k, rfl⟩ : ∃ m, k = m + 1 := ⟨k - 1, by omega⟩
    have : r = 0 := by omega
    subst this
    simp [num_Share.l0, parted]
  | succ p ih =>
    intro r k acc hr hk hl hp hb
    obtain ⟨k, rfl⟩ : ∃ m, k = m + 1 := ⟨k - 1, by omega⟩
    have e0 : q * ((p + 1 : Nat) : Int) = q * (p : Int) + q := by rw [Int.natCast_add, Int.mul_add]; simp
    have hqp := mul_nonneg' q p hq
    simp only [num_Share.l0]
    rw [e0] at hb ⊢
    have hq1 : q ≤ 1048576 := by omega
    rw [if_pos (by omega), if_neg (by omega), if_pos (by omega)]
    have own : wrap64 (Int.tdiv (wrap64 ((wrap64 (q * (p : Int) + q + (r : Int) + ((p + 1 : Nat) : Int))) - 1)) ((p + 1 : Nat) : Int)) = if r = 0 then q else q + 1 := by
      rw [wrap_in (q * (p : Int) + q + (r : Int) + ((p + 1 : Nat) : Int)) (by omega) (by omega), wrap_in (q * (p : Int) + q + (r : Int) + ((p + 1 : Nat) : Int) - 1) (by omega) (by omega), Int.tdiv_eq_ediv_of_nonneg (by omega)]
      by_cases h0 : r = 0
      · subst h0
        have e : q * (p : Int) + q + ((0 : Nat) : Int) + ((p + 1 : Nat) : Int) - 1 = (p : Int) + q * ((p + 1 : Nat) : Int) := by rw [e0]; omega
        rw [e, Int.add_mul_ediv_right _ _ (by omega), Int.ediv_eq_zero_of_lt (by omega) (by omega), if_pos rfl, wrap_in _ (by omega) (by omega)]
        omega
      · have e : q * (p : Int) + q + (r : Int) + ((p + 1 : Nat) : Int) - 1 = ((r : Int) - 1) + (q + 1) * ((p + 1 : Nat) : Int) := by rw [Int.add_mul, e0]; omega
        rw [e, Int.add_mul_ediv_right _ _ (by omega), Int.ediv_eq_zero_of_lt (by omega) (by omega), if_neg h0, wrap_in _ (by omega) (by omega)]
        omega
    rw [own]
    have ep : wrap64 (((p + 1 : Nat) : Int) - 1) = (p : Int) := by rw [wrap_in _ (by omega) (by omega)]; omega
    rw [ep]
    by_cases h0 : r = 0
    · subst h0
      rw [if_pos rfl, wrap_in _ (by omega) (by omega)]
      have e : q * (p : Int) + q + ((0 : Nat) : Int) - q = q * (p : Int) + ((0 : Nat) : Int) := by omega
      rw [e, ih 0 k (acc ++ [q]) (.inr rfl) (by omega) (by simp; omega) (by omega) (by omega)]
      simp [parted, List.replicate_succ]
    · obtain ⟨s, rfl⟩ : ∃ m, r = m + 1 := ⟨r - 1, by omega⟩
      rw [if_neg h0, wrap_in _ (by omega) (by omega)]
      have e : q * (p : Int) + q + ((s + 1 : Nat) : Int) - (q + 1) = q * (p : Int) + (s : Int) := by omega
      rw [e, ih s k (acc ++ [q + 1]) (by omega) (by omega) (by simp; omega) (by omega) (by omega)]
      simp [parted, List.replicate_succ]

theorem refcut_eq (n : Int) : pacesetterref02_Cut.f n = some (mn (mx n 0) 1048576) := by
  unfold pacesetterref02_Cut.f mn mx; (repeat' split) <;> first | rfl | (congr 1; omega) | omega

/-- The first i are b, those behind are a: one more. -/
theorem set_next (a b : Int) (i d : Nat) : (List.replicate i b ++ List.replicate (d + 1) a).set i b = List.replicate (i + 1) b ++ List.replicate d a := by
  rw [List.set_append_right _ _ (by simp)]
  rw [List.replicate_succ' (n := i)]
  simp [List.replicate_succ]

theorem ref_loop1 (n q : Int) (p r : Nat) (hr : r ≤ p) (hp : 0 < p) (hp' : p ≤ 64) (hm : mn (mx n 0) 1048576 % (p : Int) = r) (hq : 0 ≤ q) (hq' : q ≤ 1048576) : ∀ (d i k : Nat), i + d = r → d < k →
    pacesetterref02_Share.l1 k n (List.replicate i (q + 1) ++ List.replicate (p - i) q) i = some (parted q r p) := by
  intro d
  induction d with
  | zero =>
    intro i k hi hk
    obtain ⟨k, rfl⟩ : ∃ m, k = m + 1 := ⟨k - 1, by omega⟩
    have hc := mn_mx_bounds n 0 1048576 (by omega)
    have hlen : ((List.replicate i (q + 1) ++ List.replicate (p - i) q).length : Int) = p := by simp; omega
    simp only [pacesetterref02_Share.l1]
    rw [refcut_eq, Option.bind_some, hlen, if_neg (by omega), Int.tmod_eq_emod_of_nonneg hc.1, hm, if_neg (by omega)]
    have : i = r := by omega
    subst this
    rfl
  | succ d ih =>
    intro i k hi hk
    obtain ⟨k, rfl⟩ : ∃ m, k = m + 1 := ⟨k - 1, by omega⟩
    have hc := mn_mx_bounds n 0 1048576 (by omega)
    have hlen : ((List.replicate i (q + 1) ++ List.replicate (p - i) q).length : Int) = p := by simp; omega
    simp only [pacesetterref02_Share.l1]
    rw [refcut_eq, Option.bind_some, hlen, if_neg (by omega), Int.tmod_eq_emod_of_nonneg hc.1, hm, if_pos (by omega), if_pos (by omega), if_pos (by omega)]
    have hrd : rd (List.replicate i (q + 1) ++ List.replicate (p - i) q) (i : Int) = q := by
      have := parted_rd q i p i (by omega)
      rw [if_neg (by omega)] at this
      exact this
    obtain ⟨e, he⟩ : ∃ e, p - i = e + 1 := ⟨p - i - 1, by omega⟩
    rw [hrd, wrap_in (q + 1) (by omega) (by omega), wrap_in ((i : Int) + 1) (by omega) (by omega), Int.toNat_natCast, he, set_next]
    have h := ih (i + 1) k (by omega) (by omega)
    rw [show p - (i + 1) = e from by omega] at h
    exact h

theorem ref_loop0 (n q : Int) (p r : Nat) (hr : r ≤ p) (hp : 0 < p) (hp' : p ≤ 64) (hm : mn (mx n 0) 1048576 % (p : Int) = r) (hd : mn (mx n 0) 1048576 / (p : Int) = q) (hq : 0 ≤ q) (hq' : q ≤ 1048576) : ∀ (d i k : Nat), i + d = p → d + r + 1 < k →
    pacesetterref02_Share.l0 k n (List.replicate i q ++ List.replicate d 0) i = some (parted q r p) := by
  intro d
  induction d with
  | zero =>
    intro i k hi hk
    obtain ⟨k, rfl⟩ : ∃ m, k = m + 1 := ⟨k - 1, by omega⟩
    have : i = p := by omega
    subst this
    simp only [pacesetterref02_Share.l0]
    rw [if_neg (by simp)]
    have h := ref_loop1 n q i r hr hp hp' hm hq hq' r 0 k (by omega) (by omega)
    simpa using h
  | succ d ih =>
    intro i k hi hk
    obtain ⟨k, rfl⟩ : ∃ m, k = m + 1 := ⟨k - 1, by omega⟩
    have hc := mn_mx_bounds n 0 1048576 (by omega)
    have hlen : ((List.replicate i q ++ List.replicate (d + 1) (0 : Int)).length : Int) = p := by simp; omega
    simp only [pacesetterref02_Share.l0]
    rw [hlen, if_pos (by omega), refcut_eq, Option.bind_some, if_neg (by omega), if_pos (by omega), Int.tdiv_eq_ediv_of_nonneg hc.1, hd, wrap_in q (by omega) (by omega), wrap_in ((i : Int) + 1) (by omega) (by omega), Int.toNat_natCast, set_next]
    exact ih (i + 1) k (by omega) (by omega)

theorem same_loop (l : List Int) (hl : l.length ≤ 64) : ∀ (d i k : Nat), i + d = l.length → d < k → pacesetterref01_Same.l0 k l l i = some true := by
  intro d
  induction d with
  | zero =>
    intro i k hi hk
    obtain ⟨k, rfl⟩ : ∃ m, k = m + 1 := ⟨k - 1, by omega⟩
    simp only [pacesetterref01_Same.l0]
    rw [if_neg (by omega)]
  | succ d ih =>
    intro i k hi hk
    obtain ⟨k, rfl⟩ : ∃ m, k = m + 1 := ⟨k - 1, by omega⟩
    simp only [pacesetterref01_Same.l0]
    rw [if_pos (by omega), if_pos (by omega), if_pos (by omega), wrap_in _ (by omega) (by omega)]
    simp only [if_true]
    exact ih (i + 1) k (by omega) (by omega)

/-- What the first i parts come to. -/
def upTo (q : Int) (r i : Nat) : Int := q * i + (min r i : Nat)

theorem upTo_succ (q : Int) (r i : Nat) : upTo q r (i + 1) = upTo q r i + if i < r then q + 1 else q := by
  unfold upTo
  have e0 : q * ((i + 1 : Nat) : Int) = q * (i : Int) + q := by rw [Int.natCast_add, Int.mul_add]; simp
  rw [e0]
  split <;> omega

theorem upTo_bounds (q : Int) (hq : 0 ≤ q) (hq' : q ≤ 1048576) (r i : Nat) (hi : i ≤ 64) : 0 ≤ upTo q r i ∧ upTo q r i ≤ 67108928 := by
  unfold upTo
  have h := mul_nonneg' q i hq
  have h2 : q * (i : Int) ≤ 1048576 * (i : Int) := Int.mul_le_mul_of_nonneg_right hq' (by omega)
  omega

theorem law_loop (n q : Int) (p r : Nat) (hr : r ≤ p) (hp : 0 < p) (hp' : p ≤ 64) (hq : 0 ≤ q) (hq' : q ≤ 1048576) (hs : upTo q r p = mn (mx n 0) 1048576) : ∀ (d i k : Nat), i + d = p → d < k →
    pacesetterlaw02_NumShares.l0 k n (parted q r p) (upTo q r i) i = some true := by
  intro d
  have hlen : ((parted q r p).length : Int) = p := by rw [parted_len q r p hr]
  induction d with
  | zero =>
    intro i k hi hk
    obtain ⟨k, rfl⟩ : ∃ m, k = m + 1 := ⟨k - 1, by omega⟩
    have : i = p := by omega
    subst this
    simp only [pacesetterlaw02_NumShares.l0]
    rw [hlen, if_neg (by omega), hs]
    simp [num_Cut.f]
  | succ d ih =>
    intro i k hi hk
    obtain ⟨k, rfl⟩ : ∃ m, k = m + 1 := ⟨k - 1, by omega⟩
    have hb := upTo_bounds q hq hq' r i (by omega)
    have hi1 : rd (parted q r p) (i : Int) = if i < r then q + 1 else q := parted_rd q r p i (by omega)
    have h0 : rd (parted q r p) 0 = if 0 < r then q + 1 else q := parted_rd q r p 0 hp
    have next := ih (i + 1) k (by omega) (by omega)
    rw [upTo_succ] at next
    simp only [pacesetterlaw02_NumShares.l0]
    rw [hlen, if_pos (by omega), if_pos (by omega)]
    have hend : (if 0 < (p : Int) then (if (wrap64 ((rd (parted q r p) 0) - (rd (parted q r p) (i : Int)))) > 1 then (some false) else (pacesetterlaw02_NumShares.l0 k n (parted q r p) (wrap64 (upTo q r i + (rd (parted q r p) (i : Int)))) (wrap64 ((i : Int) + 1)))) else none) = some true := by
      rw [if_pos (by omega), hi1, h0]
      have hw : wrap64 (upTo q r i + if i < r then q + 1 else q) = upTo q r i + if i < r then q + 1 else q := wrap_in _ (by split <;> omega) (by split <;> omega)
      rw [hw, wrap_in ((i : Int) + 1) (by omega) (by omega), wrap_in _ (by split <;> split <;> omega) (by split <;> split <;> omega), if_neg (by split <;> split <;> omega)]
      exact next
    by_cases hz : i = 0
    · subst hz
      rw [if_neg (by omega)]
      exact hend
    · have hprev : rd (parted q r p) ((i : Int) - 1) = if i - 1 < r then q + 1 else q := by
        have := parted_rd q r p (i - 1) (by omega)
        rw [show (((i - 1 : Nat)) : Int) = (i : Int) - 1 from by omega] at this
        exact this
      rw [if_pos (by omega), wrap_in ((i : Int) - 1) (by omega) (by omega), if_pos (by omega), if_pos (by omega), hprev, hi1, if_neg (by split <;> split <;> omega), ← hi1]
      exact hend

theorem NumShares : pacesetterlaw02_NumShares.Pure := by
  intro a b _ _
  refine ⟨200, ?_⟩
  have hn := mn_mx_bounds a 0 1048576 (by omega)
  have hp := mn_mx_bounds b 1 64 (by omega)
  obtain ⟨p, hpe⟩ : ∃ p : Nat, mn (mx b 1) 64 = p := ⟨(mn (mx b 1) 64).toNat, by omega⟩
  rw [hpe] at hp
  have hmod0 := Int.emod_nonneg (mn (mx a 0) 1048576) (b := (p : Int)) (by omega)
  have hmod1 := Int.emod_lt_of_pos (mn (mx a 0) 1048576) (b := (p : Int)) (by omega)
  obtain ⟨r, hr⟩ : ∃ r : Nat, mn (mx a 0) 1048576 % (p : Int) = r := ⟨(mn (mx a 0) 1048576 % (p : Int)).toNat, by omega⟩
  obtain ⟨q, hq⟩ : ∃ q, mn (mx a 0) 1048576 / (p : Int) = q := ⟨_, rfl⟩
  have hq0 : 0 ≤ q := by rw [← hq]; exact Int.ediv_nonneg hn.1 (by omega)
  have hall : q * p + r = mn (mx a 0) 1048576 := by rw [← hq, ← hr, Int.mul_comm]; exact Int.mul_ediv_add_emod _ _
  have hqp := mul_nonneg' q (p - 1) hq0
  have hqe : q * ((p - 1 : Nat) : Int) + q = q * p := by
    have : (p : Int) = ((p - 1 : Nat) : Int) + 1 := by omega
    rw [this, Int.mul_add, Int.mul_one]
  have hq1 : q ≤ 1048576 := by omega
  have hr1 : r < p := by omega
  unfold pacesetterlaw02_NumShares.f
  rw [lives_true, Option.bind_some, if_pos rfl]
  have e1 : num_Share.f 200 a b = some (parted q r p) := by
    unfold num_Share.f num_Cut.f
    rw [Option.bind_some, hpe, ← hall]
    simpa using share_loop q hq0 p r 200 [] (.inl hr1) (by omega) (by simp; omega) (by omega) (by omega)
  have e2 : pacesetterref02_Share.f 200 a b = some (parted q r p) := by
    unfold pacesetterref02_Share.f
    rw [hpe, if_pos (by omega), if_pos (by omega), Int.toNat_natCast]
    simpa using ref_loop0 a q p r (by omega) (by omega) (by omega) hr hq hq0 hq1 p 0 200 (by omega) (by omega)
  have e3 : pacesetterref01_Same.f 200 (parted q r p) (parted q r p) = some true := by
    unfold pacesetterref01_Same.f
    rw [if_pos rfl]
    have hl := parted_len q r p (by omega)
    exact same_loop _ (by omega) p 0 200 (by omega) (by omega)
  rw [e1, Option.bind_some, e2, Option.bind_some, e3, Option.bind_some, if_pos rfl]
  have h0 : upTo q r 0 = 0 := by simp [upTo]
  have h := law_loop a q p r (by omega) (by omega) (by omega) hq0 hq1 (by unfold upTo; rw [Nat.min_eq_left (by omega)]; exact hall) p 0 200 (by omega) (by omega)
  rw [h0] at h
  exact h

end Go.Proofs.Ytldanidookkmaaa.Pure
