/-
  Proved here: the reference's Get, drop, put, Since, right in plain words; the order of its refusals. No condition but lists of 1000 at most.
-/
import Derived.Test.YtnmnojapacflgaaK15
import Derived.Test.YtnmnojapacflgaaK7
import Derived.Test.YtnmnojapacflgaaPKvPlaysx11
import Derived.Sort.Walk0
namespace Go.Proofs.Ytnmnojapacflgaa.K17
open Go.Proofs.Ytnmnojapacflgaa.M Go.Proofs.Ytnmnojapacflgaa.K0 Go.RowKit Go.Maps Go.Sort Go.Proofs.YtnmnojapacflgaaW.PrintWords Go.Proofs.YtnmnojapacflgaaW.PrintLast Go.Proofs.YtnmnojapacflgaaW.PrintMore Go.Proofs.Ytnmnojapacflgaa.PKvPlays Go.Proofs.Ytnmnojapacflgaa.K1 Go.Proofs.Ytnmnojapacflgaa.K2 Go.Proofs.Ytnmnojapacflgaa.K3 Go.Proofs.Ytnmnojapacflgaa.K4 Go.Proofs.Ytnmnojapacflgaa.K5 Go.Proofs.Ytnmnojapacflgaa.K6 Go.Proofs.Ytnmnojapacflgaa.K9 Go.Proofs.Ytnmnojapacflgaa.K10 Go.Proofs.Ytnmnojapacflgaa.K12 Go.Proofs.Ytnmnojapacflgaa.K14 Go.Proofs.Ytnmnojapacflgaa.K15 Go.Proofs.Ytnmnojapacflgaa.K7
set_option linter.unusedVariables false
set_option linter.unusedSimpArgs false
theorem txt {a b : ByteArray} : a.toList = b.toList ↔ a = b := ⟨fun h => key_inj (by rw [← ByteArray.toList_eq, ← ByteArray.toList_eq]; exact h), fun h => by rw [h]⟩
theorem dropE {α : Type} (L : List α) (i : Nat) (hi : i < L.length) (d : α) : L.drop i = L.getD i d :: L.drop (i + 1) := by
  rw [List.drop_eq_getElem_cons hi]
  simp [hi]
theorem nx {i : Nat} (h : i ≤ 1000) : wrap64 ((i : Int) + 1) = ((i + 1 : Nat) : Int) := by rw [K1.wrap64_eq (by omega) (by omega)]; rfl
theorem rd72 (L : List S72) (i : Nat) : rd_T72 L (i : Int) = L.getD i z72 := rfl
theorem rd42 (L : List S42) (i : Nat) : rd_T42 L (i : Int) = L.getD i z42 := rfl
theorem look_cons (e : S72) (M : List S72) (k : ByteArray) : K0.look (e :: M) k = if e.f0 = k then (e.f1, e.f2) else K0.look M k := by
  unfold K0.look
  rw [get_cons]
  split <;> rfl
theorem get_l0 (L : List S72) (rev : Int) (k : ByteArray) (hl : L.length ≤ 1000) : ∀ (j i : Nat), i + j = L.length → pacesetterref08_Get.l0 (j + 1) k (i : Int) L rev = some (K0.look (L.drop i) k)
  | 0, i, h => by
    simp only [pacesetterref08_Get.l0]
    rw [if_neg (by omega), List.drop_of_length_le (by omega)]
    rfl
  | j + 1, i, h => by
    have ih := get_l0 L rev k hl j (i + 1) (by omega)
    rw [pacesetterref08_Get.l0, if_pos (by omega), if_pos (by omega), rd72, nx (by omega), ih, dropE L i (by omega) z72, look_cons]
    by_cases e : (L.getD i z72).f0 = k
    · rw [if_pos (txt.2 e), if_pos e]
    · rw [if_neg (fun h => e (txt.1 h)), if_neg e]
theorem get_f (L : List S72) (rev : Int) (k : ByteArray) (hl : L.length ≤ 1000) : pacesetterref08_Get.f (L.length + 1) L rev k = some ((K0.look L k).1, (K0.look L k).2) := get_l0 L rev k hl L.length 0 (by omega)
theorem drop_l0 (L : List S72) (rev : Int) (k : ByteArray) (hl : L.length ≤ 1000) : ∀ (j i : Nat) (acc : List S72), i + j = L.length → acc.length ≤ i → pacesetterref08_drop.l0 (j + 1) k acc (i : Int) L rev = some (acc ++ K0.del (L.drop i) k, rev)
  | 0, i, acc, h, ha => by
    simp only [pacesetterref08_drop.l0]
    rw [if_neg (by omega), List.drop_of_length_le (by omega)]
    simp [K0.del]
  | j + 1, i, acc, h, ha => by
    rw [pacesetterref08_drop.l0, if_pos (by omega), if_pos (by omega), rd72, nx (by omega), dropE L i (by omega) z72]
    by_cases e : (L.getD i z72).f0 = k
    · rw [if_pos (txt.2 e), drop_l0 L rev k hl j (i + 1) acc (by omega) (by omega)]
      have : K0.del (L.getD i z72 :: L.drop (i + 1)) k = K0.del (L.drop (i + 1)) k := by unfold K0.del; rw [List.filter_cons_of_neg (by rw [decide_eq_true e]; decide)]
      rw [this]
    · rw [if_neg (fun h => e (txt.1 h)), if_pos (by omega), drop_l0 L rev k hl j (i + 1) _ (by omega) (by rw [List.length_append]; simp; omega)]
      have : K0.del (L.getD i z72 :: L.drop (i + 1)) k = L.getD i z72 :: K0.del (L.drop (i + 1)) k := by unfold K0.del; rw [List.filter_cons_of_pos (by rw [decide_eq_false e]; rfl)]
      rw [this, List.append_assoc]
      rfl
theorem drop_f (L : List S72) (rev : Int) (k : ByteArray) (hl : L.length ≤ 1000) : pacesetterref08_drop.f (L.length + 1) L rev k = some (K0.del L k, rev) := drop_l0 L rev k hl L.length 0 [] (by omega) (Nat.le_refl _)
theorem since_cons (e : S72) (M : List S72) (r : Int) : since (e :: M) r = if r < e.f2 then e.f0 :: since M r else since M r := by
  unfold since
  rw [List.filter_cons]
  by_cases h : r < e.f2
  · rw [if_pos (decide_eq_true h), if_pos h]; rfl
  · rw [if_neg (by simpa using h), if_neg h]
theorem since_l0 (L : List S72) (rev r : Int) (hl : L.length ≤ 1000) : ∀ (j i : Nat) (acc : List ByteArray), i + j = L.length → acc.length ≤ i → pacesetterref08_Since.l0 (j + 1) r acc (i : Int) L rev = some (acc ++ since (L.drop i) r)
  | 0, i, acc, h, ha => by
    simp only [pacesetterref08_Since.l0]
    rw [if_neg (by omega), List.drop_of_length_le (by omega)]
    simp [since]
  | j + 1, i, acc, h, ha => by
    rw [pacesetterref08_Since.l0, if_pos (by omega), if_pos (by omega), rd72, nx (by omega), dropE L i (by omega) z72, since_cons]
    by_cases e : r < (L.getD i z72).f2
    · rw [if_pos (show (L.getD i z72).f2 > r from e), if_pos (by omega), since_l0 L rev r hl j (i + 1) _ (by omega) (by rw [List.length_append]; simp; omega), if_pos e, List.append_assoc]
      rfl
    · rw [if_neg (show ¬ (L.getD i z72).f2 > r from e), since_l0 L rev r hl j (i + 1) _ (by omega) (by omega), if_neg e]
theorem since_f (L : List S72) (rev r : Int) (hl : L.length ≤ 1000) : pacesetterref08_Since.f (L.length + 1) L rev r = some (since L r) := since_l0 L rev r hl L.length 0 [] (by omega) (Nat.le_refl _)
theorem put_done (L : List S72) (rev : Int) (k v : ByteArray) (r : Int) (hl : L.length ≤ 1000) : ∀ (j i : Nat) (acc : List S72), i + j = L.length → acc.length ≤ i + 1 → pacesetterref08_put.l0 (j + 1) acc true (i : Int) L rev k v r = some (acc ++ L.drop i, rev)
  | 0, i, acc, h, ha => by
    rw [pacesetterref08_put.l0, if_neg (by omega), List.drop_of_length_le (by omega), if_pos rfl, List.append_nil]
  | j + 1, i, acc, h, ha => by
    rw [pacesetterref08_put.l0, if_pos (by omega), if_pos rfl, if_pos (by omega), if_pos (by omega), rd72, nx (by omega), put_done L rev k v r hl j (i + 1) _ (by omega) (by rw [List.length_append]; simp; omega), dropE L i (by omega) z72, List.append_assoc]
    rfl
theorem put_l0 (L : List S72) (rev : Int) (k v : ByteArray) (r : Int) (hl : L.length ≤ 1000) : ∀ (j i : Nat) (acc : List S72), i + j = L.length → acc.length ≤ i → pacesetterref08_put.l0 (j + 1) acc false (i : Int) L rev k v r = some (acc ++ K0.ins (L.drop i) ⟨k, v, r⟩, rev)
  | 0, i, acc, h, ha => by
    simp only [pacesetterref08_put.l0]
    rw [if_neg (by omega), List.drop_of_length_le (by omega), if_neg (by decide), if_pos (by omega)]
    rfl
  | j + 1, i, acc, h, ha => by
    rw [pacesetterref08_put.l0, if_pos (by omega), if_neg (by decide), if_pos (by omega), rd72, nx (by omega), dropE L i (by omega) z72]
    have hb : Op.bytesLess k.toList ((L.getD i z72).f0).toList = decide (k.data.toList < (L.getD i z72).f0.data.toList) := by rw [Go.Proofs.bytesLess_eq, ByteArray.toList_eq, ByteArray.toList_eq]
    rw [hb]
    have hi : K0.ins (L.getD i z72 :: L.drop (i + 1)) ⟨k, v, r⟩ = if k.data.toList < (L.getD i z72).f0.data.toList then ⟨k, v, r⟩ :: L.getD i z72 :: L.drop (i + 1) else L.getD i z72 :: K0.ins (L.drop (i + 1)) ⟨k, v, r⟩ := rfl
    rw [hi]
    by_cases e : k.data.toList < (L.getD i z72).f0.data.toList
    · rw [if_pos (decide_eq_true e), if_pos e, if_pos (by omega), Option.bind_some, if_pos (by rw [List.length_append]; simp; omega), put_done L rev k v r hl j (i + 1) _ (by omega) (by rw [List.length_append, List.length_append]; simp; omega)]
      simp
    · rw [if_neg (by simpa using e), if_neg e, if_pos (by omega), put_l0 L rev k v r hl j (i + 1) _ (by omega) (by rw [List.length_append]; simp; omega), List.append_assoc]
      rfl
theorem put_f (L : List S72) (rev : Int) (k v : ByteArray) (r : Int) (hl : L.length ≤ 1000) : pacesetterref08_put.f (L.length + 1) L rev k v r = some (K0.ins L ⟨k, v, r⟩, rev) := put_l0 L rev k v r hl L.length 0 [] (by omega) (Nat.le_refl _)
/-! ### right -/
theorem empty_size (b : ByteArray) : b.toList.isEmpty = decide ((b.size : Int) < 1) := by
  rw [ByteArray.toList_eq]
  obtain ⟨⟨l⟩⟩ := b
  cases l with
  | nil => rfl
  | cons x l => simp [ByteArray.size]; omega
abbrev key (M : List S42) (i : Nat) : ByteArray := (M.getD i z42).f0
theorem r_same (M : List S42) (i : Nat) (hi : i < M.length) (hl : M.length ≤ 1000) : ∀ (j x : Nat), x + j = i → (∃ y, x ≤ y ∧ y < i ∧ key M y = key M i) → ∃ k, pacesetterref08_right.l1 k M (i : Int) (x : Int) = some false
  | 0, x, h, ⟨y, h1, h2, _⟩ => by omega
  | j + 1, x, h, ⟨y, h1, h2, h3⟩ => by
    by_cases e : key M x = key M i
    · refine ⟨1, ?_⟩
      rw [pacesetterref08_right.l1, if_pos (by omega), if_pos (by omega), if_pos (by omega), if_pos (by omega), if_pos (by omega), rd42, rd42, if_pos (txt.2 e)]
    · obtain ⟨k, hk⟩ := r_same M i hi hl j (x + 1) (by omega) ⟨y, by rcases Nat.lt_or_eq_of_le h1 with h | h; omega; exact absurd (h ▸ h3) e, h2, h3⟩
      refine ⟨k + 1, ?_⟩
      rw [pacesetterref08_right.l1, if_pos (by omega), if_pos (by omega), if_pos (by omega), if_pos (by omega), if_pos (by omega), rd42, rd42, if_neg (fun h => e (txt.1 h)), nx (by omega), hk]
theorem r_none (M : List S42) (i : Nat) (hi : i < M.length) (hl : M.length ≤ 1000) (r : Bool) (hr : ∃ k, pacesetterref08_right.l0 k M ((i + 1 : Nat) : Int) = some r) : ∀ (j x : Nat), x + j = i → (∀ y, x ≤ y → y < i → key M y ≠ key M i) → ∃ k, pacesetterref08_right.l1 k M (i : Int) (x : Int) = some r
  | 0, x, h, _ => by
    obtain ⟨k, hk⟩ := hr
    refine ⟨k + 1, ?_⟩
    rw [pacesetterref08_right.l1, if_neg (by omega), nx (by omega), hk]
  | j + 1, x, h, hn => by
    obtain ⟨k, hk⟩ := r_none M i hi hl r hr j (x + 1) (by omega) (fun y h1 h2 => hn y (by omega) h2)
    refine ⟨k + 1, ?_⟩
    rw [pacesetterref08_right.l1, if_pos (by omega), if_pos (by omega), if_pos (by omega), if_pos (by omega), if_pos (by omega), rd42, rd42, if_neg (fun h2 => hn x (Nat.le_refl _) (by omega) (txt.1 h2)), nx (by omega), hk]
def seenK (M : List S42) (i : Nat) : List ByteArray := (M.take i).map (·.f0)
theorem inB_seen (M : List S42) (i : Nat) (hi : i ≤ M.length) (k : ByteArray) : inB k (seenK M i) = true ↔ ∃ y, y < i ∧ key M y = k := by
  unfold inB seenK
  rw [List.any_eq_true]
  constructor
  · rintro ⟨x, hx, he⟩
    obtain ⟨e, he2, rfl⟩ := List.mem_map.1 hx
    obtain ⟨n, hn, h2⟩ := List.mem_iff_getElem.1 he2
    rw [List.length_take] at hn
    refine ⟨n, by omega, ?_⟩
    rw [List.getElem_take] at h2
    unfold key
    rw [List.getD_eq_getElem?_getD, List.getElem?_eq_getElem (by omega), ← of_decide_eq_true he, ← h2]
    rfl
  · rintro ⟨y, hy, rfl⟩
    refine ⟨key M y, List.mem_map.2 ⟨M.getD y z42, ?_, rfl⟩, by simp⟩
    rw [List.getD_eq_getElem?_getD, List.getElem?_eq_getElem (by omega)]
    exact List.mem_iff_getElem.2 ⟨y, by rw [List.length_take]; omega, by rw [List.getElem_take]; rfl⟩
theorem seen_next (M : List S42) (i : Nat) (hi : i < M.length) : seenK M (i + 1) = seenK M i ++ [key M i] := by
  unfold seenK
  rw [List.take_succ_eq_append_getElem hi, List.map_append]
  simp [hi, key]
theorem asL_drop (M : List S42) (i : Nat) (hi : i < M.length) : asL (M.drop i) = to53 (M.getD i z42) :: asL (M.drop (i + 1)) := by
  rw [dropE M i hi z42]
  rfl
theorem right_at (M : List S42) (hl : M.length ≤ 1000) : ∀ (j i : Nat), i + j = M.length → ∃ k, pacesetterref08_right.l0 k M (i : Int) = some (rightFrom (seenK M i) (asL (M.drop i)) && decide (0 < M.length))
  | 0, i, h => by
    refine ⟨1, ?_⟩
    rw [pacesetterref08_right.l0, if_neg (by omega), List.drop_of_length_le (by omega)]
    simp [asL, rightFrom]
  | j + 1, i, h => by
    have hi : i < M.length := by omega
    have ih := right_at M hl j (i + 1) (by omega)
    rw [asL_drop M i hi]
    have hu : rightFrom (seenK M i) (to53 (M.getD i z42) :: asL (M.drop (i + 1))) = (okOp (to53 (M.getD i z42)) && !inB (key M i) (seenK M i) && rightFrom (seenK M (i + 1)) (asL (M.drop (i + 1)))) := by rw [seen_next M i hi]; rfl
    rw [hu]
    have hok : okOp (to53 (M.getD i z42)) = !(decide (((M.getD i z42).f0.size : Int) < 1) || decide (64 < ((M.getD i z42).f0.size : Int)) || decide (64 < ((M.getD i z42).f1.size : Int))) := by rw [← empty_size]; rfl
    rw [hok]
    by_cases c1 : ((M.getD i z42).f0.size : Int) < 1
    · refine ⟨2, ?_⟩
      rw [pacesetterref08_right.l0, if_pos (by omega), if_pos (by omega), rd42, if_pos c1, pacesetterref08_right.j1, if_pos rfl, decide_eq_true c1]
      simp
    · by_cases c2 : 64 < ((M.getD i z42).f0.size : Int)
      · refine ⟨2, ?_⟩
        rw [pacesetterref08_right.l0, if_pos (by omega), if_pos (by omega), rd42, if_neg c1, if_pos c2, pacesetterref08_right.j1, if_pos rfl, decide_eq_true c2]
        simp
      · by_cases c3 : 64 < ((M.getD i z42).f1.size : Int)
        · refine ⟨2, ?_⟩
          rw [pacesetterref08_right.l0, if_pos (by omega), if_pos (by omega), rd42, if_neg c1, if_neg c2, decide_eq_true (show _ > (64 : Int) from c3), pacesetterref08_right.j1, if_pos rfl]
          simp
        · have hstep : ∀ (r : Bool), (∃ k, pacesetterref08_right.l1 k M (i : Int) ((0 : Nat) : Int) = some r) → ∃ k, pacesetterref08_right.l0 k M (i : Int) = some r := fun r ⟨k, hk⟩ => ⟨k + 2, by
            rw [pacesetterref08_right.l0, if_pos (by omega), if_pos (by omega), rd42, if_neg c1, if_neg c2, decide_eq_false (show ¬ _ > (64 : Int) from c3), pacesetterref08_right.j1, if_neg (by decide)]
            exact hk⟩
          rw [decide_eq_false c1, decide_eq_false c2, decide_eq_false c3]
          by_cases c4 : inB (key M i) (seenK M i) = true
          · rw [c4]
            obtain ⟨y, h1, h2⟩ := (inB_seen M i (by omega) _).1 c4
            simpa using hstep false (r_same M i hi hl i 0 (by omega) ⟨y, by omega, h1, h2⟩)
          · have c5 : inB (key M i) (seenK M i) = false := by simpa using c4
            rw [c5]
            have hn : ∀ y, 0 ≤ y → y < i → key M y ≠ key M i := fun y _ h2 h3 => c4 ((inB_seen M i (by omega) _).2 ⟨y, h2, h3⟩)
            simpa using hstep _ (r_none M i hi hl _ ih i 0 (by omega) hn)
theorem right_f (M : List S42) (hl : M.length ≤ 1000) : ∃ k, pacesetterref08_right.f k M = some (rightB (asL M)) := by
  obtain ⟨k, hk⟩ := right_at M hl M.length 0 (by omega)
  refine ⟨k, ?_⟩
  have : rightB (asL M) = (rightFrom (seenK M 0) (asL (M.drop 0)) && decide (0 < M.length)) := by unfold rightB; rw [asL_len]; rfl
  rw [this]
  exact hk
/-! ### the order of refusals -/
def bad7 (L : List S72) (e : S42) : Bool := decide (0 ≤ e.f2) && e.f2 != (K0.look L e.f0).2
def bad5 (L : List S72) (e : S42) : Bool := e.f3 && (K0.look L e.f0).2 == 0
theorem why7 (L : List S72) : ∀ (M : List S42) (n : Int) (z : Bool), (∃ e ∈ M, bad7 L e = true) → whyFrom L (asL M) n z = 7
  | [], _, _, ⟨e, h, _⟩ => by simp at h
  | x :: M, n, z, ⟨e, h, hb⟩ => by
    rw [show asL (x :: M) = to53 x :: asL M from rfl, whyFrom_cons]
    rw [show (decide (0 ≤ (to53 x).f2) && (to53 x).f2 != (K0.look L (to53 x).f0).2) = bad7 L x from rfl]
    by_cases hx : bad7 L x = true
    · rw [if_pos hx]
    · rw [if_neg hx]
      have hm : ∃ e ∈ M, bad7 L e = true := by
        rcases List.mem_cons.1 h with rfl | h
        · exact absurd hb hx
        · exact ⟨e, h, hb⟩
      split
      · exact why7 L M _ _ hm
      · split
        · exact why7 L M _ _ hm
        · exact why7 L M _ _ hm
theorem why5 (L : List S72) : ∀ (M : List S42) (n : Int) (z : Bool), (∀ e ∈ M, bad7 L e = false) → (z = true ∨ ∃ e ∈ M, bad5 L e = true) → whyFrom L (asL M) n z = 5
  | [], n, z, _, h => by
    rcases h with rfl | ⟨e, h, _⟩
    · rfl
    · simp at h
  | x :: M, n, z, h7, h => by
    rw [show asL (x :: M) = to53 x :: asL M from rfl, whyFrom_cons, if_neg (by rw [show (decide (0 ≤ (to53 x).f2) && (to53 x).f2 != (K0.look L (to53 x).f0).2) = bad7 L x from rfl, h7 x (List.mem_cons_self ..)]; decide)]
    have h7' : ∀ e ∈ M, bad7 L e = false := fun e he => h7 e (List.mem_cons_of_mem _ he)
    have hz : ∀ (z' : Bool), (z = true → z' = true) → (bad5 L x = true → z' = true) → ∀ n', whyFrom L (asL M) n' z' = 5 := fun z' g1 g2 n' => by
      refine why5 L M n' z' h7' ?_
      rcases h with h | ⟨e, he, hb⟩
      · exact .inl (g1 h)
      · rcases List.mem_cons.1 he with rfl | he
        · exact .inl (g2 hb)
        · exact .inr ⟨e, he, hb⟩
    split
    · rename_i hd
      refine hz _ (fun h => by rw [h]; rfl) (fun h => ?_) _
      unfold bad5 at h
      simp only [Bool.and_eq_true] at h
      rw [show ((K0.look L (to53 x).f0).2 == 0) = true from h.2, Bool.or_true]
    · rename_i hd
      have hn : bad5 L x = true → z = true := fun h => by
        unfold bad5 at h
        simp only [Bool.and_eq_true] at h
        exact absurd h.1 hd
      split
      · exact hz _ id hn _
      · exact hz _ id hn _
theorem why4 {L : List S72} (hlo : ∀ e ∈ L, 1 ≤ e.f2) (r : Int) : ∀ (l : List S42) (seen : List ByteArray) (M : List S72) (n : Int), rightFrom seen (asL l) = true → (∀ e ∈ l, K0.get M e.f0 = K0.get L e.f0) → Rise M → (M.length : Int) = n → (∀ e ∈ l, bad7 L e = false) → (∀ e ∈ l, bad5 L e = false) →
    whyFrom L (asL l) n false = if 64 < ((asL l).foldl (opL r) M).length then 4 else 0
  | [], seen, M, n, _, _, hr, hn, _, _ => by
    rw [show asL [] = [] from rfl, whyFrom_nil, if_neg (by decide), List.foldl_nil, ← hn]
    by_cases h : 64 < M.length
    · rw [if_pos h, if_pos (decide_eq_true (by omega))]
    · rw [if_neg h, if_neg (by rw [decide_eq_false (by omega)]; decide)]
  | e :: l, seen, M, n, hrt, hget, hr, hn, h7, h5 => by
    rw [show asL (e :: l) = to53 e :: asL l from rfl] at hrt ⊢
    unfold rightFrom at hrt
    simp only [Bool.and_eq_true] at hrt
    obtain ⟨⟨_, hin⟩, hrt⟩ := hrt
    have hne := right_ne (k := e.f0) (asL l) _ hrt (by rw [show (to53 e).f0 = e.f0 from rfl, inB_snoc]; simp)
    have hM1 : ∀ x ∈ l, K0.get (opL r M (to53 e)) x.f0 = K0.get L x.f0 := fun x hx => by
      rw [get_op, if_neg (show ¬ x.f0 = (to53 e).f0 from hne (to53 x) (List.mem_map_of_mem hx))]
      exact hget x (List.mem_cons_of_mem _ hx)
    have hge := hget e (List.mem_cons_self ..)
    have e7 := h7 e (List.mem_cons_self ..)
    have e5 := h5 e (List.mem_cons_self ..)
    have ih : ∀ n', ((opL r M (to53 e)).length : Int) = n' → whyFrom L (asL l) n' false = if 64 < ((to53 e :: asL l).foldl (opL r) M).length then 4 else 0 := fun n' hn' =>
      why4 hlo r l _ (opL r M (to53 e)) n' hrt hM1 (Rise.op hr r _) hn' (fun x hx => h7 x (List.mem_cons_of_mem _ hx)) (fun x hx => h5 x (List.mem_cons_of_mem _ hx))
    rw [whyFrom_cons, if_neg (by rw [show (decide (0 ≤ (to53 e).f2) && (to53 e).f2 != (K0.look L (to53 e).f0).2) = bad7 L e from rfl, e7]; decide)]
    split
    · rename_i hd
      unfold bad5 at e5
      rw [show e.f3 = true from hd, Bool.true_and] at e5
      rw [show ((K0.look L (to53 e).f0).2 == 0) = false from e5, Bool.or_false]
      have hs := get_of_pos (L := L) (k := e.f0) (by simpa using e5)
      rw [← hge] at hs
      have hl := del_some_len hr hs
      exact ih _ (by unfold opL; rw [if_pos hd]; show ((K0.del M e.f0).length : Int) = _; omega)
    · rename_i hd
      have hlen : (opL r M (to53 e)).length = (K0.del M e.f0).length + 1 := by unfold opL; rw [if_neg hd, ins_len]; rfl
      split
      · rename_i h0
        have hn0 := get_of_zero hlo (k := e.f0) (beq_iff_eq.1 h0)
        rw [← hge] at hn0
        have : K0.del M e.f0 = M := del_none (get_none_of hn0)
        exact ih _ (by rw [hlen, this]; omega)
      · rename_i h0
        have hs := get_of_pos (L := L) (k := e.f0) (fun h => h0 (beq_iff_eq.2 h))
        rw [← hge] at hs
        have hl := del_some_len hr hs
        exact ih _ (by rw [hlen]; omega)
variable {n rev : Int} {L : List S72} {M : List S42}
theorem do1 (h : rightB (asL M) = false) : doL rev L (asL M) = (0, 1, rev, L) := by
  have : whyL L (asL M) = 1 := by unfold whyL; rw [if_neg (by rw [h]; decide)]
  unfold doL
  rw [this, if_neg (by decide)]
theorem do7 (h : rightB (asL M) = true) (hb : ∃ e ∈ M, bad7 L e = true) : doL rev L (asL M) = (0, 7, rev, L) := by
  have : whyL L (asL M) = 7 := by unfold whyL; rw [if_pos h]; exact why7 L M _ _ hb
  unfold doL
  rw [this, if_neg (by decide)]
theorem do5 (h : rightB (asL M) = true) (h7 : ∀ e ∈ M, bad7 L e = false) (hb : ∃ e ∈ M, bad5 L e = true) : doL rev L (asL M) = (0, 5, rev, L) := by
  have : whyL L (asL M) = 5 := by unfold whyL; rw [if_pos h]; exact why5 L M _ _ h7 (.inr hb)
  unfold doL
  rw [this, if_neg (by decide)]
theorem do40 (g : K14.Good n rev L) (h : rightB (asL M) = true) (h7 : ∀ e ∈ M, bad7 L e = false) (h5 : ∀ e ∈ M, bad5 L e = false) :
    doL rev L (asL M) = if 64 < ((asL M).foldl (opL (rev + 1)) L).length then (0, 4, rev, L) else (rev + 1, 0, rev + 1, (asL M).foldl (opL (rev + 1)) L) := by
  have hw := why4 g.lo (rev + 1) M [] L _ (by unfold rightB at h; simp only [Bool.and_eq_true] at h; exact h.1) (fun _ _ => rfl) g.rise rfl h7 h5
  have : whyL L (asL M) = if 64 < ((asL M).foldl (opL (rev + 1)) L).length then 4 else 0 := by unfold whyL; rw [if_pos h]; exact hw
  unfold doL
  rw [this]
  by_cases c : 64 < ((asL M).foldl (opL (rev + 1)) L).length
  · rw [if_pos c, if_neg (by decide), if_pos c]
  · rw [if_neg c, if_pos rfl, if_neg c]
end Go.Proofs.Ytnmnojapacflgaa.K17
