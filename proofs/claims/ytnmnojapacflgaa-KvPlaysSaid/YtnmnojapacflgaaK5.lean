/-
  Proved here: what kv's Since, Keys, Len answer. No condition but on how many keys there are.
-/
import Derived.Test.YtnmnojapacflgaaK4
import Derived.Test.YtnmnojapacflgaaShelf
namespace Go.Proofs.Ytnmnojapacflgaa.K5
open Go.Shelf Go.Lib Go.Proofs.Ytnmnojapacflgaa.M Go.Proofs.Ytnmnojapacflgaa.K0 Go.RowKit Go.Maps Go.Sort Go.Proofs.YtnmnojapacflgaaW.PrintWords Go.Proofs.YtnmnojapacflgaaW.PrintLast Go.Proofs.YtnmnojapacflgaaW.PrintMore Go.Proofs.Ytnmnojapacflgaa.PKvPlays Go.Proofs.Ytnmnojapacflgaa.K1 Go.Proofs.Ytnmnojapacflgaa.K2 Go.Proofs.Ytnmnojapacflgaa.K3 Go.Proofs.Ytnmnojapacflgaa.K4
set_option linter.unusedVariables false
set_option linter.unusedSimpArgs false
attribute [local go_sem] max2_int min2_int max_two min_two run_makeMap field_entry

theorem sorts (m : Nat) : AnyZ.SortsIn Try.prog Try.sorted26_ren Fence.wide m :=
  ⟨fun blk off cap ss W hH hblk hsz => callsIn_wide.2 (AnyM.slices_Sort_string Try.sort35 blk off cap ss W hH hblk hsz),
   fun p cap W => callsIn_wide.2 (AnyM.slices_Sort_string_none Try.sort35 p cap W)⟩
theorem keys_c (mb : Option Nat) (W : World) : Calls Try.prog 27 #[.map mb] W fun e w' => e = .returned (.func (.func 36) #[] #[.pointer (some ⟨W.heap.size, 0, none⟩)]) ∧ w' = W.alloc (.cells #[.map mb] 56) :=
  (callsIn_wide (n := 5)).1 (AnyZ.keys_in Try.keys27 Fence.wide 5 trivial rfl mb W)
/-- The keys, rising, as bytes. -/
def kb (L : List S72) : List (List UInt8) := L.map fun e => e.f0.data.toList
set_option maxHeartbeats 1000000 in
theorem sorted_c (q : Nat) (L : List S72) (w : World) (h : KM w q L) (hl : L.length ≤ 1000) : Calls Try.prog 26 #[.func (.func 36) #[] #[.pointer (some ⟨w.heap.size, 0, none⟩)]] (w.alloc (.cells #[.map (some q)] 56)) fun e w' =>
    ∃ v : Value, e = .returned v ∧ w'.ownsRow (w.alloc (.cells #[.map (some q)] 56)).heap.size 9 1 v (kb L).length ((kb L).map encStr) ∧ (v = .slice none 0 0 ↔ kb L = []) ∧ Below (w.alloc (.cells #[.map (some q)] 56)).heap.size (w.alloc (.cells #[.map (some q)] 56)) w' := by
  refine (callsIn_wide (n := 5)).1 ?_
  obtain ⟨D, ho, hd⟩ := h.own
  have hsz := hd.size h.rise ho
  have hbl := ho.lt
  have hseq : SeqGives Fence.wide 2 Try.prog 36 #[.pointer (some ⟨w.heap.size, 0, none⟩)] encStr (fun ss => ss.Perm (strKeys D)) (Maps.size D) (w.alloc (.cells #[.map (some q)] 56)) :=
    AnyZ.keys_gives (ρ := Try.keys27_ren) { Try.keys27 with } Fence.wide _ trivial rfl (by omega) w.heap.size q L.length D _ (by simp) (by simp) (by
      obtain ⟨es, clock, hb, Ft, hs, hD⟩ := ho
      exact ⟨es, clock, (Below.heap_alloc _ _ q hbl).trans hb, Ft, hs, hD⟩)
  have cS := AnyZ.sorted_in Try.sorted26 Fence.wide 5 trivial trivial trivial trivial rfl (by omega) (sorts _) (enters_of Try.func35 (by kernel_rfl) rfl) 36 #[.pointer (some ⟨w.heap.size, 0, none⟩)] trivial (enters_of Try.func36 (by kernel_rfl) rfl) _ _ (by rw [hsz]; exact Nat.le_trans hl (by decide)) (by rw [hsz]; omega) _ hseq
  change CallsIn _ _ Try.prog 26 _ _ _ at cS
  refine cS.mono ?_
  rintro e w' ⟨v, ss, rfl, hS, hrow, hnil, hb⟩
  have e1 : (ss.mergeSort fun x y => decide (x ≤ y)) = kb L := hd.sort h.rise ho hS
  have e2 : ss.length = (kb L).length := (hS.trans (hd.keys h.rise ho).symm).length_eq
  rw [e1, e2] at hrow
  refine ⟨v, rfl, hrow, ?_, hb⟩
  rw [hnil]
  constructor
  · intro e; rw [e] at e2; exact List.eq_nil_of_length_eq_zero e2.symm
  · intro e; rw [e] at e2; exact List.eq_nil_of_length_eq_zero e2
/-! ### the closure -/
abbrev SB := {k : ByteArray // k.size ≤ maxLen}
instance : Inhabited SB := ⟨⟨ze, by decide⟩⟩
def encB (x : SB) : Value := .string x.val
theorem oneB : OneCell encB := fun _ => rfl
set_option maxHeartbeats 1000000 in
theorem gives29 (g q : Nat) (rev : Int) (L : List S72) (r : Int) (x : SB) (B2 B3 : Nat) (W : World) (h2 : W.cell? ⟨B2, 0, none⟩ = some (.pointer (some ⟨g, 0, none⟩))) (h3 : W.cell? ⟨B3, 0, none⟩ = some (.int .i64 r)) (hg : W.cell? ⟨g, 0, none⟩ = some (.map (some q))) (hm : KM W q L) :
    FnGives Try.prog 29 #[.pointer (some ⟨B2, 0, none⟩), .pointer (some ⟨B3, 0, none⟩)] #[encB x] (.bool (decide ((K0.look L x.val).2 ≤ r))) W := by
  obtain ⟨k, hk⟩ := x
  obtain ⟨⟨ov, orv⟩, hor⟩ : ∃ x, K0.look L k = x := ⟨_, rfl⟩
  have hlook := hm.drew.look hk
  show Calls Try.prog 29 #[.string k, .pointer (some ⟨B2, 0, none⟩), .pointer (some ⟨B3, 0, none⟩)] W _
  dsimp only
  rw [hor] at hlook ⊢
  replace hlook : (Instr.lookup 56 (.map (some q)) (.string k) false).run Try.prog W.drew = .ok (.agg #[.string ov, .int .i64 orv]) W.drew := hlook
  clear hor hm hk
  go_enter Try.func29, Try.ntmps29
  go_wp2_with fail
  refine start_ (n := 10) (S := fun w' => w'.cell? ⟨B2, 0, none⟩ = some (.pointer (some ⟨g, 0, none⟩)) ∧ w'.cell? ⟨B3, 0, none⟩ = some (.int .i64 r) ∧ w'.cell? ⟨g, 0, none⟩ = some (.map (some q)) ∧ (Instr.lookup 56 (.map (some q)) (.string k) false).run Try.prog w' = .ok (.agg #[.string ov, .int .i64 orv]) w') (ds := []) #[false, false, false, false, false, false, false, false, false, false] (by kernel_rfl) rfl rfl ⟨h2, h3, hg, hlook⟩ (fun hHeld => ?_)
  refine pure_ (i := 4) (N := some 9) (v := ?_) (a' := ?_) #[false, false, false, false, true, false, false, false, false, false] rfl rfl (by kernel_rfl) (fun _ _ _ h => h) (Or.inl ⟨by rfl, ?_⟩) ?_ ?_
  rotate_left
  · intro w'
    go_simp
    with_reducible rfl
  rotate_left
  · simp only [Act.put, List.setIfInBounds_toArray, List.set_cons_zero, List.set_cons_succ, i64_w, i32_w]
    rfl
  refine take_ (i := 0) (N := some 5) (v := ?_) (a' := ?_) #[true, false, false, false, true, false, false, false, false, false] rfl rfl (by kernel_rfl) (fun _ _ _ h => h) (Or.inl ⟨by rfl, ?_⟩) hHeld ?_ ?_
  rotate_left
  · rintro w' ⟨s0, s1, s2, s3⟩
    go_simp
    with_reducible rfl
  rotate_left
  · simp only [Act.put, List.setIfInBounds_toArray, List.set_cons_zero, List.set_cons_succ, i64_w, i32_w]
    rfl
  refine pure_ (i := 1) (N := some 6) (v := ?_) (a' := ?_) #[true, true, false, false, true, false, false, false, false, false] rfl rfl (by kernel_rfl) (fun _ _ _ h => h) (Or.inl ⟨by rfl, ?_⟩) ?_ ?_
  rotate_left
  · intro w'
    go_simp
    with_reducible rfl
  rotate_left
  · simp only [Act.put, List.setIfInBounds_toArray, List.set_cons_zero, List.set_cons_succ, i64_w, i32_w]
    rfl
  refine pure_ (i := 2) (N := some 7) (v := ?_) (a' := ?_) #[true, true, true, false, true, false, false, false, false, false] rfl rfl (by kernel_rfl) (fun _ _ _ h => h) (Or.inl ⟨by rfl, ?_⟩) ?_ ?_
  rotate_left
  · intro w'
    go_simp
    with_reducible rfl
  rotate_left
  · simp only [Act.put, List.setIfInBounds_toArray, List.set_cons_zero, List.set_cons_succ, i64_w, i32_w]
    rfl
  refine take_ (i := 3) (N := some 8) (v := ?_) (a' := ?_) #[true, true, true, true, true, false, false, false, false, false] rfl rfl (by kernel_rfl) (fun _ _ _ h => h) (Or.inl ⟨by rfl, ?_⟩) hHeld ?_ ?_
  rotate_left
  · rintro w' ⟨s0, s1, s2, s3⟩
    go_simp
    with_reducible rfl
  rotate_left
  · simp only [Act.put, List.setIfInBounds_toArray, List.set_cons_zero, List.set_cons_succ, i64_w, i32_w]
    rfl
  refine take_ (i := 5) (N := some 10) (v := ?_) (a' := ?_) #[true, true, true, true, true, true, false, false, false, false] rfl rfl (by kernel_rfl) (fun _ _ _ h => h) (Or.inl ⟨by rfl, ?_⟩) hHeld ?_ ?_
  rotate_left
  · rintro w' ⟨s0, s1, s2, s3⟩
    go_simp
    with_reducible rfl
  rotate_left
  · simp only [Act.put, List.setIfInBounds_toArray, List.set_cons_zero, List.set_cons_succ, i64_w, i32_w]
    rfl
  refine pure_ (i := 6) (N := some 11) (v := ?_) (a' := ?_) #[true, true, true, true, true, true, true, false, false, false] rfl rfl (by kernel_rfl) (fun _ _ _ h => h) (Or.inl ⟨by rfl, ?_⟩) ?_ ?_
  rotate_left
  · intro w'
    go_simp
    with_reducible rfl
  rotate_left
  · simp only [Act.put, List.setIfInBounds_toArray, List.set_cons_zero, List.set_cons_succ, i64_w, i32_w]
    rfl
  refine take_ (i := 7) (N := some 12) (v := ?_) (a' := ?_) #[true, true, true, true, true, true, true, true, false, false] rfl rfl (by kernel_rfl) (fun _ _ _ h => h) (Or.inl ⟨by rfl, ?_⟩) hHeld ?_ ?_
  rotate_left
  · rintro w' ⟨s0, s1, s2, s3⟩
    go_simp
    with_reducible rfl
  rotate_left
  · simp only [Act.put, List.setIfInBounds_toArray, List.set_cons_zero, List.set_cons_succ, i64_w, i32_w]
    rfl
  refine pure_ (i := 8) (N := some 13) (v := ?_) (a' := ?_) #[true, true, true, true, true, true, true, true, true, false] rfl rfl (by kernel_rfl) (fun _ _ _ h => h) (Or.inl ⟨by rfl, ?_⟩) ?_ ?_
  rotate_left
  · intro w'
    go_simp
    with_reducible rfl
  rotate_left
  · simp only [Act.put, List.setIfInBounds_toArray, List.set_cons_zero, List.set_cons_succ, i64_w, i32_w]
    rfl
  refine pure_ (i := 9) (N := some 4) (v := ?_) (a' := ?_) #[true, true, true, true, true, true, true, true, true, true] rfl rfl (by kernel_rfl) (fun _ _ _ h => h) (Or.inl ⟨by rfl, ?_⟩) ?_ ?_
  rotate_left
  · intro w'
    go_simp
    with_reducible rfl
  rotate_left
  · simp only [Act.put, List.setIfInBounds_toArray, List.set_cons_zero, List.set_cons_succ, i64_w, i32_w]
    rfl
  refine done_ (by kernel_rfl) ?_

  go_wp2
  go_ret
  exact ⟨rfl, 1, rfl⟩
theorem cell_keep {W w1 : World} {b i : Nat} {v : Value} (hb : Below W.heap.size W w1) (h : W.cell? ⟨b, i, none⟩ = some v) : w1.cell? ⟨b, i, none⟩ = some v :=
  (hb.cell (p := ⟨b, i, none⟩) (World.block_lt_of_cell? W _ h)).trans h
theorem pred29 (g q : Nat) (rev : Int) (L : List S72) (r : Int) (B2 B3 : Nat) (w : World) (h2 : w.cell? ⟨B2, 0, none⟩ = some (.pointer (some ⟨g, 0, none⟩))) (h3 : w.cell? ⟨B3, 0, none⟩ = some (.int .i64 r)) (h : Kv w g q rev L) :
    PredAt Try.prog 29 #[.pointer (some ⟨B2, 0, none⟩), .pointer (some ⟨B3, 0, none⟩)] encB (fun x => decide ((K0.look L x.val).2 ≤ r)) w :=
  fun W x hb => gives29 g q rev L r x B2 B3 W (cell_keep hb h2) (cell_keep hb h3) (cell_keep hb (blk_cell h.blk 0)) (h.map.below hb)
theorem grown_row {α : Type} [Inhabited α] (enc : α → Value) {w : World} {blk off n : Nat} {os : Array Obj} (d : Array α) : w.grownBy (grow (putRow enc (Sort.ahead w n) blk off d) os) (some blk) := by
  refine ⟨rfl, rfl, rfl, by simp, fun k hk hne => ?_⟩
  rw [heap_grow_old _ _ (by simpa using hk)]
  have : blk ≠ k := fun e => hne (by rw [e])
  simp [putRow, mapBlock, Sort.ahead, Array.getElem?_modify, this]
theorem grown_row0 {α : Type} [Inhabited α] (enc : α → Value) {w : World} {blk off n : Nat} (d : Array α) : w.grownBy (putRow enc (Sort.ahead w n) blk off d) (some blk) := by
  refine ⟨rfl, rfl, rfl, by simp, fun k hk hne => ?_⟩
  have : blk ≠ k := fun e => hne (by rw [e])
  simp [putRow, mapBlock, Sort.ahead, Array.getElem?_modify, this]
theorem over29 (g q : Nat) (rev : Int) (L : List S72) (r : Int) (B2 B3 blk off size : Nat) (w : World) (h2 : w.cell? ⟨B2, 0, none⟩ = some (.pointer (some ⟨g, 0, none⟩))) (h3 : w.cell? ⟨B3, 0, none⟩ = some (.int .i64 r)) (h : Kv w g q rev L) (n2 : B2 ≠ blk) (n3 : B3 ≠ blk) (n1 : g ≠ blk) (n4 : q ≠ blk) :
    PredOver Try.prog 29 #[.pointer (some ⟨B2, 0, none⟩), .pointer (some ⟨B3, 0, none⟩)] encB (fun x => decide ((K0.look L x.val).2 ≤ r)) blk off size w :=
  fun n os dk x _ => by
    have hg : w.grownBy (sortWorld encB w blk off n dk os) (some blk) := grown_row encB dk
    have cell : ∀ b v, b ≠ blk → w.cell? ⟨b, 0, none⟩ = some v → (sortWorld encB w blk off n dk os).cell? ⟨b, 0, none⟩ = some v := fun b v hn hc => by
      have hk := hg.block b (World.block_lt_of_cell? w _ hc) (by simpa using hn)
      rw [← hc]
      simp only [World.cell?, hk]
    exact gives29 g q rev L r x B2 B3 _ (cell _ _ n2 h2) (cell _ _ n3 h3) (cell _ _ n1 (blk_cell h.blk 0)) (h.map.kept hg (by simpa using n4))
/-! ### DeleteFunc -/
def keep (L : List S72) (r : Int) (x : SB) : Bool := !decide ((K0.look L x.val).2 ≤ r)
def z0 : SB := ⟨ze, by decide⟩
theorem del_some (g q : Nat) (rev : Int) (L : List S72) (r : Int) (B2 B3 blk cap : Nat) (d : Array SB) (w : World) (h2 : w.cell? ⟨B2, 0, none⟩ = some (.pointer (some ⟨g, 0, none⟩))) (h3 : w.cell? ⟨B3, 0, none⟩ = some (.int .i64 r)) (h : Kv w g q rev L) (n2 : B2 ≠ blk) (n3 : B3 ≠ blk) (n1 : g ≠ blk) (n4 : q ≠ blk) (hH : Holds encB w blk 0 d) (hsz : d.size ≤ 1000) (hcap : d.size ≤ cap) :
    Calls Try.prog 28 #[.slice (some ⟨blk, 0, none⟩) d.size cap, .func (.func 29) #[] #[.pointer (some ⟨B2, 0, none⟩), .pointer (some ⟨B3, 0, none⟩)]] w fun e w' => e = .returned (.slice (some ⟨blk, 0, none⟩) (d.toList.filter (keep L r)).length cap) ∧ Kd.C Kd.string w' (some ⟨blk, 0, none⟩) (d.toList.filter (keep L r)).length ((d.toList.filter (keep L r)).map Subtype.val) ∧ w.grownBy w' (some blk) := by
  have hcon := AnyE.slices_DeleteFunc Try.del28 encB oneB (fun x => decide ((K0.look L x.val).2 ≤ r)) 29 #[.pointer (some ⟨B2, 0, none⟩), .pointer (some ⟨B3, 0, none⟩)] (enters_of Try.func29 (by kernel_rfl) rfl) z0 Try.zeroValue9 blk 0 cap d w (pred29 g q rev L r B2 B3 w h2 h3 h) (over29 g q rev L r B2 B3 blk 0 d.size w h2 h3 h n2 n3 n1 n4) hH (by omega) hcap
  change Calls Try.prog 28 _ _ fun e w' => e = .returned (.slice (some ⟨blk, 0, none⟩) (d.toList.filter (keep L r)).length cap) ∧ ∃ n, w' = putRow encB (Sort.ahead w n) blk 0 (d.toList.filter (keep L r) ++ List.replicate (d.size - (d.toList.filter (keep L r)).length) z0).toArray at hcon
  refine hcon.mono ?_
  rintro e w' ⟨rfl, n, rfl⟩
  have hfl : (d.toList.filter (keep L r)).length ≤ d.size := by have := List.length_filter_le (keep L r) d.toList; simpa using this
  refine ⟨rfl, ?_, grown_row0 encB _⟩
  have hHa : Holds encB (Sort.ahead w n) blk 0 d := hH
  generalize hM : d.toList.filter (keep L r) = M at hfl ⊢
  have hcell : ∀ j (hj : j < M.length), (putRow encB (Sort.ahead w n) blk 0 (M ++ List.replicate (d.size - M.length) z0).toArray).cell? ⟨blk, 0 + j, none⟩ = some (.string (M[j]).val) := fun j hj => by
    have hsz2 : (M ++ List.replicate (d.size - M.length) z0).toArray.size = d.size := by simp; omega
    have h1 := cell?_putRow encB (Sort.ahead w n) blk 0 d (M ++ List.replicate (d.size - M.length) z0).toArray hHa hsz2 j (by rw [hsz2]; omega)
    rw [h1]
    have h2 : (M ++ List.replicate (d.size - M.length) z0).toArray[j]! = M[j] := by
      rw [getElem!_pos _ j (by rw [hsz2]; omega)]
      simp [List.getElem_append_left hj]
    rw [h2]
    rfl
  refine ⟨by simp, by omega, fun hn => ⟨_, rfl, fun j p hj => ⟨[.string p], rfl, rfl, fun i u hu => ?_⟩⟩⟩
  obtain ⟨hjl, hp⟩ := List.getElem?_eq_some_iff.1 hj
  rw [List.length_map] at hjl
  cases i with
  | succ i => simp at hu
  | zero =>
    have e : u = .string p := by simpa using hu.symm
    subst e
    have hadd : (⟨blk, 0, none⟩ : Addr).add (j * Kd.string.sz + 0) = ⟨blk, 0 + j, none⟩ := by
      rw [show j * Kd.string.sz + 0 = j by simp [Kd.string, Kd.scalar]]
      unfold Addr.add
      split <;> simp_all
    rw [hadd]
    have := hcell j hjl
    rw [this]
    simp at hp
    rw [hp]
theorem idx_nil (f : Value) (w : World) : Calls Try.prog 37 #[.slice none 0 0, f] w fun e w' => e = .returned (.int .i64 (-1)) ∧ Below w.heap.size w w' := by
  have HB := Aside0.mk (Below.refl w.heap.size w)
  go_enter Try.func37, Try.ntmps37
  go_wp2_with fail
  go_loopw [8] (fun v8 wr => v8 = .int .i64 0 ∧ Aside0 (Below w.heap.size w wr)) (fun _ _ => 0)
  case atStart => exact ⟨rfl, ⟨by repeat (first | (with_reducible first | exact HB.out | apply below_alloc | apply pw_below_drewN | apply below_drew1) | refine below_set ?_ (by omega))⟩⟩
  case round =>
    clear HB
    obtain ⟨rfl, HB⟩ := hrel
    go_wp2_with fail
    go_ret
    exact ⟨rfl, by repeat (first | (with_reducible first | exact HB.out | apply below_alloc | apply pw_below_drewN | apply below_drew1) | refine below_set ?_ (by omega))⟩
theorem del_nil (f : Value) (w : World) : Calls Try.prog 28 #[.slice none 0 0, f] w fun e w' => e = .returned (.slice none 0 0) ∧ Below w.heap.size w w' := by
  have HB := Aside0.mk (Below.refl w.heap.size w)
  go_enter Try.func28, Try.ntmps28
  go_wp2_with fail
  refine (idx_nil f _).mono ?_
  rintro e w1 ⟨rfl, hb1⟩
  have n0 := Aside0.mk (below_step (by repeat (first | (with_reducible first | exact HB.out | apply below_alloc | apply pw_below_drewN | apply below_drew1) | refine below_set ?_ (by omega))) hb1)
  clear HB hb1
  have HB := n0
  clear n0
  go_wp2
  go_ret
  exact ⟨rfl, by repeat (first | (with_reducible first | exact HB.out | apply below_alloc | apply pw_below_drewN | apply below_drew1) | refine below_set ?_ (by omega))⟩
/-! ### Since -/
/-- The keys put behind a revision. -/
def since (L : List S72) (r : Int) : List ByteArray := (L.filter fun e => decide (r < e.f2)).map (·.f0)
theorem get_self {L : List S72} (hr : Rise L) {e : S72} (he : e ∈ L) : get L e.f0 = some (e.f1, e.f2) := by
  induction L with
  | nil => cases he
  | cons x L ih =>
    obtain ⟨h1, h2⟩ := List.pairwise_cons.1 hr
    rw [get_cons]
    rcases List.mem_cons.1 he with rfl | hm
    · rw [if_pos rfl]
    · rw [if_neg (lt_ne (h1 e hm)), ih h2 hm]
theorem look_self {L : List S72} (hr : Rise L) {e : S72} (he : e ∈ L) : K0.look L e.f0 = (e.f1, e.f2) := by
  unfold K0.look; rw [get_self hr he]; rfl
def keysL (L : List S72) (h : ∀ e ∈ L, e.f0.size ≤ maxLen) : List SB := L.pmap (fun e he => (⟨e.f0, he⟩ : SB)) h
theorem keep_sub {L : List S72} (hr : Rise L) (r : Int) : ∀ (M : List S72) (h : ∀ e ∈ M, e.f0.size ≤ maxLen), (∀ e ∈ M, e ∈ L) → ((keysL M h).filter (keep L r)).map Subtype.val = since M r := by
  intro M
  induction M with
  | nil => intro h hs; rfl
  | cons x M ih =>
    intro h hs
    have i1 := ih (fun e he => h e (List.mem_cons_of_mem _ he)) (fun e he => hs e (List.mem_cons_of_mem _ he))
    have i2 : keep L r ⟨x.f0, h x (List.mem_cons_self ..)⟩ = decide (r < x.f2) := by
      unfold keep
      rw [look_self hr (hs x (List.mem_cons_self ..))]
      by_cases hx : r < x.f2
      · rw [decide_eq_true hx]; simp; omega
      · rw [decide_eq_false hx]; simp; omega
    show ((⟨x.f0, h x (List.mem_cons_self ..)⟩ :: keysL M fun e he => h e (List.mem_cons_of_mem _ he)).filter (keep L r)).map Subtype.val = _
    unfold since
    rw [List.filter_cons, List.filter_cons, i2]
    cases decide (r < x.f2)
    · exact i1
    · simp only [if_true, List.map_cons]
      rw [i1]
      rfl
theorem key_le {w : World} {q : Nat} {L : List S72} (h : KM w q L) : ∀ e ∈ L, e.f0.size ≤ maxLen := by
  intro e he
  obtain ⟨D, ho, hd⟩ := h.own
  have h1 : e.f0.data.toList ∈ strKeys D := (hd.keys h.rise ho).subset (List.mem_map_of_mem he)
  have h2 := strKeys_le ho Try.underlying9 _ h1
  simpa using h2
theorem kb_keys (L : List S72) (h : ∀ e ∈ L, e.f0.size ≤ maxLen) : (kb L).map encStr = (keysL L h).map encB := by
  induction L with
  | nil => rfl
  | cons x L ih =>
    show encStr x.f0.data.toList :: (kb L).map encStr = encB ⟨x.f0, _⟩ :: (keysL L _).map encB
    rw [ih fun e he => h e (List.mem_cons_of_mem _ he)]
    rfl
theorem holds_row {w : World} {g : Nat} {cur : Array Value} {e : TypeId} {ks : List SB} {xs : List Value} (hb : w.heap[g]? = some (.cells cur e (0, 0))) (hx : xs = ks.map encB) (ht : cur.toList.take xs.length = xs) : Holds encB w g 0 ks.toArray := by
  subst hx
  intro j hj
  have hj' : j < ks.length := by simpa using hj
  refine ⟨?_, by simp [World.frozen?, hb]⟩
  have h1 : (cur.toList.take (ks.map encB).length)[j]? = (ks.map encB)[j]? := by rw [ht]
  rw [List.getElem?_take_of_lt (by simpa using hj')] at h1
  simp only [World.cell?, hb, Nat.zero_add]
  simp only [Option.isSome_none, Bool.false_eq_true, if_false]
  rw [← Array.getElem?_toList, h1]
  simp [hj']
/-- What Since answers, at these entries. -/
theorem since_len (L : List S72) (r : Int) : (since L r).length ≤ L.length := by unfold since; rw [List.length_map]; exact List.length_filter_le _ _
def Gave (w : World) (B : Nat) (v : Value) (ks : List ByteArray) : Prop := (v = .slice none 0 0 ∧ ks = []) ∨ ∃ blk cap, v = .slice (some ⟨blk, 0, none⟩) ks.length cap ∧ B ≤ blk ∧ ks.length ≤ cap ∧ Kd.C Kd.string w (some ⟨blk, 0, none⟩) ks.length ks
set_option maxHeartbeats 4000000 in
theorem since_q (g q : Nat) (rev : Int) (L : List S72) (r : Int) (w : World) (h : Kv w g q rev L) (hl : L.length ≤ 1000) : Calls Try.prog 15 #[.pointer (some ⟨g, 0, none⟩), .int .i64 r] w fun e w' => ∃ v, e = .returned v ∧ Gave w' w.heap.size v (since L r) ∧ Below w.heap.size w w' := by
  have HB := Aside0.mk (Below.refl w.heap.size w)
  have HKv := Aside0.mk h
  have HL := Aside0.mk hl
  clear h hl
  go_enter Try.func15, Try.ntmps15
  go_upto_region 3 with fail
  have HB1 : Aside0 (Below w.heap.size w ((w.alloc (.cells #[.pointer (some ⟨g, 0, none⟩)] 24)).alloc (.cells #[.int .i64 r] 3))) := ⟨below_alloc (below_alloc HB.out _) _⟩
  have HKn : Aside0 (Kv ((w.alloc (.cells #[.pointer (some ⟨g, 0, none⟩)] 24)).alloc (.cells #[.int .i64 r] 3)) g q rev L) := ⟨(HKv.out.alloc _).alloc _⟩
  have S2 : IsBlk ((w.alloc (.cells #[.pointer (some ⟨g, 0, none⟩)] 24)).alloc (.cells #[.int .i64 r] 3)) w.heap.size #[.pointer (some ⟨g, 0, none⟩)] 24 := (IsBlk.new _ _ rfl).alloc _
  have S3 : IsBlk ((w.alloc (.cells #[.pointer (some ⟨g, 0, none⟩)] 24)).alloc (.cells #[.int .i64 r] 3)) (w.heap.size + 1) #[.int .i64 r] 3 := IsBlk.new _ _ (by simp)
  have HW : Aside0 (((w.alloc (.cells #[.pointer (some ⟨g, 0, none⟩)] 24)).alloc (.cells #[.int .i64 r] 3)).heap.size = w.heap.size + 2) := ⟨by simp⟩
  have HGQ : Aside0 (g < w.heap.size ∧ q < w.heap.size) := ⟨blk_lt HKv.out.blk, HKv.out.map.lt⟩
  generalize ((w.alloc (.cells #[.pointer (some ⟨g, 0, none⟩)] 24)).alloc (.cells #[.int .i64 r] 3)) = w1 at *
  clear HB HKv
  have HB := HB1
  have HKv := HKn
  clear HB1 HKn
  have D := HKv.out.blk
  have D_0 := blk_cell D 0
  have D_1 := blk_cell D 1
  simp only [List.getElem?_toArray, List.getElem?_cons_zero, List.getElem?_cons_succ] at D_0 D_1
  have D_z0 := blk_frozen D 0
  have D_z1 := blk_frozen D 1
  have D_l := blk_lt D
  have HD := Aside0.mk D
  clear D
  have S2_0 := blk_cell S2 0
  simp only [List.getElem?_toArray, List.getElem?_cons_zero, List.getElem?_cons_succ] at S2_0
  have S2_z0 := blk_frozen S2 0
  have S2_l := blk_lt S2
  have HS2 := Aside0.mk S2
  clear S2
  go_wp2_with fail
  refine (keys_c (some q) _).mono ?_
  rintro e w2 ⟨rfl, rfl⟩
  go_wp2_with fail
  refine (sorted_c q L w1 HKv.out.map HL.out).mono ?_
  rintro e w2 ⟨v, rfl, hrow, hnil, hb2⟩
  have HM : Aside0 (Below w1.heap.size w1 w2) := ⟨(below_alloc (Below.refl _ _) _).trans (hb2.mono (by simp))⟩
  have HK2 : Aside0 (Kv w2 g q rev L) := ⟨HKv.out.below HM.out⟩
  have T2 := HS2.out.below HM.out
  have T3 := S3.below HM.out
  have n0 : Aside0 (Below w.heap.size w w2) := ⟨HB.out.trans (HM.out.mono (by rw [HW.out]; omega))⟩
  have hk := key_le HK2.out.map
  have hkl : (kb L).length = (keysL L hk).length := by unfold kb keysL; simp
  have hsub := keep_sub HK2.out.map.rise r L hk fun e he => he
  have hKL : (keysL L hk).length = L.length := by unfold keysL; simp
  rcases hrow with ⟨hx, ⟨rfl, hn⟩ | ⟨b, cap, cur, rfl, hge, hb, hnc, hcm, hcs, ht⟩⟩
  · have hnl : L = [] := List.eq_nil_of_length_eq_zero (by rw [← hKL, ← hkl]; exact hn)
    clear D_0 D_1 D_z0 D_z1 D_l HD S2_0 S2_z0 S2_l HB
    have HB := n0
    clear n0
    go_wp2_with fail
    refine (del_nil _ _).mono ?_
    rintro e w1 ⟨rfl, hb1⟩
    have n0 := Aside0.mk (below_step (by repeat (first | (with_reducible first | exact HB.out | apply below_alloc | apply pw_below_drewN | apply below_drew1) | refine below_set ?_ (by omega))) hb1)
    clear HB hb1
    have HB := n0
    clear n0
    go_wp2
    go_ret
    exact ⟨_, rfl, .inl ⟨rfl, by rw [hnl]; rfl⟩, by repeat (first | (with_reducible first | exact HB.out | apply below_alloc | apply pw_below_drewN | apply below_drew1) | refine below_set ?_ (by omega))⟩
  · have hH : Holds encB w2 b 0 (keysL L hk).toArray := holds_row hb (kb_keys L hk) (by rw [List.length_map]; simpa using ht)
    have HCP : Aside0 ((since L r).length ≤ cap) := ⟨by have := since_len L r; omega⟩
    have hge' : w1.heap.size < b := Nat.lt_of_lt_of_le (by simp) hge
    have hq1 := HGQ.out
    have hw1 := HW.out
    have hdel := del_some g q rev L r w.heap.size (w.heap.size + 1) b cap (keysL L hk).toArray w2 (blk_cell T2 0) (blk_cell T3 0) HK2.out (by omega) (by omega) (by omega) (by omega) hH (by have := HL.out; simp; omega) (by simp; omega)
    simp only [List.size_toArray] at hdel
    obtain ⟨N, hN⟩ : ∃ N, (keysL L hk).length = N := ⟨_, rfl⟩
    rw [hN] at hkl hdel
    rw [hkl]
    go_wp2_with fail
    refine hdel.mono ?_
    rintro e w3 ⟨rfl, hC, hg⟩
    rw [hsub] at hC
    have hlen : ((keysL L hk).filter (keep L r)).length = (since L r).length := by rw [← hsub]; simp
    rw [hlen] at hC ⊢
    have HB3 : Aside0 (Below w.heap.size w w3) := ⟨n0.out.grown hg n0.out.size (fun k hk => by cases hk; omega)⟩
    clear hH hdel hg T2 T3 HK2 n0 HM hsub hlen D_0 D_1 D_z0 D_z1 D_l HD S2_0 S2_z0 S2_l HS2 HB hb ht
    have HB := HB3
    clear HB3
    have HCC := Aside0.mk hC
    clear hC
    go_wp2
    go_ret
    exact ⟨_, rfl, .inr ⟨b, cap, rfl, by omega, HCP.out, HCC.out⟩, by repeat (first | (with_reducible first | exact HB.out | apply below_alloc | apply pw_below_drewN | apply below_drew1) | refine below_set ?_ (by omega))⟩
theorem since_nil (r : Int) (w : World) : Calls Try.prog 15 #[.pointer none, .int .i64 r] w fun e w' => e = .returned (.slice none 0 0) ∧ Below w.heap.size w w' := by
  have HB := Aside0.mk (Below.refl w.heap.size w)
  go_enter Try.func15, Try.ntmps15
  go_wp2
  go_ret
  exact ⟨rfl, by repeat (first | (with_reducible first | exact HB.out | apply below_alloc | apply pw_below_drewN | apply below_drew1) | refine below_set ?_ (by omega))⟩
theorem keys_q (g q : Nat) (rev : Int) (L : List S72) (w : World) (h : Kv w g q rev L) (hl : L.length ≤ 1000) : Calls Try.prog 14 #[.pointer (some ⟨g, 0, none⟩)] w fun e w' => ∃ v, e = .returned v ∧ Gave w' w.heap.size v (since L 0) ∧ Below w.heap.size w w' := by
  have HKv := Aside0.mk h
  clear h
  go_enter Try.func14, Try.ntmps14
  go_wp2_with fail
  refine (since_q g q rev L 0 _ HKv.out hl).mono ?_
  rintro e w1 ⟨v, rfl, hG, HB⟩
  have HB := Aside0.mk HB
  have HG := Aside0.mk hG
  clear hG
  go_wp2
  go_ret
  exact ⟨v, rfl, HG.out, by repeat (first | (with_reducible first | exact HB.out | apply below_alloc | apply pw_below_drewN | apply below_drew1) | refine below_set ?_ (by omega))⟩
theorem keys_nil (w : World) : Calls Try.prog 14 #[.pointer none] w fun e w' => e = .returned (.slice none 0 0) ∧ Below w.heap.size w w' := by
  have HB := Aside0.mk (Below.refl w.heap.size w)
  go_enter Try.func14, Try.ntmps14
  go_wp2_with fail
  refine (since_nil 0 _).mono ?_
  rintro e w1 ⟨rfl, hb1⟩
  have n0 := Aside0.mk (below_step (by repeat (first | (with_reducible first | exact HB.out | apply below_alloc | apply pw_below_drewN | apply below_drew1) | refine below_set ?_ (by omega))) hb1)
  clear HB hb1
  have HB := n0
  clear n0
  go_wp2
  go_ret
  exact ⟨rfl, by repeat (first | (with_reducible first | exact HB.out | apply below_alloc | apply pw_below_drewN | apply below_drew1) | refine below_set ?_ (by omega))⟩
theorem len_nil (w : World) : Calls Try.prog 24 #[.pointer none] w fun e w' => e = .returned (.int .i64 0) ∧ Below w.heap.size w w' := by
  have HB := Aside0.mk (Below.refl w.heap.size w)
  go_enter Try.func24, Try.ntmps24
  go_wp2_with fail
  refine (keys_nil _).mono ?_
  rintro e w1 ⟨rfl, hb1⟩
  have n0 := Aside0.mk (below_step (by repeat (first | (with_reducible first | exact HB.out | apply below_alloc | apply pw_below_drewN | apply below_drew1) | refine below_set ?_ (by omega))) hb1)
  clear HB hb1
  have HB := n0
  clear n0
  go_wp2
  go_ret
  exact ⟨rfl, by repeat (first | (with_reducible first | exact HB.out | apply below_alloc | apply pw_below_drewN | apply below_drew1) | refine below_set ?_ (by omega))⟩
theorem len_q (g q : Nat) (rev : Int) (L : List S72) (w : World) (h : Kv w g q rev L) (hl : L.length ≤ 1000) : Calls Try.prog 24 #[.pointer (some ⟨g, 0, none⟩)] w fun e w' => e = .returned (.int .i64 ((since L 0).length : Nat)) ∧ Below w.heap.size w w' := by
  have HKv := Aside0.mk h
  clear h
  have hsl := since_len L 0
  obtain ⟨N, hN⟩ : ∃ N, (since L 0).length = N := ⟨_, rfl⟩
  rw [hN] at hsl ⊢
  have HL := Aside0.mk (And.intro hl (Nat.le_trans hsl hl))
  go_enter Try.func24, Try.ntmps24
  go_wp2_with fail
  refine (keys_q g q rev L _ HKv.out hl).mono ?_
  rintro e w1 ⟨v, rfl, hG, HB⟩
  have HB := Aside0.mk HB
  clear hl hsl
  rcases hG with ⟨rfl, h0⟩ | ⟨blk, cap, rfl, hG⟩
  · have hN0 : N = 0 := by rw [← hN, h0]; rfl
    subst hN0
    clear hN h0
    go_wp2
    go_ret
    exact ⟨rfl, by repeat (first | (with_reducible first | exact HB.out | apply below_alloc | apply pw_below_drewN | apply below_drew1) | refine below_set ?_ (by omega))⟩
  · rw [hN]
    clear hG hN
    have hb : N ≤ 1000 := HL.out.2
    go_wp2
    go_ret
    exact ⟨rfl, by repeat (first | (with_reducible first | exact HB.out | apply below_alloc | apply pw_below_drewN | apply below_drew1) | refine below_set ?_ (by omega))⟩
end Go.Proofs.Ytnmnojapacflgaa.K5
