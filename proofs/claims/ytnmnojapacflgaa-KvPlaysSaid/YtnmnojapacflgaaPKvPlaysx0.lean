-- PRINTED BY print.sh 35421559b90ae4d0a3588c463048766b98c2df88dd9212a6774a882060cdf62d: not written by this session
import Derived.Test.YtnmnojapacflgaaProg
import Derived.Below
import Derived.Deep.Draws
import Derived.Deep.AppendLies
import Derived.Maps.AppendAt
import Derived.OwnWalk
import Derived.Laws.BytesArg
import Derived.Laws.MakeOwn
import Derived.Laws.OwnMore
import Derived.Deep.OwnRows
import Derived.Tactics
import Derived.Lib.ConvBytes
import Derived.Laws.Slices
import Derived.WalkKit
import Derived.KernelRfl
import Derived.RowKit3
import Derived.Deep.LoopGhost
import Derived.Deep.QuietTactic
import Derived.BigQuiet
import Derived.WideLaws
import Derived.Deep.DeepCutAuto
import Derived.Deep.CutBlock
import Derived.Deep.RegionHeld3
import Derived.Laws.Rows
import Derived.Lib.AppendStr
import Derived.ArgAppend
import Derived.Laws.IdiomCopy
import Derived.OrdersHeld
import Derived.Laws.BitsLemmas
import Derived.RowKit
import Derived.Test.YtnmnojapacflgaaWWords
import Derived.Test.YtnmnojapacflgaaWLast
import Derived.Test.YtnmnojapacflgaaWTab
import Derived.Test.YtnmnojapacflgaaWFour
import Derived.Test.YtnmnojapacflgaaWQPut
import Derived.Test.YtnmnojapacflgaaWApart
import Derived.Test.YtnmnojapacflgaaWArr
import Derived.Test.YtnmnojapacflgaaWZeros
import Derived.Test.YtnmnojapacflgaaWFoot
import Derived.Test.YtnmnojapacflgaaWKept
import Derived.Test.YtnmnojapacflgaaWShare
import Derived.Test.YtnmnojapacflgaaWN
import Derived.Test.YtnmnojapacflgaaWFootNe
import Derived.Test.YtnmnojapacflgaaWAt
import Derived.Test.YtnmnojapacflgaaWEqStruct
import Derived.Test.YtnmnojapacflgaaWRepsOne
import Derived.Test.YtnmnojapacflgaaWInv
import Derived.Test.YtnmnojapacflgaaWInvWords
import Derived.Test.YtnmnojapacflgaaWGuard
import Derived.Test.YtnmnojapacflgaaWNEv
import Derived.Test.YtnmnojapacflgaaWMore
namespace Go.Proofs.Ytnmnojapacflgaa.PKvPlays
open Go.RowKit Go.Proofs.YtnmnojapacflgaaW.PrintWords Go.Proofs.YtnmnojapacflgaaW.PrintLast Go.Proofs.YtnmnojapacflgaaW.PrintMore
attribute [local go_sem] max2_int min2_int max_two min_two max_three min_three max_four min_four   -- for this text's walks alone
set_option linter.unusedVariables false
set_option linter.unusedSimpArgs false



def errW : Option Int → Value
  | none => .nilIface
  | some c => .iface 0 (.int .i64 c)
theorem errW_none : errW none = .nilIface := rfl
theorem errW_some (c : Int) : errW (some c) = .iface 0 (.int .i64 c) := rfl

theorem info9 : (Try.prog.info? 9).map (fun i => (i.zero, i.size, i.bytes)) = some (some (.string ⟨#[]⟩), 1, 16) := by kernel_rfl
theorem info42 : (Try.prog.info? 42).map (fun i => (i.zero, i.size, i.bytes)) = some (some (.agg #[(.string ⟨#[]⟩), (.string ⟨#[]⟩), (.int .i64 0), (.bool false)]), 4, 48) := by kernel_rfl
theorem info53 : (Try.prog.info? 53).map (fun i => (i.zero, i.size, i.bytes)) = some (some (.agg #[(.string ⟨#[]⟩), (.string ⟨#[]⟩), (.int .i64 0), (.bool false)]), 4, 48) := by kernel_rfl
theorem info72 : (Try.prog.info? 72).map (fun i => (i.zero, i.size, i.bytes)) = some (some (.agg #[(.string ⟨#[]⟩), (.string ⟨#[]⟩), (.int .i64 0)]), 3, 40) := by kernel_rfl
-- the values' own types
/-! #### struct type 42 -/
structure S42 where
  f0 : ByteArray
  f1 : ByteArray
  f2 : Int
  f3 : Bool
def z42 : S42 := ⟨(⟨#[]⟩ : ByteArray), (⟨#[]⟩ : ByteArray), (0 : Int), false⟩
def k42 : Kd S42 := Kd.iso (Kd.pair Kd.string (Kd.pair Kd.string (Kd.pair (Kd.int .i64) Kd.bool))) (fun x : S42 => (x.f0, x.f1, x.f2, x.f3))
theorem k42_open {w : World} {x : S42} {cs : List Value} (h : k42.K w x cs) : cs = [.string x.f0, .string x.f1, .int .i64 x.f2, .bool x.f3] := by
  obtain ⟨_, _, rfl, rfl, ⟨_, _, rfl, rfl, ⟨_, _, rfl, rfl, rfl⟩⟩⟩ := h
  exact rfl
theorem k42_openM {w : World} {base : Nat} {ok : Nat → Prop} {x : S42} {cs : List Value} (h : k42.M w base ok x cs) : cs = [.string x.f0, .string x.f1, .int .i64 x.f2, .bool x.f3] := by
  obtain ⟨_, _, rfl, rfl, ⟨_, _, rfl, rfl, ⟨_, _, rfl, rfl, rfl⟩⟩⟩ := h
  exact rfl
theorem k42_mk (w : World) (x : S42)  : k42.K w x [.string x.f0, .string x.f1, .int .i64 x.f2, .bool x.f3] := ⟨[.string x.f0], [.string x.f1, .int .i64 x.f2, .bool x.f3], rfl, rfl, ⟨[.string x.f1], [.int .i64 x.f2, .bool x.f3], rfl, rfl, ⟨[.int .i64 x.f2], [.bool x.f3], rfl, rfl, rfl⟩⟩⟩
theorem k42_mkM (w : World) (base : Nat) (ok : Nat → Prop) (x : S42)  : k42.M w base ok x [.string x.f0, .string x.f1, .int .i64 x.f2, .bool x.f3] := ⟨[.string x.f0], [.string x.f1, .int .i64 x.f2, .bool x.f3], rfl, rfl, ⟨[.string x.f1], [.int .i64 x.f2, .bool x.f3], rfl, rfl, ⟨[.int .i64 x.f2], [.bool x.f3], rfl, rfl, rfl⟩⟩⟩
theorem k42_mkF (W : World) (ok : Nat → Prop) (x : S42) : Kd.FK k42 W ok x [.string x.f0, .string x.f1, .int .i64 x.f2, .bool x.f3] := fun W2 _ => k42_mk W2 x
def rd_T42 (xs : List S42) (i : Int) : S42 := xs.getD i.toNat z42
theorem at_T42 {w : World} {A : Option Addr} {n : Nat} {xs : List S42} (h : Kd.C k42 w A n xs) (i : Int) (h0 : 0 ≤ i) (h1 : i < n) : ∃ ad , A = some ad ∧ w.cell? (ad.add (i.toNat * 4)) = some (.string (rd_T42 xs i).f0) ∧ w.cell? ⟨(ad.add (i.toNat * 4)).block, (ad.add (i.toNat * 4)).off + 1, none⟩ = some (.string (rd_T42 xs i).f1) ∧ w.cell? ⟨(ad.add (i.toNat * 4)).block, (ad.add (i.toNat * 4)).off + 2, none⟩ = some (.int .i64 (rd_T42 xs i).f2) ∧ w.cell? ⟨(ad.add (i.toNat * 4)).block, (ad.add (i.toNat * 4)).off + 3, none⟩ = some (.bool (rd_T42 xs i).f3) := by
  obtain ⟨ad, c, e, _, hK, hc0⟩ := Kd.C_get h z42 i h0 h1
  have hc : ∀ j u, c[j]? = some u → w.cell? (ad.add (i.toNat * 4 + j)) = some u := hc0
  obtain rfl := k42_open hK
  exact ⟨ad, e, hc 0 _ rfl, by rw [← add_field _ _ 1 (by omega)]; exact hc 1 _ rfl, by rw [← add_field _ _ 2 (by omega)]; exact hc 2 _ rfl, by rw [← add_field _ _ 3 (by omega)]; exact hc 3 _ rfl⟩

/-! #### struct type 53 -/
structure S53 where
  f0 : ByteArray
  f1 : ByteArray
  f2 : Int
  f3 : Bool
def z53 : S53 := ⟨(⟨#[]⟩ : ByteArray), (⟨#[]⟩ : ByteArray), (0 : Int), false⟩
def k53 : Kd S53 := Kd.iso (Kd.pair Kd.string (Kd.pair Kd.string (Kd.pair (Kd.int .i64) Kd.bool))) (fun x : S53 => (x.f0, x.f1, x.f2, x.f3))
theorem k53_open {w : World} {x : S53} {cs : List Value} (h : k53.K w x cs) : cs = [.string x.f0, .string x.f1, .int .i64 x.f2, .bool x.f3] := by
  obtain ⟨_, _, rfl, rfl, ⟨_, _, rfl, rfl, ⟨_, _, rfl, rfl, rfl⟩⟩⟩ := h
  exact rfl
theorem k53_openM {w : World} {base : Nat} {ok : Nat → Prop} {x : S53} {cs : List Value} (h : k53.M w base ok x cs) : cs = [.string x.f0, .string x.f1, .int .i64 x.f2, .bool x.f3] := by
  obtain ⟨_, _, rfl, rfl, ⟨_, _, rfl, rfl, ⟨_, _, rfl, rfl, rfl⟩⟩⟩ := h
  exact rfl
theorem k53_mk (w : World) (x : S53)  : k53.K w x [.string x.f0, .string x.f1, .int .i64 x.f2, .bool x.f3] := ⟨[.string x.f0], [.string x.f1, .int .i64 x.f2, .bool x.f3], rfl, rfl, ⟨[.string x.f1], [.int .i64 x.f2, .bool x.f3], rfl, rfl, ⟨[.int .i64 x.f2], [.bool x.f3], rfl, rfl, rfl⟩⟩⟩
theorem k53_mkM (w : World) (base : Nat) (ok : Nat → Prop) (x : S53)  : k53.M w base ok x [.string x.f0, .string x.f1, .int .i64 x.f2, .bool x.f3] := ⟨[.string x.f0], [.string x.f1, .int .i64 x.f2, .bool x.f3], rfl, rfl, ⟨[.string x.f1], [.int .i64 x.f2, .bool x.f3], rfl, rfl, ⟨[.int .i64 x.f2], [.bool x.f3], rfl, rfl, rfl⟩⟩⟩
theorem k53_mkF (W : World) (ok : Nat → Prop) (x : S53) : Kd.FK k53 W ok x [.string x.f0, .string x.f1, .int .i64 x.f2, .bool x.f3] := fun W2 _ => k53_mk W2 x
def rd_T53 (xs : List S53) (i : Int) : S53 := xs.getD i.toNat z53
theorem at_T53 {w : World} {A : Option Addr} {n : Nat} {xs : List S53} (h : Kd.C k53 w A n xs) (i : Int) (h0 : 0 ≤ i) (h1 : i < n) : ∃ ad , A = some ad ∧ w.cell? (ad.add (i.toNat * 4)) = some (.string (rd_T53 xs i).f0) ∧ w.cell? ⟨(ad.add (i.toNat * 4)).block, (ad.add (i.toNat * 4)).off + 1, none⟩ = some (.string (rd_T53 xs i).f1) ∧ w.cell? ⟨(ad.add (i.toNat * 4)).block, (ad.add (i.toNat * 4)).off + 2, none⟩ = some (.int .i64 (rd_T53 xs i).f2) ∧ w.cell? ⟨(ad.add (i.toNat * 4)).block, (ad.add (i.toNat * 4)).off + 3, none⟩ = some (.bool (rd_T53 xs i).f3) := by
  obtain ⟨ad, c, e, _, hK, hc0⟩ := Kd.C_get h z53 i h0 h1
  have hc : ∀ j u, c[j]? = some u → w.cell? (ad.add (i.toNat * 4 + j)) = some u := hc0
  obtain rfl := k53_open hK
  exact ⟨ad, e, hc 0 _ rfl, by rw [← add_field _ _ 1 (by omega)]; exact hc 1 _ rfl, by rw [← add_field _ _ 2 (by omega)]; exact hc 2 _ rfl, by rw [← add_field _ _ 3 (by omega)]; exact hc 3 _ rfl⟩

/-! #### struct type 72 -/
structure S72 where
  f0 : ByteArray
  f1 : ByteArray
  f2 : Int
def z72 : S72 := ⟨(⟨#[]⟩ : ByteArray), (⟨#[]⟩ : ByteArray), (0 : Int)⟩
def k72 : Kd S72 := Kd.iso (Kd.pair Kd.string (Kd.pair Kd.string (Kd.int .i64))) (fun x : S72 => (x.f0, x.f1, x.f2))
theorem k72_open {w : World} {x : S72} {cs : List Value} (h : k72.K w x cs) : cs = [.string x.f0, .string x.f1, .int .i64 x.f2] := by
  obtain ⟨_, _, rfl, rfl, ⟨_, _, rfl, rfl, rfl⟩⟩ := h
  exact rfl
theorem k72_openM {w : World} {base : Nat} {ok : Nat → Prop} {x : S72} {cs : List Value} (h : k72.M w base ok x cs) : cs = [.string x.f0, .string x.f1, .int .i64 x.f2] := by
  obtain ⟨_, _, rfl, rfl, ⟨_, _, rfl, rfl, rfl⟩⟩ := h
  exact rfl
theorem k72_mk (w : World) (x : S72)  : k72.K w x [.string x.f0, .string x.f1, .int .i64 x.f2] := ⟨[.string x.f0], [.string x.f1, .int .i64 x.f2], rfl, rfl, ⟨[.string x.f1], [.int .i64 x.f2], rfl, rfl, rfl⟩⟩
theorem k72_mkM (w : World) (base : Nat) (ok : Nat → Prop) (x : S72)  : k72.M w base ok x [.string x.f0, .string x.f1, .int .i64 x.f2] := ⟨[.string x.f0], [.string x.f1, .int .i64 x.f2], rfl, rfl, ⟨[.string x.f1], [.int .i64 x.f2], rfl, rfl, rfl⟩⟩
theorem k72_mkF (W : World) (ok : Nat → Prop) (x : S72) : Kd.FK k72 W ok x [.string x.f0, .string x.f1, .int .i64 x.f2] := fun W2 _ => k72_mk W2 x
def rd_T72 (xs : List S72) (i : Int) : S72 := xs.getD i.toNat z72
theorem at_T72 {w : World} {A : Option Addr} {n : Nat} {xs : List S72} (h : Kd.C k72 w A n xs) (i : Int) (h0 : 0 ≤ i) (h1 : i < n) : ∃ ad , A = some ad ∧ w.cell? (ad.add (i.toNat * 3)) = some (.string (rd_T72 xs i).f0) ∧ w.cell? ⟨(ad.add (i.toNat * 3)).block, (ad.add (i.toNat * 3)).off + 1, none⟩ = some (.string (rd_T72 xs i).f1) ∧ w.cell? ⟨(ad.add (i.toNat * 3)).block, (ad.add (i.toNat * 3)).off + 2, none⟩ = some (.int .i64 (rd_T72 xs i).f2) := by
  obtain ⟨ad, c, e, _, hK, hc0⟩ := Kd.C_get h z72 i h0 h1
  have hc : ∀ j u, c[j]? = some u → w.cell? (ad.add (i.toNat * 3 + j)) = some u := hc0
  obtain rfl := k72_open hK
  exact ⟨ad, e, hc 0 _ rfl, by rw [← add_field _ _ 1 (by omega)]; exact hc 1 _ rfl, by rw [← add_field _ _ 2 (by omega)]; exact hc 2 _ rfl⟩

end Go.Proofs.Ytnmnojapacflgaa.PKvPlays
