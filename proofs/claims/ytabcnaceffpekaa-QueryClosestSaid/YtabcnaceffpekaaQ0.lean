-- PRINTED by print.py (a twelfth state) out of the translation. Not trusted: Lean checks it.
import Derived.Test.YtabcnaceffpekaaProg
import Derived.Below
import Derived.Deep.Draws
import Derived.Deep.AppendLies
import Derived.Maps.AppendAt
import Derived.OwnWalk
import Derived.Laws.BytesArg
import Derived.Laws.MakeOwn
import Derived.Laws.OwnMore
import Derived.Deep.OwnRows
import Derived.Tactics
import Derived.Lib.ConvBytes
import Derived.Laws.Slices
import Derived.WalkKit
import Derived.KernelRfl
import Derived.RowKit3
import Derived.Deep.LoopGhost
import Derived.Deep.QuietTactic
import Derived.BigQuiet
import Derived.WideLaws
import Derived.Deep.DeepCutAuto
import Derived.Deep.CutBlock
import Derived.Deep.RegionHeld3
import Derived.Laws.Rows
import Derived.Lib.AppendStr
import Derived.ArgAppend
import Derived.Laws.IdiomCopy
import Derived.OrdersHeld
import Derived.Laws.BitsLemmas
import Derived.RowKit
import Derived.Test.YtabcnaceffpekaaWWords
import Derived.Test.YtabcnaceffpekaaWLast
import Derived.Test.YtabcnaceffpekaaWTab
import Derived.Test.YtabcnaceffpekaaWFour
import Derived.Test.YtabcnaceffpekaaWQPut
import Derived.Test.YtabcnaceffpekaaWApart
import Derived.Test.YtabcnaceffpekaaWArr
import Derived.Test.YtabcnaceffpekaaWZeros
import Derived.Test.YtabcnaceffpekaaWFoot
import Derived.Test.YtabcnaceffpekaaWKept
import Derived.Test.YtabcnaceffpekaaWShare
import Derived.Test.YtabcnaceffpekaaWN
import Derived.Test.YtabcnaceffpekaaWFootNe
import Derived.Test.YtabcnaceffpekaaWAt
import Derived.Test.YtabcnaceffpekaaWEqStruct
import Derived.Test.YtabcnaceffpekaaWRepsOne
import Derived.Test.YtabcnaceffpekaaWInv
import Derived.Test.YtabcnaceffpekaaWInvWords
import Derived.Test.YtabcnaceffpekaaWGuard
import Derived.Test.YtabcnaceffpekaaWNEv
import Derived.Test.YtabcnaceffpekaaWMore
namespace Go.Proofs.Ytabcnaceffpekaa.Q
open Go.RowKit Go.Proofs.YtabcnaceffpekaaW.PrintWords Go.Proofs.YtabcnaceffpekaaW.PrintLast Go.Proofs.YtabcnaceffpekaaW.PrintMore
attribute [local go_sem] max2_int min2_int max_two min_two max_three min_three max_four min_four   -- for this text's walks alone
set_option linter.unusedVariables false
set_option linter.unusedSimpArgs false



def errW : Option Int → Value
  | none => .nilIface
  | some c => .iface 0 (.int .i64 c)
theorem errW_none : errW none = .nilIface := rfl
theorem errW_some (c : Int) : errW (some c) = .iface 0 (.int .i64 c) := rfl

theorem info30 : (Try.prog.info? 30).map (fun i => (i.zero, i.size, i.bytes)) = some (some (.int .u32 0), 1, 4) := by kernel_rfl
theorem info32 : (Try.prog.info? 32).map (fun i => (i.zero, i.size, i.bytes)) = some (some (.agg #[(.int .u32 0), (.int .i32 0), (.int .i32 0), (.int .i32 0), (.int .i32 0), (.int .i32 0), (.int .i32 0), (.int .i32 0), (.int .i32 0), (.int .i32 0)]), 10, 40) := by kernel_rfl
-- the values' own types
/-! #### struct type 24 -/
structure S24 where
  f0 : Int
  f1 : Int
def z24 : S24 := ⟨(0 : Int), (0 : Int)⟩
def k24 : Kd S24 := Kd.iso (Kd.pair (Kd.int .i32) (Kd.int .i32)) (fun x : S24 => (x.f0, x.f1))
theorem k24_open {w : World} {x : S24} {cs : List Value} (h : k24.K w x cs) : cs = [.int .i32 x.f0, .int .i32 x.f1] := by
  obtain ⟨_, _, rfl, rfl, rfl⟩ := h
  exact rfl
theorem k24_openM {w : World} {base : Nat} {ok : Nat → Prop} {x : S24} {cs : List Value} (h : k24.M w base ok x cs) : cs = [.int .i32 x.f0, .int .i32 x.f1] := by
  obtain ⟨_, _, rfl, rfl, rfl⟩ := h
  exact rfl
theorem k24_mk (w : World) (x : S24)  : k24.K w x [.int .i32 x.f0, .int .i32 x.f1] := ⟨[.int .i32 x.f0], [.int .i32 x.f1], rfl, rfl, rfl⟩
theorem k24_mkM (w : World) (base : Nat) (ok : Nat → Prop) (x : S24)  : k24.M w base ok x [.int .i32 x.f0, .int .i32 x.f1] := ⟨[.int .i32 x.f0], [.int .i32 x.f1], rfl, rfl, rfl⟩
def rd_T24 (xs : List S24) (i : Int) : S24 := xs.getD i.toNat z24
theorem at_T24 {w : World} {A : Option Addr} {n : Nat} {xs : List S24} (h : Kd.C k24 w A n xs) (i : Int) (h0 : 0 ≤ i) (h1 : i < n) : ∃ ad , A = some ad ∧ w.cell? (ad.add (i.toNat * 2)) = some (.int .i32 (rd_T24 xs i).f0) ∧ w.cell? ⟨(ad.add (i.toNat * 2)).block, (ad.add (i.toNat * 2)).off + 1, none⟩ = some (.int .i32 (rd_T24 xs i).f1) := by
  obtain ⟨ad, c, e, _, hK, hc0⟩ := Kd.C_get h z24 i h0 h1
  have hc : ∀ j u, c[j]? = some u → w.cell? (ad.add (i.toNat * 2 + j)) = some u := hc0
  obtain rfl := k24_open hK
  exact ⟨ad, e, hc 0 _ rfl, by rw [← add_field _ _ 1 (by omega)]; exact hc 1 _ rfl⟩

/-! #### struct type 32 -/
structure S32 where
  f0 : Int
  f1 : Int
  f2 : S24
  f3 : Int
  f4 : Int
  f5 : S24
  f6 : S24
def z32 : S32 := ⟨(0 : Int), (0 : Int), z24, (0 : Int), (0 : Int), z24, z24⟩
def k32 : Kd S32 := Kd.iso (Kd.pair (Kd.int .u32) (Kd.pair (Kd.int .i32) (Kd.pair k24 (Kd.pair (Kd.int .i32) (Kd.pair (Kd.int .i32) (Kd.pair k24 k24)))))) (fun x : S32 => (x.f0, x.f1, x.f2, x.f3, x.f4, x.f5, x.f6))
theorem k32_open {w : World} {x : S32} {cs : List Value} (h : k32.K w x cs) : cs = [.int .u32 x.f0, .int .i32 x.f1, .int .i32 x.f2.f0, .int .i32 x.f2.f1, .int .i32 x.f3, .int .i32 x.f4, .int .i32 x.f5.f0, .int .i32 x.f5.f1, .int .i32 x.f6.f0, .int .i32 x.f6.f1] := by
  obtain ⟨_, _, rfl, rfl, ⟨_, _, rfl, rfl, ⟨_, _, rfl, s2, ⟨_, _, rfl, rfl, ⟨_, _, rfl, rfl, ⟨_, _, rfl, s6, s8⟩⟩⟩⟩⟩⟩ := h
  obtain rfl := k24_open s2
  obtain rfl := k24_open s6
  obtain rfl := k24_open s8
  exact rfl
theorem k32_openM {w : World} {base : Nat} {ok : Nat → Prop} {x : S32} {cs : List Value} (h : k32.M w base ok x cs) : cs = [.int .u32 x.f0, .int .i32 x.f1, .int .i32 x.f2.f0, .int .i32 x.f2.f1, .int .i32 x.f3, .int .i32 x.f4, .int .i32 x.f5.f0, .int .i32 x.f5.f1, .int .i32 x.f6.f0, .int .i32 x.f6.f1] := by
  obtain ⟨_, _, rfl, rfl, ⟨_, _, rfl, rfl, ⟨_, _, rfl, s2, ⟨_, _, rfl, rfl, ⟨_, _, rfl, rfl, ⟨_, _, rfl, s6, s8⟩⟩⟩⟩⟩⟩ := h
  obtain rfl := k24_openM s2
  obtain rfl := k24_openM s6
  obtain rfl := k24_openM s8
  exact rfl
theorem k32_mk (w : World) (x : S32)  : k32.K w x [.int .u32 x.f0, .int .i32 x.f1, .int .i32 x.f2.f0, .int .i32 x.f2.f1, .int .i32 x.f3, .int .i32 x.f4, .int .i32 x.f5.f0, .int .i32 x.f5.f1, .int .i32 x.f6.f0, .int .i32 x.f6.f1] := ⟨[.int .u32 x.f0], [.int .i32 x.f1, .int .i32 x.f2.f0, .int .i32 x.f2.f1, .int .i32 x.f3, .int .i32 x.f4, .int .i32 x.f5.f0, .int .i32 x.f5.f1, .int .i32 x.f6.f0, .int .i32 x.f6.f1], rfl, rfl, ⟨[.int .i32 x.f1], [.int .i32 x.f2.f0, .int .i32 x.f2.f1, .int .i32 x.f3, .int .i32 x.f4, .int .i32 x.f5.f0, .int .i32 x.f5.f1, .int .i32 x.f6.f0, .int .i32 x.f6.f1], rfl, rfl, ⟨[.int .i32 x.f2.f0, .int .i32 x.f2.f1], [.int .i32 x.f3, .int .i32 x.f4, .int .i32 x.f5.f0, .int .i32 x.f5.f1, .int .i32 x.f6.f0, .int .i32 x.f6.f1], rfl, (k24_mk w x.f2 ), ⟨[.int .i32 x.f3], [.int .i32 x.f4, .int .i32 x.f5.f0, .int .i32 x.f5.f1, .int .i32 x.f6.f0, .int .i32 x.f6.f1], rfl, rfl, ⟨[.int .i32 x.f4], [.int .i32 x.f5.f0, .int .i32 x.f5.f1, .int .i32 x.f6.f0, .int .i32 x.f6.f1], rfl, rfl, ⟨[.int .i32 x.f5.f0, .int .i32 x.f5.f1], [.int .i32 x.f6.f0, .int .i32 x.f6.f1], rfl, (k24_mk w x.f5 ), (k24_mk w x.f6 )⟩⟩⟩⟩⟩⟩
theorem k32_mkM (w : World) (base : Nat) (ok : Nat → Prop) (x : S32)  : k32.M w base ok x [.int .u32 x.f0, .int .i32 x.f1, .int .i32 x.f2.f0, .int .i32 x.f2.f1, .int .i32 x.f3, .int .i32 x.f4, .int .i32 x.f5.f0, .int .i32 x.f5.f1, .int .i32 x.f6.f0, .int .i32 x.f6.f1] := ⟨[.int .u32 x.f0], [.int .i32 x.f1, .int .i32 x.f2.f0, .int .i32 x.f2.f1, .int .i32 x.f3, .int .i32 x.f4, .int .i32 x.f5.f0, .int .i32 x.f5.f1, .int .i32 x.f6.f0, .int .i32 x.f6.f1], rfl, rfl, ⟨[.int .i32 x.f1], [.int .i32 x.f2.f0, .int .i32 x.f2.f1, .int .i32 x.f3, .int .i32 x.f4, .int .i32 x.f5.f0, .int .i32 x.f5.f1, .int .i32 x.f6.f0, .int .i32 x.f6.f1], rfl, rfl, ⟨[.int .i32 x.f2.f0, .int .i32 x.f2.f1], [.int .i32 x.f3, .int .i32 x.f4, .int .i32 x.f5.f0, .int .i32 x.f5.f1, .int .i32 x.f6.f0, .int .i32 x.f6.f1], rfl, (k24_mkM w base ok x.f2 ), ⟨[.int .i32 x.f3], [.int .i32 x.f4, .int .i32 x.f5.f0, .int .i32 x.f5.f1, .int .i32 x.f6.f0, .int .i32 x.f6.f1], rfl, rfl, ⟨[.int .i32 x.f4], [.int .i32 x.f5.f0, .int .i32 x.f5.f1, .int .i32 x.f6.f0, .int .i32 x.f6.f1], rfl, rfl, ⟨[.int .i32 x.f5.f0, .int .i32 x.f5.f1], [.int .i32 x.f6.f0, .int .i32 x.f6.f1], rfl, (k24_mkM w base ok x.f5 ), (k24_mkM w base ok x.f6 )⟩⟩⟩⟩⟩⟩
def rd_T32 (xs : List S32) (i : Int) : S32 := xs.getD i.toNat z32
theorem at_T32 {w : World} {A : Option Addr} {n : Nat} {xs : List S32} (h : Kd.C k32 w A n xs) (i : Int) (h0 : 0 ≤ i) (h1 : i < n) : ∃ ad , A = some ad ∧ w.cell? (ad.add (i.toNat * 10)) = some (.int .u32 (rd_T32 xs i).f0) ∧ w.cell? ⟨(ad.add (i.toNat * 10)).block, (ad.add (i.toNat * 10)).off + 1, none⟩ = some (.int .i32 (rd_T32 xs i).f1) ∧ w.cell? ⟨(ad.add (i.toNat * 10)).block, (ad.add (i.toNat * 10)).off + 2, none⟩ = some (.int .i32 (rd_T32 xs i).f2.f0) ∧ w.cell? ⟨(ad.add (i.toNat * 10)).block, (ad.add (i.toNat * 10)).off + 3, none⟩ = some (.int .i32 (rd_T32 xs i).f2.f1) ∧ w.cell? ⟨(ad.add (i.toNat * 10)).block, (ad.add (i.toNat * 10)).off + 4, none⟩ = some (.int .i32 (rd_T32 xs i).f3) ∧ w.cell? ⟨(ad.add (i.toNat * 10)).block, (ad.add (i.toNat * 10)).off + 5, none⟩ = some (.int .i32 (rd_T32 xs i).f4) ∧ w.cell? ⟨(ad.add (i.toNat * 10)).block, (ad.add (i.toNat * 10)).off + 6, none⟩ = some (.int .i32 (rd_T32 xs i).f5.f0) ∧ w.cell? ⟨(ad.add (i.toNat * 10)).block, (ad.add (i.toNat * 10)).off + 7, none⟩ = some (.int .i32 (rd_T32 xs i).f5.f1) ∧ w.cell? ⟨(ad.add (i.toNat * 10)).block, (ad.add (i.toNat * 10)).off + 8, none⟩ = some (.int .i32 (rd_T32 xs i).f6.f0) ∧ w.cell? ⟨(ad.add (i.toNat * 10)).block, (ad.add (i.toNat * 10)).off + 9, none⟩ = some (.int .i32 (rd_T32 xs i).f6.f1) := by
  obtain ⟨ad, c, e, _, hK, hc0⟩ := Kd.C_get h z32 i h0 h1
  have hc : ∀ j u, c[j]? = some u → w.cell? (ad.add (i.toNat * 10 + j)) = some u := hc0
  obtain rfl := k32_open hK
  exact ⟨ad, e, hc 0 _ rfl, by rw [← add_field _ _ 1 (by omega)]; exact hc 1 _ rfl, by rw [← add_field _ _ 2 (by omega)]; exact hc 2 _ rfl, by rw [← add_field _ _ 3 (by omega)]; exact hc 3 _ rfl, by rw [← add_field _ _ 4 (by omega)]; exact hc 4 _ rfl, by rw [← add_field _ _ 5 (by omega)]; exact hc 5 _ rfl, by rw [← add_field _ _ 6 (by omega)]; exact hc 6 _ rfl, by rw [← add_field _ _ 7 (by omega)]; exact hc 7 _ rfl, by rw [← add_field _ _ 8 (by omega)]; exact hc 8 _ rfl, by rw [← add_field _ _ 9 (by omega)]; exact hc 9 _ rfl⟩

end Go.Proofs.Ytabcnaceffpekaa.Q
