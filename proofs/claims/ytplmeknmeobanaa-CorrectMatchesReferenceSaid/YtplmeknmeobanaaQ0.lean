-- PRINTED by print.py (a twelfth state) out of the translation. Not trusted: Lean checks it.
import Derived.Test.YtplmeknmeobanaaProg
import Derived.Below
import Derived.Deep.Draws
import Derived.Deep.AppendLies
import Derived.Maps.AppendAt
import Derived.OwnWalk
import Derived.Laws.BytesArg
import Derived.Laws.MakeOwn
import Derived.Laws.OwnMore
import Derived.Deep.OwnRows
import Derived.Tactics
import Derived.Lib.ConvBytes
import Derived.Laws.Slices
import Derived.WalkKit
import Derived.KernelRfl
import Derived.RowKit3
import Derived.Deep.LoopGhost
import Derived.Deep.QuietTactic
import Derived.BigQuiet
import Derived.WideLaws
import Derived.Deep.DeepCutAuto
import Derived.Deep.CutBlock
import Derived.Deep.RegionHeld3
import Derived.Laws.Rows
import Derived.Lib.AppendStr
import Derived.ArgAppend
import Derived.Laws.IdiomCopy
import Derived.OrdersHeld
import Derived.Laws.BitsLemmas
import Derived.RowKit
import Derived.Test.YtplmeknmeobanaaWWords
import Derived.Test.YtplmeknmeobanaaWLast
import Derived.Test.YtplmeknmeobanaaWTab
import Derived.Test.YtplmeknmeobanaaWFour
import Derived.Test.YtplmeknmeobanaaWQPut
import Derived.Test.YtplmeknmeobanaaWApart
import Derived.Test.YtplmeknmeobanaaWArr
import Derived.Test.YtplmeknmeobanaaWZeros
import Derived.Test.YtplmeknmeobanaaWFoot
import Derived.Test.YtplmeknmeobanaaWKept
import Derived.Test.YtplmeknmeobanaaWShare
import Derived.Test.YtplmeknmeobanaaWN
import Derived.Test.YtplmeknmeobanaaWFootNe
import Derived.Test.YtplmeknmeobanaaWAt
import Derived.Test.YtplmeknmeobanaaWEqStruct
import Derived.Test.YtplmeknmeobanaaWRepsOne
import Derived.Test.YtplmeknmeobanaaWInv
import Derived.Test.YtplmeknmeobanaaWInvWords
import Derived.Test.YtplmeknmeobanaaWGuard
import Derived.Test.YtplmeknmeobanaaWNEv
import Derived.Test.YtplmeknmeobanaaWMore
namespace Go.Proofs.Ytplmeknmeobanaa.Q
open Go.RowKit Go.Proofs.YtplmeknmeobanaaW.PrintWords Go.Proofs.YtplmeknmeobanaaW.PrintLast Go.Proofs.YtplmeknmeobanaaW.PrintMore
attribute [local go_sem] max2_int min2_int max_two min_two max_three min_three max_four min_four   -- for this text's walks alone
set_option linter.unusedVariables false
set_option linter.unusedSimpArgs false



def errW : Option Int → Value
  | none => .nilIface
  | some c => .iface 0 (.int .i64 c)
theorem errW_none : errW none = .nilIface := rfl
theorem errW_some (c : Int) : errW (some c) = .iface 0 (.int .i64 c) := rfl

theorem info32 : (Try.prog.info? 32).map (fun i => (i.zero, i.size, i.bytes)) = some (some (.agg #[(.int .u32 0), (.int .i32 0), (.int .i32 0), (.int .i32 0), (.int .i32 0), (.int .i32 0), (.int .i32 0), (.int .i32 0), (.int .i32 0), (.int .i32 0)]), 10, 40) := by kernel_rfl
theorem info37 : (Try.prog.info? 37).map (fun i => (i.zero, i.size, i.bytes)) = some (some (.agg #[(.int .u32 0), (.int .u32 0), (.int .i32 0), (.int .i32 0), (.int .i32 0)]), 5, 20) := by kernel_rfl
theorem info53 : (Try.prog.info? 53).map (fun i => (i.zero, i.size, i.bytes)) = some (some (.agg #[(.int .i64 0), (.int .i64 0)]), 2, 16) := by kernel_rfl
-- the values' own types
/-! #### struct type 30 -/
structure S30 where
  f0 : Int
  f1 : Int
def z30 : S30 := ⟨(0 : Int), (0 : Int)⟩
def k30 : Kd S30 := Kd.iso (Kd.pair (Kd.int .i32) (Kd.int .i32)) (fun x : S30 => (x.f0, x.f1))
theorem k30_open {w : World} {x : S30} {cs : List Value} (h : k30.K w x cs) : cs = [.int .i32 x.f0, .int .i32 x.f1] := by
  obtain ⟨_, _, rfl, rfl, rfl⟩ := h
  exact rfl
theorem k30_openM {w : World} {base : Nat} {ok : Nat → Prop} {x : S30} {cs : List Value} (h : k30.M w base ok x cs) : cs = [.int .i32 x.f0, .int .i32 x.f1] := by
  obtain ⟨_, _, rfl, rfl, rfl⟩ := h
  exact rfl
theorem k30_mk (w : World) (x : S30)  : k30.K w x [.int .i32 x.f0, .int .i32 x.f1] := ⟨[.int .i32 x.f0], [.int .i32 x.f1], rfl, rfl, rfl⟩
theorem k30_mkM (w : World) (base : Nat) (ok : Nat → Prop) (x : S30)  : k30.M w base ok x [.int .i32 x.f0, .int .i32 x.f1] := ⟨[.int .i32 x.f0], [.int .i32 x.f1], rfl, rfl, rfl⟩
def rd_T30 (xs : List S30) (i : Int) : S30 := xs.getD i.toNat z30
theorem at_T30 {w : World} {A : Option Addr} {n : Nat} {xs : List S30} (h : Kd.C k30 w A n xs) (i : Int) (h0 : 0 ≤ i) (h1 : i < n) : ∃ ad , A = some ad ∧ w.cell? (ad.add (i.toNat * 2)) = some (.int .i32 (rd_T30 xs i).f0) ∧ w.cell? ⟨(ad.add (i.toNat * 2)).block, (ad.add (i.toNat * 2)).off + 1, none⟩ = some (.int .i32 (rd_T30 xs i).f1) := by
  obtain ⟨ad, c, e, _, hK, hc0⟩ := Kd.C_get h z30 i h0 h1
  have hc : ∀ j u, c[j]? = some u → w.cell? (ad.add (i.toNat * 2 + j)) = some u := hc0
  obtain rfl := k30_open hK
  exact ⟨ad, e, hc 0 _ rfl, by rw [← add_field _ _ 1 (by omega)]; exact hc 1 _ rfl⟩

/-! #### struct type 32 -/
structure S32 where
  f0 : Int
  f1 : Int
  f2 : S30
  f3 : Int
  f4 : Int
  f5 : S30
  f6 : S30
def z32 : S32 := ⟨(0 : Int), (0 : Int), z30, (0 : Int), (0 : Int), z30, z30⟩
def k32 : Kd S32 := Kd.iso (Kd.pair (Kd.int .u32) (Kd.pair (Kd.int .i32) (Kd.pair k30 (Kd.pair (Kd.int .i32) (Kd.pair (Kd.int .i32) (Kd.pair k30 k30)))))) (fun x : S32 => (x.f0, x.f1, x.f2, x.f3, x.f4, x.f5, x.f6))
theorem k32_open {w : World} {x : S32} {cs : List Value} (h : k32.K w x cs) : cs = [.int .u32 x.f0, .int .i32 x.f1, .int .i32 x.f2.f0, .int .i32 x.f2.f1, .int .i32 x.f3, .int .i32 x.f4, .int .i32 x.f5.f0, .int .i32 x.f5.f1, .int .i32 x.f6.f0, .int .i32 x.f6.f1] := by
  obtain ⟨_, _, rfl, rfl, ⟨_, _, rfl, rfl, ⟨_, _, rfl, s2, ⟨_, _, rfl, rfl, ⟨_, _, rfl, rfl, ⟨_, _, rfl, s6, s8⟩⟩⟩⟩⟩⟩ := h
  obtain rfl := k30_open s2
  obtain rfl := k30_open s6
  obtain rfl := k30_open s8
  exact rfl
theorem k32_openM {w : World} {base : Nat} {ok : Nat → Prop} {x : S32} {cs : List Value} (h : k32.M w base ok x cs) : cs = [.int .u32 x.f0, .int .i32 x.f1, .int .i32 x.f2.f0, .int .i32 x.f2.f1, .int .i32 x.f3, .int .i32 x.f4, .int .i32 x.f5.f0, .int .i32 x.f5.f1, .int .i32 x.f6.f0, .int .i32 x.f6.f1] := by
  obtain ⟨_, _, rfl, rfl, ⟨_, _, rfl, rfl, ⟨_, _, rfl, s2, ⟨_, _, rfl, rfl, ⟨_, _, rfl, rfl, ⟨_, _, rfl, s6, s8⟩⟩⟩⟩⟩⟩ := h
  obtain rfl := k30_openM s2
  obtain rfl := k30_openM s6
  obtain rfl := k30_openM s8
  exact rfl
theorem k32_mk (w : World) (x : S32)  : k32.K w x [.int .u32 x.f0, .int .i32 x.f1, .int .i32 x.f2.f0, .int .i32 x.f2.f1, .int .i32 x.f3, .int .i32 x.f4, .int .i32 x.f5.f0, .int .i32 x.f5.f1, .int .i32 x.f6.f0, .int .i32 x.f6.f1] := ⟨[.int .u32 x.f0], [.int .i32 x.f1, .int .i32 x.f2.f0, .int .i32 x.f2.f1, .int .i32 x.f3, .int .i32 x.f4, .int .i32 x.f5.f0, .int .i32 x.f5.f1, .int .i32 x.f6.f0, .int .i32 x.f6.f1], rfl, rfl, ⟨[.int .i32 x.f1], [.int .i32 x.f2.f0, .int .i32 x.f2.f1, .int .i32 x.f3, .int .i32 x.f4, .int .i32 x.f5.f0, .int .i32 x.f5.f1, .int .i32 x.f6.f0, .int .i32 x.f6.f1], rfl, rfl, ⟨[.int .i32 x.f2.f0, .int .i32 x.f2.f1], [.int .i32 x.f3, .int .i32 x.f4, .int .i32 x.f5.f0, .int .i32 x.f5.f1, .int .i32 x.f6.f0, .int .i32 x.f6.f1], rfl, (k30_mk w x.f2 ), ⟨[.int .i32 x.f3], [.int .i32 x.f4, .int .i32 x.f5.f0, .int .i32 x.f5.f1, .int .i32 x.f6.f0, .int .i32 x.f6.f1], rfl, rfl, ⟨[.int .i32 x.f4], [.int .i32 x.f5.f0, .int .i32 x.f5.f1, .int .i32 x.f6.f0, .int .i32 x.f6.f1], rfl, rfl, ⟨[.int .i32 x.f5.f0, .int .i32 x.f5.f1], [.int .i32 x.f6.f0, .int .i32 x.f6.f1], rfl, (k30_mk w x.f5 ), (k30_mk w x.f6 )⟩⟩⟩⟩⟩⟩
theorem k32_mkM (w : World) (base : Nat) (ok : Nat → Prop) (x : S32)  : k32.M w base ok x [.int .u32 x.f0, .int .i32 x.f1, .int .i32 x.f2.f0, .int .i32 x.f2.f1, .int .i32 x.f3, .int .i32 x.f4, .int .i32 x.f5.f0, .int .i32 x.f5.f1, .int .i32 x.f6.f0, .int .i32 x.f6.f1] := ⟨[.int .u32 x.f0], [.int .i32 x.f1, .int .i32 x.f2.f0, .int .i32 x.f2.f1, .int .i32 x.f3, .int .i32 x.f4, .int .i32 x.f5.f0, .int .i32 x.f5.f1, .int .i32 x.f6.f0, .int .i32 x.f6.f1], rfl, rfl, ⟨[.int .i32 x.f1], [.int .i32 x.f2.f0, .int .i32 x.f2.f1, .int .i32 x.f3, .int .i32 x.f4, .int .i32 x.f5.f0, .int .i32 x.f5.f1, .int .i32 x.f6.f0, .int .i32 x.f6.f1], rfl, rfl, ⟨[.int .i32 x.f2.f0, .int .i32 x.f2.f1], [.int .i32 x.f3, .int .i32 x.f4, .int .i32 x.f5.f0, .int .i32 x.f5.f1, .int .i32 x.f6.f0, .int .i32 x.f6.f1], rfl, (k30_mkM w base ok x.f2 ), ⟨[.int .i32 x.f3], [.int .i32 x.f4, .int .i32 x.f5.f0, .int .i32 x.f5.f1, .int .i32 x.f6.f0, .int .i32 x.f6.f1], rfl, rfl, ⟨[.int .i32 x.f4], [.int .i32 x.f5.f0, .int .i32 x.f5.f1, .int .i32 x.f6.f0, .int .i32 x.f6.f1], rfl, rfl, ⟨[.int .i32 x.f5.f0, .int .i32 x.f5.f1], [.int .i32 x.f6.f0, .int .i32 x.f6.f1], rfl, (k30_mkM w base ok x.f5 ), (k30_mkM w base ok x.f6 )⟩⟩⟩⟩⟩⟩
def rd_T32 (xs : List S32) (i : Int) : S32 := xs.getD i.toNat z32
theorem at_T32 {w : World} {A : Option Addr} {n : Nat} {xs : List S32} (h : Kd.C k32 w A n xs) (i : Int) (h0 : 0 ≤ i) (h1 : i < n) : ∃ ad , A = some ad ∧ w.cell? (ad.add (i.toNat * 10)) = some (.int .u32 (rd_T32 xs i).f0) ∧ w.cell? ⟨(ad.add (i.toNat * 10)).block, (ad.add (i.toNat * 10)).off + 1, none⟩ = some (.int .i32 (rd_T32 xs i).f1) ∧ w.cell? ⟨(ad.add (i.toNat * 10)).block, (ad.add (i.toNat * 10)).off + 2, none⟩ = some (.int .i32 (rd_T32 xs i).f2.f0) ∧ w.cell? ⟨(ad.add (i.toNat * 10)).block, (ad.add (i.toNat * 10)).off + 3, none⟩ = some (.int .i32 (rd_T32 xs i).f2.f1) ∧ w.cell? ⟨(ad.add (i.toNat * 10)).block, (ad.add (i.toNat * 10)).off + 4, none⟩ = some (.int .i32 (rd_T32 xs i).f3) ∧ w.cell? ⟨(ad.add (i.toNat * 10)).block, (ad.add (i.toNat * 10)).off + 5, none⟩ = some (.int .i32 (rd_T32 xs i).f4) ∧ w.cell? ⟨(ad.add (i.toNat * 10)).block, (ad.add (i.toNat * 10)).off + 6, none⟩ = some (.int .i32 (rd_T32 xs i).f5.f0) ∧ w.cell? ⟨(ad.add (i.toNat * 10)).block, (ad.add (i.toNat * 10)).off + 7, none⟩ = some (.int .i32 (rd_T32 xs i).f5.f1) ∧ w.cell? ⟨(ad.add (i.toNat * 10)).block, (ad.add (i.toNat * 10)).off + 8, none⟩ = some (.int .i32 (rd_T32 xs i).f6.f0) ∧ w.cell? ⟨(ad.add (i.toNat * 10)).block, (ad.add (i.toNat * 10)).off + 9, none⟩ = some (.int .i32 (rd_T32 xs i).f6.f1) := by
  obtain ⟨ad, c, e, _, hK, hc0⟩ := Kd.C_get h z32 i h0 h1
  have hc : ∀ j u, c[j]? = some u → w.cell? (ad.add (i.toNat * 10 + j)) = some u := hc0
  obtain rfl := k32_open hK
  exact ⟨ad, e, hc 0 _ rfl, by rw [← add_field _ _ 1 (by omega)]; exact hc 1 _ rfl, by rw [← add_field _ _ 2 (by omega)]; exact hc 2 _ rfl, by rw [← add_field _ _ 3 (by omega)]; exact hc 3 _ rfl, by rw [← add_field _ _ 4 (by omega)]; exact hc 4 _ rfl, by rw [← add_field _ _ 5 (by omega)]; exact hc 5 _ rfl, by rw [← add_field _ _ 6 (by omega)]; exact hc 6 _ rfl, by rw [← add_field _ _ 7 (by omega)]; exact hc 7 _ rfl, by rw [← add_field _ _ 8 (by omega)]; exact hc 8 _ rfl, by rw [← add_field _ _ 9 (by omega)]; exact hc 9 _ rfl⟩

/-! #### struct type 53 -/
structure S53 where
  f0 : Int
  f1 : Int
def z53 : S53 := ⟨(0 : Int), (0 : Int)⟩
def k53 : Kd S53 := Kd.iso (Kd.pair (Kd.int .i64) (Kd.int .i64)) (fun x : S53 => (x.f0, x.f1))
theorem k53_open {w : World} {x : S53} {cs : List Value} (h : k53.K w x cs) : cs = [.int .i64 x.f0, .int .i64 x.f1] := by
  obtain ⟨_, _, rfl, rfl, rfl⟩ := h
  exact rfl
theorem k53_openM {w : World} {base : Nat} {ok : Nat → Prop} {x : S53} {cs : List Value} (h : k53.M w base ok x cs) : cs = [.int .i64 x.f0, .int .i64 x.f1] := by
  obtain ⟨_, _, rfl, rfl, rfl⟩ := h
  exact rfl
theorem k53_mk (w : World) (x : S53)  : k53.K w x [.int .i64 x.f0, .int .i64 x.f1] := ⟨[.int .i64 x.f0], [.int .i64 x.f1], rfl, rfl, rfl⟩
theorem k53_mkM (w : World) (base : Nat) (ok : Nat → Prop) (x : S53)  : k53.M w base ok x [.int .i64 x.f0, .int .i64 x.f1] := ⟨[.int .i64 x.f0], [.int .i64 x.f1], rfl, rfl, rfl⟩
def rd_T53 (xs : List S53) (i : Int) : S53 := xs.getD i.toNat z53
theorem at_T53 {w : World} {A : Option Addr} {n : Nat} {xs : List S53} (h : Kd.C k53 w A n xs) (i : Int) (h0 : 0 ≤ i) (h1 : i < n) : ∃ ad , A = some ad ∧ w.cell? (ad.add (i.toNat * 2)) = some (.int .i64 (rd_T53 xs i).f0) ∧ w.cell? ⟨(ad.add (i.toNat * 2)).block, (ad.add (i.toNat * 2)).off + 1, none⟩ = some (.int .i64 (rd_T53 xs i).f1) := by
  obtain ⟨ad, c, e, _, hK, hc0⟩ := Kd.C_get h z53 i h0 h1
  have hc : ∀ j u, c[j]? = some u → w.cell? (ad.add (i.toNat * 2 + j)) = some u := hc0
  obtain rfl := k53_open hK
  exact ⟨ad, e, hc 0 _ rfl, by rw [← add_field _ _ 1 (by omega)]; exact hc 1 _ rfl⟩

/-! #### struct type 48 -/
structure S48 where
  f0 : Int
  f1 : Int
def z48 : S48 := ⟨(0 : Int), (0 : Int)⟩
def k48 : Kd S48 := Kd.iso (Kd.pair (Kd.int .i64) (Kd.int .i64)) (fun x : S48 => (x.f0, x.f1))
theorem k48_open {w : World} {x : S48} {cs : List Value} (h : k48.K w x cs) : cs = [.int .i64 x.f0, .int .i64 x.f1] := by
  obtain ⟨_, _, rfl, rfl, rfl⟩ := h
  exact rfl
theorem k48_openM {w : World} {base : Nat} {ok : Nat → Prop} {x : S48} {cs : List Value} (h : k48.M w base ok x cs) : cs = [.int .i64 x.f0, .int .i64 x.f1] := by
  obtain ⟨_, _, rfl, rfl, rfl⟩ := h
  exact rfl
theorem k48_mk (w : World) (x : S48)  : k48.K w x [.int .i64 x.f0, .int .i64 x.f1] := ⟨[.int .i64 x.f0], [.int .i64 x.f1], rfl, rfl, rfl⟩
theorem k48_mkM (w : World) (base : Nat) (ok : Nat → Prop) (x : S48)  : k48.M w base ok x [.int .i64 x.f0, .int .i64 x.f1] := ⟨[.int .i64 x.f0], [.int .i64 x.f1], rfl, rfl, rfl⟩
def rd_T48 (xs : List S48) (i : Int) : S48 := xs.getD i.toNat z48
theorem at_T48 {w : World} {A : Option Addr} {n : Nat} {xs : List S48} (h : Kd.C k48 w A n xs) (i : Int) (h0 : 0 ≤ i) (h1 : i < n) : ∃ ad , A = some ad ∧ w.cell? (ad.add (i.toNat * 2)) = some (.int .i64 (rd_T48 xs i).f0) ∧ w.cell? ⟨(ad.add (i.toNat * 2)).block, (ad.add (i.toNat * 2)).off + 1, none⟩ = some (.int .i64 (rd_T48 xs i).f1) := by
  obtain ⟨ad, c, e, _, hK, hc0⟩ := Kd.C_get h z48 i h0 h1
  have hc : ∀ j u, c[j]? = some u → w.cell? (ad.add (i.toNat * 2 + j)) = some u := hc0
  obtain rfl := k48_open hK
  exact ⟨ad, e, hc 0 _ rfl, by rw [← add_field _ _ 1 (by omega)]; exact hc 1 _ rfl⟩

/-! #### struct type 35 -/
structure S35 where
  f0 : Int
  f1 : Int
def z35 : S35 := ⟨(0 : Int), (0 : Int)⟩
def k35 : Kd S35 := Kd.iso (Kd.pair (Kd.int .u32) (Kd.int .u32)) (fun x : S35 => (x.f0, x.f1))
theorem k35_open {w : World} {x : S35} {cs : List Value} (h : k35.K w x cs) : cs = [.int .u32 x.f0, .int .u32 x.f1] := by
  obtain ⟨_, _, rfl, rfl, rfl⟩ := h
  exact rfl
theorem k35_openM {w : World} {base : Nat} {ok : Nat → Prop} {x : S35} {cs : List Value} (h : k35.M w base ok x cs) : cs = [.int .u32 x.f0, .int .u32 x.f1] := by
  obtain ⟨_, _, rfl, rfl, rfl⟩ := h
  exact rfl
theorem k35_mk (w : World) (x : S35)  : k35.K w x [.int .u32 x.f0, .int .u32 x.f1] := ⟨[.int .u32 x.f0], [.int .u32 x.f1], rfl, rfl, rfl⟩
theorem k35_mkM (w : World) (base : Nat) (ok : Nat → Prop) (x : S35)  : k35.M w base ok x [.int .u32 x.f0, .int .u32 x.f1] := ⟨[.int .u32 x.f0], [.int .u32 x.f1], rfl, rfl, rfl⟩
def rd_T35 (xs : List S35) (i : Int) : S35 := xs.getD i.toNat z35
theorem at_T35 {w : World} {A : Option Addr} {n : Nat} {xs : List S35} (h : Kd.C k35 w A n xs) (i : Int) (h0 : 0 ≤ i) (h1 : i < n) : ∃ ad , A = some ad ∧ w.cell? (ad.add (i.toNat * 2)) = some (.int .u32 (rd_T35 xs i).f0) ∧ w.cell? ⟨(ad.add (i.toNat * 2)).block, (ad.add (i.toNat * 2)).off + 1, none⟩ = some (.int .u32 (rd_T35 xs i).f1) := by
  obtain ⟨ad, c, e, _, hK, hc0⟩ := Kd.C_get h z35 i h0 h1
  have hc : ∀ j u, c[j]? = some u → w.cell? (ad.add (i.toNat * 2 + j)) = some u := hc0
  obtain rfl := k35_open hK
  exact ⟨ad, e, hc 0 _ rfl, by rw [← add_field _ _ 1 (by omega)]; exact hc 1 _ rfl⟩

/-! #### struct type 37 -/
structure S37 where
  f0 : S35
  f1 : S30
  f2 : Int
def z37 : S37 := ⟨z35, z30, (0 : Int)⟩
def k37 : Kd S37 := Kd.iso (Kd.pair k35 (Kd.pair k30 (Kd.int .i32))) (fun x : S37 => (x.f0, x.f1, x.f2))
theorem k37_open {w : World} {x : S37} {cs : List Value} (h : k37.K w x cs) : cs = [.int .u32 x.f0.f0, .int .u32 x.f0.f1, .int .i32 x.f1.f0, .int .i32 x.f1.f1, .int .i32 x.f2] := by
  obtain ⟨_, _, rfl, s0, ⟨_, _, rfl, s2, rfl⟩⟩ := h
  obtain rfl := k35_open s0
  obtain rfl := k30_open s2
  exact rfl
theorem k37_openM {w : World} {base : Nat} {ok : Nat → Prop} {x : S37} {cs : List Value} (h : k37.M w base ok x cs) : cs = [.int .u32 x.f0.f0, .int .u32 x.f0.f1, .int .i32 x.f1.f0, .int .i32 x.f1.f1, .int .i32 x.f2] := by
  obtain ⟨_, _, rfl, s0, ⟨_, _, rfl, s2, rfl⟩⟩ := h
  obtain rfl := k35_openM s0
  obtain rfl := k30_openM s2
  exact rfl
theorem k37_mk (w : World) (x : S37)  : k37.K w x [.int .u32 x.f0.f0, .int .u32 x.f0.f1, .int .i32 x.f1.f0, .int .i32 x.f1.f1, .int .i32 x.f2] := ⟨[.int .u32 x.f0.f0, .int .u32 x.f0.f1], [.int .i32 x.f1.f0, .int .i32 x.f1.f1, .int .i32 x.f2], rfl, (k35_mk w x.f0 ), ⟨[.int .i32 x.f1.f0, .int .i32 x.f1.f1], [.int .i32 x.f2], rfl, (k30_mk w x.f1 ), rfl⟩⟩
theorem k37_mkM (w : World) (base : Nat) (ok : Nat → Prop) (x : S37)  : k37.M w base ok x [.int .u32 x.f0.f0, .int .u32 x.f0.f1, .int .i32 x.f1.f0, .int .i32 x.f1.f1, .int .i32 x.f2] := ⟨[.int .u32 x.f0.f0, .int .u32 x.f0.f1], [.int .i32 x.f1.f0, .int .i32 x.f1.f1, .int .i32 x.f2], rfl, (k35_mkM w base ok x.f0 ), ⟨[.int .i32 x.f1.f0, .int .i32 x.f1.f1], [.int .i32 x.f2], rfl, (k30_mkM w base ok x.f1 ), rfl⟩⟩
def rd_T37 (xs : List S37) (i : Int) : S37 := xs.getD i.toNat z37
theorem at_T37 {w : World} {A : Option Addr} {n : Nat} {xs : List S37} (h : Kd.C k37 w A n xs) (i : Int) (h0 : 0 ≤ i) (h1 : i < n) : ∃ ad , A = some ad ∧ w.cell? (ad.add (i.toNat * 5)) = some (.int .u32 (rd_T37 xs i).f0.f0) ∧ w.cell? ⟨(ad.add (i.toNat * 5)).block, (ad.add (i.toNat * 5)).off + 1, none⟩ = some (.int .u32 (rd_T37 xs i).f0.f1) ∧ w.cell? ⟨(ad.add (i.toNat * 5)).block, (ad.add (i.toNat * 5)).off + 2, none⟩ = some (.int .i32 (rd_T37 xs i).f1.f0) ∧ w.cell? ⟨(ad.add (i.toNat * 5)).block, (ad.add (i.toNat * 5)).off + 3, none⟩ = some (.int .i32 (rd_T37 xs i).f1.f1) ∧ w.cell? ⟨(ad.add (i.toNat * 5)).block, (ad.add (i.toNat * 5)).off + 4, none⟩ = some (.int .i32 (rd_T37 xs i).f2) := by
  obtain ⟨ad, c, e, _, hK, hc0⟩ := Kd.C_get h z37 i h0 h1
  have hc : ∀ j u, c[j]? = some u → w.cell? (ad.add (i.toNat * 5 + j)) = some u := hc0
  obtain rfl := k37_open hK
  exact ⟨ad, e, hc 0 _ rfl, by rw [← add_field _ _ 1 (by omega)]; exact hc 1 _ rfl, by rw [← add_field _ _ 2 (by omega)]; exact hc 2 _ rfl, by rw [← add_field _ _ 3 (by omega)]; exact hc 3 _ rfl, by rw [← add_field _ _ 4 (by omega)]; exact hc 4 _ rfl⟩

end Go.Proofs.Ytplmeknmeobanaa.Q
