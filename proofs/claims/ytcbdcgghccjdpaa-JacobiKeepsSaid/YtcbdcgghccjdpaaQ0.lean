-- PRINTED by print.py (a twelfth state) out of the translation. Not trusted: Lean checks it.
import Derived.Test.YtcbdcgghccjdpaaProg
import Derived.Below
import Derived.Deep.Draws
import Derived.Deep.AppendLies
import Derived.Maps.AppendAt
import Derived.OwnWalk
import Derived.Laws.BytesArg
import Derived.Laws.MakeOwn
import Derived.Laws.OwnMore
import Derived.Deep.OwnRows
import Derived.Tactics
import Derived.Lib.ConvBytes
import Derived.Laws.Slices
import Derived.WalkKit
import Derived.KernelRfl
import Derived.RowKit3
import Derived.Deep.LoopGhost
import Derived.Deep.QuietTactic
import Derived.BigQuiet
import Derived.WideLaws
import Derived.Deep.DeepCutAuto
import Derived.Deep.CutBlock
import Derived.Deep.RegionHeld3
import Derived.Laws.Rows
import Derived.Lib.AppendStr
import Derived.ArgAppend
import Derived.Laws.IdiomCopy
import Derived.OrdersHeld
import Derived.Laws.BitsLemmas
import Derived.RowKit
import Derived.Test.YtcbdcgghccjdpaaWWords
import Derived.Test.YtcbdcgghccjdpaaWLast
import Derived.Test.YtcbdcgghccjdpaaWTab
import Derived.Test.YtcbdcgghccjdpaaWFour
import Derived.Test.YtcbdcgghccjdpaaWQPut
import Derived.Test.YtcbdcgghccjdpaaWApart
import Derived.Test.YtcbdcgghccjdpaaWArr
import Derived.Test.YtcbdcgghccjdpaaWZeros
import Derived.Test.YtcbdcgghccjdpaaWFoot
import Derived.Test.YtcbdcgghccjdpaaWKept
import Derived.Test.YtcbdcgghccjdpaaWShare
import Derived.Test.YtcbdcgghccjdpaaWN
import Derived.Test.YtcbdcgghccjdpaaWFootNe
import Derived.Test.YtcbdcgghccjdpaaWAt
import Derived.Test.YtcbdcgghccjdpaaWEqStruct
import Derived.Test.YtcbdcgghccjdpaaWRepsOne
import Derived.Test.YtcbdcgghccjdpaaWInv
import Derived.Test.YtcbdcgghccjdpaaWInvWords
import Derived.Test.YtcbdcgghccjdpaaWGuard
import Derived.Test.YtcbdcgghccjdpaaWNEv
import Derived.Test.YtcbdcgghccjdpaaWMore
namespace Go.Proofs.Ytcbdcgghccjdpaa.Q
open Go.RowKit Go.Proofs.YtcbdcgghccjdpaaW.PrintWords Go.Proofs.YtcbdcgghccjdpaaW.PrintLast Go.Proofs.YtcbdcgghccjdpaaW.PrintMore
attribute [local go_sem] max2_int min2_int max_two min_two max_three min_three max_four min_four   -- for this text's walks alone
set_option linter.unusedVariables false
set_option linter.unusedSimpArgs false



def errW : Option Int → Value
  | none => .nilIface
  | some c => .iface 0 (.int .i64 c)
theorem errW_none : errW none = .nilIface := rfl
theorem errW_some (c : Int) : errW (some c) = .iface 0 (.int .i64 c) := rfl

theorem info2 : (Try.prog.info? 2).map (fun i => (i.zero, i.size, i.bytes)) = some (some (.int .i64 0), 1, 8) := by kernel_rfl
theorem info41 : (Try.prog.info? 41).map (fun i => (i.zero, i.size, i.bytes)) = some (some (.agg #[(.int .u32 0), (.int .u32 0), (.int .i32 0), (.int .i32 0), (.int .i32 0)]), 5, 20) := by kernel_rfl
theorem info44 : (Try.prog.info? 44).map (fun i => (i.zero, i.size, i.bytes)) = some (some (.agg #[(.int .u32 0), (.int .i32 0), (.int .i32 0), (.int .i32 0), (.int .i32 0), (.int .i32 0), (.int .i32 0), (.int .i32 0), (.int .i32 0), (.int .i32 0)]), 10, 40) := by kernel_rfl
-- the values' own types
/-! #### struct type 39 -/
structure S39 where
  f0 : Int
  f1 : Int
def z39 : S39 := ⟨(0 : Int), (0 : Int)⟩
def k39 : Kd S39 := Kd.iso (Kd.pair (Kd.int .i32) (Kd.int .i32)) (fun x : S39 => (x.f0, x.f1))
theorem k39_open {w : World} {x : S39} {cs : List Value} (h : k39.K w x cs) : cs = [.int .i32 x.f0, .int .i32 x.f1] := by
  obtain ⟨_, _, rfl, rfl, rfl⟩ := h
  exact rfl
theorem k39_openM {w : World} {base : Nat} {ok : Nat → Prop} {x : S39} {cs : List Value} (h : k39.M w base ok x cs) : cs = [.int .i32 x.f0, .int .i32 x.f1] := by
  obtain ⟨_, _, rfl, rfl, rfl⟩ := h
  exact rfl
theorem k39_mk (w : World) (x : S39)  : k39.K w x [.int .i32 x.f0, .int .i32 x.f1] := ⟨[.int .i32 x.f0], [.int .i32 x.f1], rfl, rfl, rfl⟩
theorem k39_mkM (w : World) (base : Nat) (ok : Nat → Prop) (x : S39)  : k39.M w base ok x [.int .i32 x.f0, .int .i32 x.f1] := ⟨[.int .i32 x.f0], [.int .i32 x.f1], rfl, rfl, rfl⟩
def rd_T39 (xs : List S39) (i : Int) : S39 := xs.getD i.toNat z39
theorem at_T39 {w : World} {A : Option Addr} {n : Nat} {xs : List S39} (h : Kd.C k39 w A n xs) (i : Int) (h0 : 0 ≤ i) (h1 : i < n) : ∃ ad , A = some ad ∧ w.cell? (ad.add (i.toNat * 2)) = some (.int .i32 (rd_T39 xs i).f0) ∧ w.cell? ⟨(ad.add (i.toNat * 2)).block, (ad.add (i.toNat * 2)).off + 1, none⟩ = some (.int .i32 (rd_T39 xs i).f1) := by
  obtain ⟨ad, c, e, _, hK, hc0⟩ := Kd.C_get h z39 i h0 h1
  have hc : ∀ j u, c[j]? = some u → w.cell? (ad.add (i.toNat * 2 + j)) = some u := hc0
  obtain rfl := k39_open hK
  exact ⟨ad, e, hc 0 _ rfl, by rw [← add_field _ _ 1 (by omega)]; exact hc 1 _ rfl⟩

/-! #### struct type 44 -/
structure S44 where
  f0 : Int
  f1 : Int
  f2 : S39
  f3 : Int
  f4 : Int
  f5 : S39
  f6 : S39
def z44 : S44 := ⟨(0 : Int), (0 : Int), z39, (0 : Int), (0 : Int), z39, z39⟩
def k44 : Kd S44 := Kd.iso (Kd.pair (Kd.int .u32) (Kd.pair (Kd.int .i32) (Kd.pair k39 (Kd.pair (Kd.int .i32) (Kd.pair (Kd.int .i32) (Kd.pair k39 k39)))))) (fun x : S44 => (x.f0, x.f1, x.f2, x.f3, x.f4, x.f5, x.f6))
theorem k44_open {w : World} {x : S44} {cs : List Value} (h : k44.K w x cs) : cs = [.int .u32 x.f0, .int .i32 x.f1, .int .i32 x.f2.f0, .int .i32 x.f2.f1, .int .i32 x.f3, .int .i32 x.f4, .int .i32 x.f5.f0, .int .i32 x.f5.f1, .int .i32 x.f6.f0, .int .i32 x.f6.f1] := by
  obtain ⟨_, _, rfl, rfl, ⟨_, _, rfl, rfl, ⟨_, _, rfl, s2, ⟨_, _, rfl, rfl, ⟨_, _, rfl, rfl, ⟨_, _, rfl, s6, s8⟩⟩⟩⟩⟩⟩ := h
  obtain rfl := k39_open s2
  obtain rfl := k39_open s6
  obtain rfl := k39_open s8
  exact rfl
theorem k44_openM {w : World} {base : Nat} {ok : Nat → Prop} {x : S44} {cs : List Value} (h : k44.M w base ok x cs) : cs = [.int .u32 x.f0, .int .i32 x.f1, .int .i32 x.f2.f0, .int .i32 x.f2.f1, .int .i32 x.f3, .int .i32 x.f4, .int .i32 x.f5.f0, .int .i32 x.f5.f1, .int .i32 x.f6.f0, .int .i32 x.f6.f1] := by
  obtain ⟨_, _, rfl, rfl, ⟨_, _, rfl, rfl, ⟨_, _, rfl, s2, ⟨_, _, rfl, rfl, ⟨_, _, rfl, rfl, ⟨_, _, rfl, s6, s8⟩⟩⟩⟩⟩⟩ := h
  obtain rfl := k39_openM s2
  obtain rfl := k39_openM s6
  obtain rfl := k39_openM s8
  exact rfl
theorem k44_mk (w : World) (x : S44)  : k44.K w x [.int .u32 x.f0, .int .i32 x.f1, .int .i32 x.f2.f0, .int .i32 x.f2.f1, .int .i32 x.f3, .int .i32 x.f4, .int .i32 x.f5.f0, .int .i32 x.f5.f1, .int .i32 x.f6.f0, .int .i32 x.f6.f1] := ⟨[.int .u32 x.f0], [.int .i32 x.f1, .int .i32 x.f2.f0, .int .i32 x.f2.f1, .int .i32 x.f3, .int .i32 x.f4, .int .i32 x.f5.f0, .int .i32 x.f5.f1, .int .i32 x.f6.f0, .int .i32 x.f6.f1], rfl, rfl, ⟨[.int .i32 x.f1], [.int .i32 x.f2.f0, .int .i32 x.f2.f1, .int .i32 x.f3, .int .i32 x.f4, .int .i32 x.f5.f0, .int .i32 x.f5.f1, .int .i32 x.f6.f0, .int .i32 x.f6.f1], rfl, rfl, ⟨[.int .i32 x.f2.f0, .int .i32 x.f2.f1], [.int .i32 x.f3, .int .i32 x.f4, .int .i32 x.f5.f0, .int .i32 x.f5.f1, .int .i32 x.f6.f0, .int .i32 x.f6.f1], rfl, (k39_mk w x.f2 ), ⟨[.int .i32 x.f3], [.int .i32 x.f4, .int .i32 x.f5.f0, .int .i32 x.f5.f1, .int .i32 x.f6.f0, .int .i32 x.f6.f1], rfl, rfl, ⟨[.int .i32 x.f4], [.int .i32 x.f5.f0, .int .i32 x.f5.f1, .int .i32 x.f6.f0, .int .i32 x.f6.f1], rfl, rfl, ⟨[.int .i32 x.f5.f0, .int .i32 x.f5.f1], [.int .i32 x.f6.f0, .int .i32 x.f6.f1], rfl, (k39_mk w x.f5 ), (k39_mk w x.f6 )⟩⟩⟩⟩⟩⟩
theorem k44_mkM (w : World) (base : Nat) (ok : Nat → Prop) (x : S44)  : k44.M w base ok x [.int .u32 x.f0, .int .i32 x.f1, .int .i32 x.f2.f0, .int .i32 x.f2.f1, .int .i32 x.f3, .int .i32 x.f4, .int .i32 x.f5.f0, .int .i32 x.f5.f1, .int .i32 x.f6.f0, .int .i32 x.f6.f1] := ⟨[.int .u32 x.f0], [.int .i32 x.f1, .int .i32 x.f2.f0, .int .i32 x.f2.f1, .int .i32 x.f3, .int .i32 x.f4, .int .i32 x.f5.f0, .int .i32 x.f5.f1, .int .i32 x.f6.f0, .int .i32 x.f6.f1], rfl, rfl, ⟨[.int .i32 x.f1], [.int .i32 x.f2.f0, .int .i32 x.f2.f1, .int .i32 x.f3, .int .i32 x.f4, .int .i32 x.f5.f0, .int .i32 x.f5.f1, .int .i32 x.f6.f0, .int .i32 x.f6.f1], rfl, rfl, ⟨[.int .i32 x.f2.f0, .int .i32 x.f2.f1], [.int .i32 x.f3, .int .i32 x.f4, .int .i32 x.f5.f0, .int .i32 x.f5.f1, .int .i32 x.f6.f0, .int .i32 x.f6.f1], rfl, (k39_mkM w base ok x.f2 ), ⟨[.int .i32 x.f3], [.int .i32 x.f4, .int .i32 x.f5.f0, .int .i32 x.f5.f1, .int .i32 x.f6.f0, .int .i32 x.f6.f1], rfl, rfl, ⟨[.int .i32 x.f4], [.int .i32 x.f5.f0, .int .i32 x.f5.f1, .int .i32 x.f6.f0, .int .i32 x.f6.f1], rfl, rfl, ⟨[.int .i32 x.f5.f0, .int .i32 x.f5.f1], [.int .i32 x.f6.f0, .int .i32 x.f6.f1], rfl, (k39_mkM w base ok x.f5 ), (k39_mkM w base ok x.f6 )⟩⟩⟩⟩⟩⟩
def rd_T44 (xs : List S44) (i : Int) : S44 := xs.getD i.toNat z44
theorem at_T44 {w : World} {A : Option Addr} {n : Nat} {xs : List S44} (h : Kd.C k44 w A n xs) (i : Int) (h0 : 0 ≤ i) (h1 : i < n) : ∃ ad , A = some ad ∧ w.cell? (ad.add (i.toNat * 10)) = some (.int .u32 (rd_T44 xs i).f0) ∧ w.cell? ⟨(ad.add (i.toNat * 10)).block, (ad.add (i.toNat * 10)).off + 1, none⟩ = some (.int .i32 (rd_T44 xs i).f1) ∧ w.cell? ⟨(ad.add (i.toNat * 10)).block, (ad.add (i.toNat * 10)).off + 2, none⟩ = some (.int .i32 (rd_T44 xs i).f2.f0) ∧ w.cell? ⟨(ad.add (i.toNat * 10)).block, (ad.add (i.toNat * 10)).off + 3, none⟩ = some (.int .i32 (rd_T44 xs i).f2.f1) ∧ w.cell? ⟨(ad.add (i.toNat * 10)).block, (ad.add (i.toNat * 10)).off + 4, none⟩ = some (.int .i32 (rd_T44 xs i).f3) ∧ w.cell? ⟨(ad.add (i.toNat * 10)).block, (ad.add (i.toNat * 10)).off + 5, none⟩ = some (.int .i32 (rd_T44 xs i).f4) ∧ w.cell? ⟨(ad.add (i.toNat * 10)).block, (ad.add (i.toNat * 10)).off + 6, none⟩ = some (.int .i32 (rd_T44 xs i).f5.f0) ∧ w.cell? ⟨(ad.add (i.toNat * 10)).block, (ad.add (i.toNat * 10)).off + 7, none⟩ = some (.int .i32 (rd_T44 xs i).f5.f1) ∧ w.cell? ⟨(ad.add (i.toNat * 10)).block, (ad.add (i.toNat * 10)).off + 8, none⟩ = some (.int .i32 (rd_T44 xs i).f6.f0) ∧ w.cell? ⟨(ad.add (i.toNat * 10)).block, (ad.add (i.toNat * 10)).off + 9, none⟩ = some (.int .i32 (rd_T44 xs i).f6.f1) := by
  obtain ⟨ad, c, e, _, hK, hc0⟩ := Kd.C_get h z44 i h0 h1
  have hc : ∀ j u, c[j]? = some u → w.cell? (ad.add (i.toNat * 10 + j)) = some u := hc0
  obtain rfl := k44_open hK
  exact ⟨ad, e, hc 0 _ rfl, by rw [← add_field _ _ 1 (by omega)]; exact hc 1 _ rfl, by rw [← add_field _ _ 2 (by omega)]; exact hc 2 _ rfl, by rw [← add_field _ _ 3 (by omega)]; exact hc 3 _ rfl, by rw [← add_field _ _ 4 (by omega)]; exact hc 4 _ rfl, by rw [← add_field _ _ 5 (by omega)]; exact hc 5 _ rfl, by rw [← add_field _ _ 6 (by omega)]; exact hc 6 _ rfl, by rw [← add_field _ _ 7 (by omega)]; exact hc 7 _ rfl, by rw [← add_field _ _ 8 (by omega)]; exact hc 8 _ rfl, by rw [← add_field _ _ 9 (by omega)]; exact hc 9 _ rfl⟩

/-! #### struct type 37 -/
structure S37 where
  f0 : Int
  f1 : Int
def z37 : S37 := ⟨(0 : Int), (0 : Int)⟩
def k37 : Kd S37 := Kd.iso (Kd.pair (Kd.int .u32) (Kd.int .u32)) (fun x : S37 => (x.f0, x.f1))
theorem k37_open {w : World} {x : S37} {cs : List Value} (h : k37.K w x cs) : cs = [.int .u32 x.f0, .int .u32 x.f1] := by
  obtain ⟨_, _, rfl, rfl, rfl⟩ := h
  exact rfl
theorem k37_openM {w : World} {base : Nat} {ok : Nat → Prop} {x : S37} {cs : List Value} (h : k37.M w base ok x cs) : cs = [.int .u32 x.f0, .int .u32 x.f1] := by
  obtain ⟨_, _, rfl, rfl, rfl⟩ := h
  exact rfl
theorem k37_mk (w : World) (x : S37)  : k37.K w x [.int .u32 x.f0, .int .u32 x.f1] := ⟨[.int .u32 x.f0], [.int .u32 x.f1], rfl, rfl, rfl⟩
theorem k37_mkM (w : World) (base : Nat) (ok : Nat → Prop) (x : S37)  : k37.M w base ok x [.int .u32 x.f0, .int .u32 x.f1] := ⟨[.int .u32 x.f0], [.int .u32 x.f1], rfl, rfl, rfl⟩
def rd_T37 (xs : List S37) (i : Int) : S37 := xs.getD i.toNat z37
theorem at_T37 {w : World} {A : Option Addr} {n : Nat} {xs : List S37} (h : Kd.C k37 w A n xs) (i : Int) (h0 : 0 ≤ i) (h1 : i < n) : ∃ ad , A = some ad ∧ w.cell? (ad.add (i.toNat * 2)) = some (.int .u32 (rd_T37 xs i).f0) ∧ w.cell? ⟨(ad.add (i.toNat * 2)).block, (ad.add (i.toNat * 2)).off + 1, none⟩ = some (.int .u32 (rd_T37 xs i).f1) := by
  obtain ⟨ad, c, e, _, hK, hc0⟩ := Kd.C_get h z37 i h0 h1
  have hc : ∀ j u, c[j]? = some u → w.cell? (ad.add (i.toNat * 2 + j)) = some u := hc0
  obtain rfl := k37_open hK
  exact ⟨ad, e, hc 0 _ rfl, by rw [← add_field _ _ 1 (by omega)]; exact hc 1 _ rfl⟩

/-! #### struct type 41 -/
structure S41 where
  f0 : S37
  f1 : S39
  f2 : Int
def z41 : S41 := ⟨z37, z39, (0 : Int)⟩
def k41 : Kd S41 := Kd.iso (Kd.pair k37 (Kd.pair k39 (Kd.int .i32))) (fun x : S41 => (x.f0, x.f1, x.f2))
theorem k41_open {w : World} {x : S41} {cs : List Value} (h : k41.K w x cs) : cs = [.int .u32 x.f0.f0, .int .u32 x.f0.f1, .int .i32 x.f1.f0, .int .i32 x.f1.f1, .int .i32 x.f2] := by
  obtain ⟨_, _, rfl, s0, ⟨_, _, rfl, s2, rfl⟩⟩ := h
  obtain rfl := k37_open s0
  obtain rfl := k39_open s2
  exact rfl
theorem k41_openM {w : World} {base : Nat} {ok : Nat → Prop} {x : S41} {cs : List Value} (h : k41.M w base ok x cs) : cs = [.int .u32 x.f0.f0, .int .u32 x.f0.f1, .int .i32 x.f1.f0, .int .i32 x.f1.f1, .int .i32 x.f2] := by
  obtain ⟨_, _, rfl, s0, ⟨_, _, rfl, s2, rfl⟩⟩ := h
  obtain rfl := k37_openM s0
  obtain rfl := k39_openM s2
  exact rfl
theorem k41_mk (w : World) (x : S41)  : k41.K w x [.int .u32 x.f0.f0, .int .u32 x.f0.f1, .int .i32 x.f1.f0, .int .i32 x.f1.f1, .int .i32 x.f2] := ⟨[.int .u32 x.f0.f0, .int .u32 x.f0.f1], [.int .i32 x.f1.f0, .int .i32 x.f1.f1, .int .i32 x.f2], rfl, (k37_mk w x.f0 ), ⟨[.int .i32 x.f1.f0, .int .i32 x.f1.f1], [.int .i32 x.f2], rfl, (k39_mk w x.f1 ), rfl⟩⟩
theorem k41_mkM (w : World) (base : Nat) (ok : Nat → Prop) (x : S41)  : k41.M w base ok x [.int .u32 x.f0.f0, .int .u32 x.f0.f1, .int .i32 x.f1.f0, .int .i32 x.f1.f1, .int .i32 x.f2] := ⟨[.int .u32 x.f0.f0, .int .u32 x.f0.f1], [.int .i32 x.f1.f0, .int .i32 x.f1.f1, .int .i32 x.f2], rfl, (k37_mkM w base ok x.f0 ), ⟨[.int .i32 x.f1.f0, .int .i32 x.f1.f1], [.int .i32 x.f2], rfl, (k39_mkM w base ok x.f1 ), rfl⟩⟩
def rd_T41 (xs : List S41) (i : Int) : S41 := xs.getD i.toNat z41
theorem at_T41 {w : World} {A : Option Addr} {n : Nat} {xs : List S41} (h : Kd.C k41 w A n xs) (i : Int) (h0 : 0 ≤ i) (h1 : i < n) : ∃ ad , A = some ad ∧ w.cell? (ad.add (i.toNat * 5)) = some (.int .u32 (rd_T41 xs i).f0.f0) ∧ w.cell? ⟨(ad.add (i.toNat * 5)).block, (ad.add (i.toNat * 5)).off + 1, none⟩ = some (.int .u32 (rd_T41 xs i).f0.f1) ∧ w.cell? ⟨(ad.add (i.toNat * 5)).block, (ad.add (i.toNat * 5)).off + 2, none⟩ = some (.int .i32 (rd_T41 xs i).f1.f0) ∧ w.cell? ⟨(ad.add (i.toNat * 5)).block, (ad.add (i.toNat * 5)).off + 3, none⟩ = some (.int .i32 (rd_T41 xs i).f1.f1) ∧ w.cell? ⟨(ad.add (i.toNat * 5)).block, (ad.add (i.toNat * 5)).off + 4, none⟩ = some (.int .i32 (rd_T41 xs i).f2) := by
  obtain ⟨ad, c, e, _, hK, hc0⟩ := Kd.C_get h z41 i h0 h1
  have hc : ∀ j u, c[j]? = some u → w.cell? (ad.add (i.toNat * 5 + j)) = some u := hc0
  obtain rfl := k41_open hK
  exact ⟨ad, e, hc 0 _ rfl, by rw [← add_field _ _ 1 (by omega)]; exact hc 1 _ rfl, by rw [← add_field _ _ 2 (by omega)]; exact hc 2 _ rfl, by rw [← add_field _ _ 3 (by omega)]; exact hc 3 _ rfl, by rw [← add_field _ _ 4 (by omega)]; exact hc 4 _ rfl⟩

end Go.Proofs.Ytcbdcgghccjdpaa.Q
