/- A struct stored into its variable, cell by cell: what the world is behind it. -/
import Derived.Test.YtihgddcaljaojaaMspec
import Derived.Deep.MidRow
import Derived.Deep.WholeRow
namespace Go.Proofs.Ytihgddcaljaojaa.Q
open Go.RowKit Go.Proofs.YtihgddcaljaojaaW.PrintWords Go.Proofs.YtihgddcaljaojaaW.PrintLast Go.Proofs.YtihgddcaljaojaaW.PrintMore
set_option linter.unusedVariables false
theorem there_of {W : World} {g n : Nat} {cs : Array Value} {t : TypeId} (h : W.heap[g]? = some (.cells cs t (0, 0))) (hs : cs.size = n) : W.there g 0 n := by
  intro j hj
  rw [Nat.zero_add]
  refine ⟨?_, blk_frozen h j⟩
  rw [blk_cell h j]
  simp
  omega
set_option maxHeartbeats 1000000 in
theorem exec_store5 {P : Program} {a : Act} {oi : Oper} {W : World} {g : Nat} {t T : TypeId} {x y : Operand} {cs : Array Value} {v0 v1 v2 v3 v4 : Value} (ho : oi.op = .store T x y) (hx : a.eval x = .pointer (some ⟨g, 0, none⟩)) (hy : a.eval y = .agg #[v0, v1, v2, v3, v4])
    (h : W.heap[g]? = some (.cells cs t (0, 0))) (hs : cs.size = 5) (hi : (P.info? T).map (·.size) = some 5) (h1 : List.all [v0, v1, v2, v3, v4] (fun v => v.oneCell') = true) : (execOp a.eval oi).run P W = .ok .skip (World.setCell (World.setCell (World.setCell (World.setCell (World.setCell W ⟨g, 0, none⟩ v0) ⟨g, 1, none⟩ v1) ⟨g, 2, none⟩ v2) ⟨g, 3, none⟩ v3) ⟨g, 4, none⟩ v4) := by
  have e : ((World.setCell (World.setCell (World.setCell (World.setCell (World.setCell W ⟨g, 0, none⟩ v0) ⟨g, 1, none⟩ v1) ⟨g, 2, none⟩ v2) ⟨g, 3, none⟩ v3) ⟨g, 4, none⟩ v4) : World) = W.setCells g 0 [v0, v1, v2, v3, v4] := rfl
  have hr := run_storeAt_mid (P := P) W g 0 T #[v0, v1, v2, v3, v4] (there_of h (by rw [hs]; rfl)) hi (by rw [List.all_toArray]; exact h1)
  rw [e]
  unfold execOp
  simp only [ho, hx, hy, hr, Sem.run_bind, Sem.run_pure, Result.andThen_ok]
set_option maxHeartbeats 1000000 in
theorem far5 {W : World} {g g' : Nat} {o : Option Obj} {v0 v1 v2 v3 v4 : Value} (h : W.heap[g]? = o) (hne : g ≠ g') : ((World.setCell (World.setCell (World.setCell (World.setCell (World.setCell W ⟨g', 0, none⟩ v0) ⟨g', 1, none⟩ v1) ⟨g', 2, none⟩ v2) ⟨g', 3, none⟩ v3) ⟨g', 4, none⟩ v4) : World).heap[g]? = o := by
  have e : ∀ (V : World) (i : Nat) (v : Value), (World.setCell V ⟨g', i, none⟩ v).heap[g]? = V.heap[g]? := fun V i v => Below.heap_setCell V ⟨g', i, none⟩ v g hne
  rw [e, e, e, e, e]
  exact h
set_option maxHeartbeats 1000000 in
theorem exec_store10 {P : Program} {a : Act} {oi : Oper} {W : World} {g : Nat} {t T : TypeId} {x y : Operand} {cs : Array Value} {v0 v1 v2 v3 v4 v5 v6 v7 v8 v9 : Value} (ho : oi.op = .store T x y) (hx : a.eval x = .pointer (some ⟨g, 0, none⟩)) (hy : a.eval y = .agg #[v0, v1, v2, v3, v4, v5, v6, v7, v8, v9])
    (h : W.heap[g]? = some (.cells cs t (0, 0))) (hs : cs.size = 10) (hi : (P.info? T).map (·.size) = some 10) (h1 : List.all [v0, v1, v2, v3, v4, v5, v6, v7, v8, v9] (fun v => v.oneCell') = true) : (execOp a.eval oi).run P W = .ok .skip (World.setCell (World.setCell (World.setCell (World.setCell (World.setCell (World.setCell (World.setCell (World.setCell (World.setCell (World.setCell W ⟨g, 0, none⟩ v0) ⟨g, 1, none⟩ v1) ⟨g, 2, none⟩ v2) ⟨g, 3, none⟩ v3) ⟨g, 4, none⟩ v4) ⟨g, 5, none⟩ v5) ⟨g, 6, none⟩ v6) ⟨g, 7, none⟩ v7) ⟨g, 8, none⟩ v8) ⟨g, 9, none⟩ v9) := by
  have e : ((World.setCell (World.setCell (World.setCell (World.setCell (World.setCell (World.setCell (World.setCell (World.setCell (World.setCell (World.setCell W ⟨g, 0, none⟩ v0) ⟨g, 1, none⟩ v1) ⟨g, 2, none⟩ v2) ⟨g, 3, none⟩ v3) ⟨g, 4, none⟩ v4) ⟨g, 5, none⟩ v5) ⟨g, 6, none⟩ v6) ⟨g, 7, none⟩ v7) ⟨g, 8, none⟩ v8) ⟨g, 9, none⟩ v9) : World) = W.setCells g 0 [v0, v1, v2, v3, v4, v5, v6, v7, v8, v9] := rfl
  have hr := run_storeAt_mid (P := P) W g 0 T #[v0, v1, v2, v3, v4, v5, v6, v7, v8, v9] (there_of h (by rw [hs]; rfl)) hi (by rw [List.all_toArray]; exact h1)
  rw [e]
  unfold execOp
  simp only [ho, hx, hy, hr, Sem.run_bind, Sem.run_pure, Result.andThen_ok]
set_option maxHeartbeats 1000000 in
theorem far10 {W : World} {g g' : Nat} {o : Option Obj} {v0 v1 v2 v3 v4 v5 v6 v7 v8 v9 : Value} (h : W.heap[g]? = o) (hne : g ≠ g') : ((World.setCell (World.setCell (World.setCell (World.setCell (World.setCell (World.setCell (World.setCell (World.setCell (World.setCell (World.setCell W ⟨g', 0, none⟩ v0) ⟨g', 1, none⟩ v1) ⟨g', 2, none⟩ v2) ⟨g', 3, none⟩ v3) ⟨g', 4, none⟩ v4) ⟨g', 5, none⟩ v5) ⟨g', 6, none⟩ v6) ⟨g', 7, none⟩ v7) ⟨g', 8, none⟩ v8) ⟨g', 9, none⟩ v9) : World).heap[g]? = o := by
  have e : ∀ (V : World) (i : Nat) (v : Value), (World.setCell V ⟨g', i, none⟩ v).heap[g]? = V.heap[g]? := fun V i v => Below.heap_setCell V ⟨g', i, none⟩ v g hne
  rw [e, e, e, e, e, e, e, e, e, e]
  exact h
set_option maxHeartbeats 1000000 in
theorem exec_store14 {P : Program} {a : Act} {oi : Oper} {W : World} {g : Nat} {t T : TypeId} {x y : Operand} {cs : Array Value} {v0 v1 v2 v3 v4 v5 v6 v7 v8 v9 v10 v11 v12 v13 : Value} (ho : oi.op = .store T x y) (hx : a.eval x = .pointer (some ⟨g, 0, none⟩)) (hy : a.eval y = .agg #[v0, v1, v2, v3, v4, v5, v6, v7, v8, v9, v10, v11, v12, v13])
    (h : W.heap[g]? = some (.cells cs t (0, 0))) (hs : cs.size = 14) (hi : (P.info? T).map (·.size) = some 14) (h1 : List.all [v0, v1, v2, v3, v4, v5, v6, v7, v8, v9, v10, v11, v12, v13] (fun v => v.oneCell') = true) : (execOp a.eval oi).run P W = .ok .skip (World.setCell (World.setCell (World.setCell (World.setCell (World.setCell (World.setCell (World.setCell (World.setCell (World.setCell (World.setCell (World.setCell (World.setCell (World.setCell (World.setCell W ⟨g, 0, none⟩ v0) ⟨g, 1, none⟩ v1) ⟨g, 2, none⟩ v2) ⟨g, 3, none⟩ v3) ⟨g, 4, none⟩ v4) ⟨g, 5, none⟩ v5) ⟨g, 6, none⟩ v6) ⟨g, 7, none⟩ v7) ⟨g, 8, none⟩ v8) ⟨g, 9, none⟩ v9) ⟨g, 10, none⟩ v10) ⟨g, 11, none⟩ v11) ⟨g, 12, none⟩ v12) ⟨g, 13, none⟩ v13) := by
  have e : ((World.setCell (World.setCell (World.setCell (World.setCell (World.setCell (World.setCell (World.setCell (World.setCell (World.setCell (World.setCell (World.setCell (World.setCell (World.setCell (World.setCell W ⟨g, 0, none⟩ v0) ⟨g, 1, none⟩ v1) ⟨g, 2, none⟩ v2) ⟨g, 3, none⟩ v3) ⟨g, 4, none⟩ v4) ⟨g, 5, none⟩ v5) ⟨g, 6, none⟩ v6) ⟨g, 7, none⟩ v7) ⟨g, 8, none⟩ v8) ⟨g, 9, none⟩ v9) ⟨g, 10, none⟩ v10) ⟨g, 11, none⟩ v11) ⟨g, 12, none⟩ v12) ⟨g, 13, none⟩ v13) : World) = W.setCells g 0 [v0, v1, v2, v3, v4, v5, v6, v7, v8, v9, v10, v11, v12, v13] := rfl
  have hr := run_storeAt_mid (P := P) W g 0 T #[v0, v1, v2, v3, v4, v5, v6, v7, v8, v9, v10, v11, v12, v13] (there_of h (by rw [hs]; rfl)) hi (by rw [List.all_toArray]; exact h1)
  rw [e]
  unfold execOp
  simp only [ho, hx, hy, hr, Sem.run_bind, Sem.run_pure, Result.andThen_ok]
set_option maxHeartbeats 1000000 in
theorem far14 {W : World} {g g' : Nat} {o : Option Obj} {v0 v1 v2 v3 v4 v5 v6 v7 v8 v9 v10 v11 v12 v13 : Value} (h : W.heap[g]? = o) (hne : g ≠ g') : ((World.setCell (World.setCell (World.setCell (World.setCell (World.setCell (World.setCell (World.setCell (World.setCell (World.setCell (World.setCell (World.setCell (World.setCell (World.setCell (World.setCell W ⟨g', 0, none⟩ v0) ⟨g', 1, none⟩ v1) ⟨g', 2, none⟩ v2) ⟨g', 3, none⟩ v3) ⟨g', 4, none⟩ v4) ⟨g', 5, none⟩ v5) ⟨g', 6, none⟩ v6) ⟨g', 7, none⟩ v7) ⟨g', 8, none⟩ v8) ⟨g', 9, none⟩ v9) ⟨g', 10, none⟩ v10) ⟨g', 11, none⟩ v11) ⟨g', 12, none⟩ v12) ⟨g', 13, none⟩ v13) : World).heap[g]? = o := by
  have e : ∀ (V : World) (i : Nat) (v : Value), (World.setCell V ⟨g', i, none⟩ v).heap[g]? = V.heap[g]? := fun V i v => Below.heap_setCell V ⟨g', i, none⟩ v g hne
  rw [e, e, e, e, e, e, e, e, e, e, e, e, e, e]
  exact h
theorem skip_store5 {P : Program} {ops : Array Oper} {Q : Exit → Act → World → Prop} {oi : Oper} {a : Act} {w : World} {K : Act → World → Prop} {g : Nat} {t T : TypeId} {x y : Operand} {cs : Array Value} {v0 v1 v2 v3 v4 : Value} (hw : Region.wanted oi (yielded ops a.tmps) = true) (hN : oi.dst = none) (ho : oi.op = .store T x y) (hx : a.eval x = .pointer (some ⟨g, 0, none⟩)) (hy : a.eval y = .agg #[v0, v1, v2, v3, v4])
    (h : w.heap[g]? = some (.cells cs t (0, 0))) (hs : cs.size = 5) (hi : (P.info? T).map (·.size) = some 5) (h1 : List.all [v0, v1, v2, v3, v4] (fun v => v.oneCell') = true) (hK : K a (World.setCell (World.setCell (World.setCell (World.setCell (World.setCell w ⟨g, 0, none⟩ v0) ⟨g, 1, none⟩ v1) ⟨g, 2, none⟩ v2) ⟨g, 3, none⟩ v3) ⟨g, 4, none⟩ v4)) :
    if Region.wanted oi (yielded ops a.tmps) = true then Oper.wp P oi a w K Q else K (a.put none undef) w := skip_ hw hN (exec_store5 ho hx hy h hs hi h1) hK
theorem skip_store10 {P : Program} {ops : Array Oper} {Q : Exit → Act → World → Prop} {oi : Oper} {a : Act} {w : World} {K : Act → World → Prop} {g : Nat} {t T : TypeId} {x y : Operand} {cs : Array Value} {v0 v1 v2 v3 v4 v5 v6 v7 v8 v9 : Value} (hw : Region.wanted oi (yielded ops a.tmps) = true) (hN : oi.dst = none) (ho : oi.op = .store T x y) (hx : a.eval x = .pointer (some ⟨g, 0, none⟩)) (hy : a.eval y = .agg #[v0, v1, v2, v3, v4, v5, v6, v7, v8, v9])
    (h : w.heap[g]? = some (.cells cs t (0, 0))) (hs : cs.size = 10) (hi : (P.info? T).map (·.size) = some 10) (h1 : List.all [v0, v1, v2, v3, v4, v5, v6, v7, v8, v9] (fun v => v.oneCell') = true) (hK : K a (World.setCell (World.setCell (World.setCell (World.setCell (World.setCell (World.setCell (World.setCell (World.setCell (World.setCell (World.setCell w ⟨g, 0, none⟩ v0) ⟨g, 1, none⟩ v1) ⟨g, 2, none⟩ v2) ⟨g, 3, none⟩ v3) ⟨g, 4, none⟩ v4) ⟨g, 5, none⟩ v5) ⟨g, 6, none⟩ v6) ⟨g, 7, none⟩ v7) ⟨g, 8, none⟩ v8) ⟨g, 9, none⟩ v9)) :
    if Region.wanted oi (yielded ops a.tmps) = true then Oper.wp P oi a w K Q else K (a.put none undef) w := skip_ hw hN (exec_store10 ho hx hy h hs hi h1) hK
theorem skip_store14 {P : Program} {ops : Array Oper} {Q : Exit → Act → World → Prop} {oi : Oper} {a : Act} {w : World} {K : Act → World → Prop} {g : Nat} {t T : TypeId} {x y : Operand} {cs : Array Value} {v0 v1 v2 v3 v4 v5 v6 v7 v8 v9 v10 v11 v12 v13 : Value} (hw : Region.wanted oi (yielded ops a.tmps) = true) (hN : oi.dst = none) (ho : oi.op = .store T x y) (hx : a.eval x = .pointer (some ⟨g, 0, none⟩)) (hy : a.eval y = .agg #[v0, v1, v2, v3, v4, v5, v6, v7, v8, v9, v10, v11, v12, v13])
    (h : w.heap[g]? = some (.cells cs t (0, 0))) (hs : cs.size = 14) (hi : (P.info? T).map (·.size) = some 14) (h1 : List.all [v0, v1, v2, v3, v4, v5, v6, v7, v8, v9, v10, v11, v12, v13] (fun v => v.oneCell') = true) (hK : K a (World.setCell (World.setCell (World.setCell (World.setCell (World.setCell (World.setCell (World.setCell (World.setCell (World.setCell (World.setCell (World.setCell (World.setCell (World.setCell (World.setCell w ⟨g, 0, none⟩ v0) ⟨g, 1, none⟩ v1) ⟨g, 2, none⟩ v2) ⟨g, 3, none⟩ v3) ⟨g, 4, none⟩ v4) ⟨g, 5, none⟩ v5) ⟨g, 6, none⟩ v6) ⟨g, 7, none⟩ v7) ⟨g, 8, none⟩ v8) ⟨g, 9, none⟩ v9) ⟨g, 10, none⟩ v10) ⟨g, 11, none⟩ v11) ⟨g, 12, none⟩ v12) ⟨g, 13, none⟩ v13)) :
    if Region.wanted oi (yielded ops a.tmps) = true then Oper.wp P oi a w K Q else K (a.put none undef) w := skip_ hw hN (exec_store14 ho hx hy h hs hi h1) hK
set_option maxHeartbeats 1000000 in
theorem fc5 {W : World} {g : Nat} {a : Addr} {x : Option Value} {v0 v1 v2 v3 v4 : Value} (hne : a.block ≠ g) (h : W.cell? a = x) : ((World.setCell (World.setCell (World.setCell (World.setCell (World.setCell W ⟨g, 0, none⟩ v0) ⟨g, 1, none⟩ v1) ⟨g, 2, none⟩ v2) ⟨g, 3, none⟩ v3) ⟨g, 4, none⟩ v4) : World).cell? a = x := by
  have e : ∀ (V : World) (i : Nat) (v : Value), (World.setCell V ⟨g, i, none⟩ v).cell? a = V.cell? a := fun V i v => cell_far (p := ⟨g, i, none⟩) hne v
  rw [e, e, e, e, e]
  exact h
set_option maxHeartbeats 1000000 in
theorem fc10 {W : World} {g : Nat} {a : Addr} {x : Option Value} {v0 v1 v2 v3 v4 v5 v6 v7 v8 v9 : Value} (hne : a.block ≠ g) (h : W.cell? a = x) : ((World.setCell (World.setCell (World.setCell (World.setCell (World.setCell (World.setCell (World.setCell (World.setCell (World.setCell (World.setCell W ⟨g, 0, none⟩ v0) ⟨g, 1, none⟩ v1) ⟨g, 2, none⟩ v2) ⟨g, 3, none⟩ v3) ⟨g, 4, none⟩ v4) ⟨g, 5, none⟩ v5) ⟨g, 6, none⟩ v6) ⟨g, 7, none⟩ v7) ⟨g, 8, none⟩ v8) ⟨g, 9, none⟩ v9) : World).cell? a = x := by
  have e : ∀ (V : World) (i : Nat) (v : Value), (World.setCell V ⟨g, i, none⟩ v).cell? a = V.cell? a := fun V i v => cell_far (p := ⟨g, i, none⟩) hne v
  rw [e, e, e, e, e, e, e, e, e, e]
  exact h
set_option maxHeartbeats 1000000 in
theorem fc14 {W : World} {g : Nat} {a : Addr} {x : Option Value} {v0 v1 v2 v3 v4 v5 v6 v7 v8 v9 v10 v11 v12 v13 : Value} (hne : a.block ≠ g) (h : W.cell? a = x) : ((World.setCell (World.setCell (World.setCell (World.setCell (World.setCell (World.setCell (World.setCell (World.setCell (World.setCell (World.setCell (World.setCell (World.setCell (World.setCell (World.setCell W ⟨g, 0, none⟩ v0) ⟨g, 1, none⟩ v1) ⟨g, 2, none⟩ v2) ⟨g, 3, none⟩ v3) ⟨g, 4, none⟩ v4) ⟨g, 5, none⟩ v5) ⟨g, 6, none⟩ v6) ⟨g, 7, none⟩ v7) ⟨g, 8, none⟩ v8) ⟨g, 9, none⟩ v9) ⟨g, 10, none⟩ v10) ⟨g, 11, none⟩ v11) ⟨g, 12, none⟩ v12) ⟨g, 13, none⟩ v13) : World).cell? a = x := by
  have e : ∀ (V : World) (i : Nat) (v : Value), (World.setCell V ⟨g, i, none⟩ v).cell? a = V.cell? a := fun V i v => cell_far (p := ⟨g, i, none⟩) hne v
  rw [e, e, e, e, e, e, e, e, e, e, e, e, e, e]
  exact h
end Go.Proofs.Ytihgddcaljaojaa.Q
