/- From the condition of a tied row ('laidMetH') to the facts that the walks ask of the listed package variables. -/
import Derived.Test.YticjhncpglcgnaaDoorRows
import Derived.Test.YticjhncpglcgnaaDoorMglob
import Derived.LaidLaws
import Derived.LaidMore
import Derived.LaidHandle
import Derived.MakeChecks
import Derived.FnData
import Derived.ChangeArms
import Derived.OpenShut
namespace Go.Proofs.YticjhncpglcgnaaDoor.Laid
open Go.ChangeShapes Go.WideShapes Go.RowKit
set_option linter.unusedVariables false
set_option linter.unusedSimpArgs false
/-- What the list says of one of its variables. -/
theorem of_list {P : Program} {w : World} {n : String} {d : DataW Unit} : ∀ {l : List (String × DataW Unit)} {ps : List MemPlace}, DataW.LaidVars P w l ps → (n, d) ∈ l →
    ∃ g t cs fuel p, P.globalNamed n = some g ∧ (P.globals[g]?).map (·.type) = some t ∧ w.var? P n = some cs ∧ DataW.trod (fun _ => ()) P w 0 (fun _ => true) false fuel t cs.toList = some (d, p) ∧ ∀ x ∈ MemPlace.row ⟨g, 0, none⟩ cs.size, x ∈ ps
  | [], _, _, h => absurd h (by simp)
  | (m, e) :: r, ps, ⟨g, t, cs, fuel, p, q, h1, h2, h3, h4, h5, h6⟩, h => by
    subst h6
    rcases List.mem_cons.1 h with h | h
    · obtain ⟨rfl, rfl⟩ := Prod.mk.inj h
      exact ⟨g, t, cs, fuel, p, h1, h2, h3, h4, fun x hx => by simp [hx]⟩
    · obtain ⟨g', t', cs', fuel', p', k1, k2, k3, k4, k5⟩ := of_list h5 h
      exact ⟨g', t', cs', fuel', p', k1, k2, k3, k4, fun x hx => by simp [k5 x hx]⟩
/-- The block of a listed variable: its cells, in a row that may be written. -/
theorem block {P : Program} {w : World} {l : List (String × DataW Unit)} {n : String} {d : DataW Unit} (h : laidMet P l w) (hm : (n, d) ∈ l) :
    ∃ g t cs fuel p, P.globalNamed n = some g ∧ (P.globals[g]?).map (·.type) = some t ∧ DataW.trod (fun _ => ()) P w 0 (fun _ => true) false fuel t cs.toList = some (d, p) ∧ (0 < cs.size → ∃ t', w.heap[g]? = some (.cells cs t' (0, 0))) := by
  obtain ⟨ps, hl, _, hr⟩ := h
  obtain ⟨g, t, cs, fuel, p, h1, h2, h3, h4, h5⟩ := of_list hl hm
  refine ⟨g, t, cs, fuel, p, h1, h2, h4, fun hs => ?_⟩
  have hx : MemPlace.cell g 0 ∈ MemPlace.row ⟨g, 0, none⟩ cs.size := by
    simp [MemPlace.row]
    omega
  obtain ⟨c, t', hc⟩ := (hr g 0 (h5 _ hx)).1
  refine ⟨t', ?_⟩
  simp only [World.var?, h1, Option.bind_some, hc, Option.some.injEq] at h3
  rw [← h3]
  exact hc
theorem none_of_trod {w : World} {fuel : Nat} {cs : List Value} {p : List MemPlace} (h : DataW.trod (fun _ => ()) Tryd.prog w 0 (fun _ => true) false fuel 33 cs = some (.agg [.lit (.int .i32 1), .lit (.int .i32 0), .lit (.int .i32 0), .lit (.int .i32 0)], p)) :
    cs = [.int .i32 1, .int .i32 0, .int .i32 0, .int .i32 0] := by
  obtain ⟨xs, m, rfl, hx, hl, hn, hf⟩ := DataW.trod_struct Tryd.underlying33 h
  have hl : cs.length = 4 := hl.trans (by kernel_rfl)
  have hn : xs.length = 4 := hn
  match cs, xs, hl, hn, hx, hf with
  | [c0, c1, c2, c3], [x0, x1, x2, x3], _, _, hx, hf =>
    have c4 : Tryd.prog.cellsOf 21 = 1 := by kernel_rfl
    simp only [Prod.mk.injEq, DataW.agg.injEq, List.map_cons, List.map_nil, List.cons.injEq, and_true] at hx
    obtain ⟨⟨e0, e1, e2, e3⟩, _⟩ := hx
    have h0 : DataW.trod (fun _ => ()) Tryd.prog w 0 (fun _ => true) false m 21 (([c0, c1, c2, c3].drop 0).take (Tryd.prog.cellsOf 21)) = some x0 := hf 0 _ rfl
    have h1 : DataW.trod (fun _ => ()) Tryd.prog w 0 (fun _ => true) false m 21 (([c0, c1, c2, c3].drop 1).take (Tryd.prog.cellsOf 21)) = some x1 := hf 1 _ rfl
    have h2 : DataW.trod (fun _ => ()) Tryd.prog w 0 (fun _ => true) false m 21 (([c0, c1, c2, c3].drop 2).take (Tryd.prog.cellsOf 21)) = some x2 := hf 2 _ rfl
    have h3 : DataW.trod (fun _ => ()) Tryd.prog w 0 (fun _ => true) false m 21 (([c0, c1, c2, c3].drop 3).take (Tryd.prog.cellsOf 21)) = some x3 := hf 3 _ rfl
    rw [c4] at h0 h1 h2 h3
    simp only [List.drop_zero, List.drop_succ_cons, List.take_succ_cons, List.take_zero] at h0 h1 h2 h3
    obtain ⟨k0, a0, b0, _⟩ := DataW.trod_int Tryd.underlying21 h0
    obtain ⟨k1, a1, b1, _⟩ := DataW.trod_int Tryd.underlying21 h1
    obtain ⟨k2, a2, b2, _⟩ := DataW.trod_int Tryd.underlying21 h2
    obtain ⟨k3, a3, b3, _⟩ := DataW.trod_int Tryd.underlying21 h3
    subst b0 b1 b2 b3
    simp only [DataW.lit.injEq, Lit.int.injEq, true_and] at e0 e1 e2 e3
    simp only [List.cons.injEq, and_true] at a0 a1 a2 a3
    subst e0 e1 e2 e3 a0 a1 a2 a3
    rfl
theorem globN {l : List (String × DataW Unit)} {w : World} (hp : (l.all fun x => x.2.handleName?.isNone) = true) (hm : ("billiard/box.none", (Rows.laid_billiard_box_none : DataW Unit)) ∈ l) (h : laidMetH Tryd.prog l w) : Q.GlobN w := by
  rw [MakeChecks.laidMetH_plain _ _ _ hp] at h
  obtain ⟨g, t, cs, fuel, p, h1, h2, h3, h4⟩ := block h hm
  obtain rfl := Option.some.inj ((show Tryd.prog.globalNamed "billiard/box.none" = some 1 by kernel_rfl).symm.trans h1)
  obtain rfl := Option.some.inj ((show (Tryd.prog.globals[1]?).map (·.type) = some 33 by kernel_rfl).symm.trans h2)
  have e := none_of_trod h3
  obtain ⟨l⟩ := cs
  simp only at e
  subst e
  exact h4 (by simp)
theorem factors_of_trod {w : World} {fuel : Nat} {cs : List Value} {p : List MemPlace} (h : DataW.trod (fun _ => ()) Tryd.prog w 0 (fun _ => true) false fuel 60 cs = some (.agg [.lit (.int .u32 73856093), .lit (.int .u32 19349663)], p)) :
    cs = [.int .u32 73856093, .int .u32 19349663] := by
  obtain ⟨xs, m, rfl, hx, hl, hn, hf⟩ := DataW.trod_array Tryd.underlying60 h
  have hl : cs.length = 2 := hl.trans (by kernel_rfl)
  have hn : xs.length = 2 := hn
  match cs, xs, hl, hn, hx, hf with
  | [c0, c1], [x0, x1], _, _, hx, hf =>
    have c4 : Tryd.prog.cellsOf 46 = 1 := by kernel_rfl
    simp only [Prod.mk.injEq, DataW.agg.injEq, List.map_cons, List.map_nil, List.cons.injEq, and_true] at hx
    obtain ⟨⟨e0, e1⟩, _⟩ := hx
    have h0 : DataW.trod (fun _ => ()) Tryd.prog w 0 (fun _ => true) false m 46 (([c0, c1].drop (0 * Tryd.prog.cellsOf 46)).take (Tryd.prog.cellsOf 46)) = some x0 := hf 0 (by decide)
    have h1 : DataW.trod (fun _ => ()) Tryd.prog w 0 (fun _ => true) false m 46 (([c0, c1].drop (1 * Tryd.prog.cellsOf 46)).take (Tryd.prog.cellsOf 46)) = some x1 := hf 1 (by decide)
    rw [c4] at h0 h1
    simp only [List.drop_zero, Nat.zero_mul, Nat.one_mul, List.drop_succ_cons, List.take_succ_cons, List.take_zero] at h0 h1
    obtain ⟨k0, a0, b0, _⟩ := DataW.trod_int Tryd.underlying46 h0
    obtain ⟨k1, a1, b1, _⟩ := DataW.trod_int Tryd.underlying46 h1
    subst b0 b1
    simp only [DataW.lit.injEq, Lit.int.injEq, true_and] at e0 e1
    simp only [List.cons.injEq, and_true] at a0 a1
    subst e0 e1 a0 a1
    rfl
theorem globF {l : List (String × DataW Unit)} {w : World} (hp : (l.all fun x => x.2.handleName?.isNone) = true) (hm : ("billiard/cell.factors", (Rows.laid_billiard_cell_factors : DataW Unit)) ∈ l) (h : laidMetH Tryd.prog l w) : Q.GlobF w := by
  rw [MakeChecks.laidMetH_plain _ _ _ hp] at h
  obtain ⟨g, t, cs, fuel, p, h1, h2, h3, h4⟩ := block h hm
  obtain rfl := Option.some.inj ((show Tryd.prog.globalNamed "billiard/cell.factors" = some 0 by kernel_rfl).symm.trans h1)
  obtain rfl := Option.some.inj ((show (Tryd.prog.globals[0]?).map (·.type) = some 60 by kernel_rfl).symm.trans h2)
  have e := factors_of_trod h3
  obtain ⟨l⟩ := cs
  simp only at e
  subst e
  exact h4 (by simp)
end Go.Proofs.YticjhncpglcgnaaDoor.Laid
