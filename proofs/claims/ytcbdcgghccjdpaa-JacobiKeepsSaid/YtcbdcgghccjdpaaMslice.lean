/- Arguments that are structs of whole numbers, opened: whatever the nesting, the value is a flat aggregate of numbers in range, and it leads to no memory. -/
import Derived.Test.YtcbdcgghccjdpaaProg
import Derived.WalkKit
import Derived.OpenShut
import Derived.ChangeArms
import Derived.WideShapes
import Derived.Carry
import Derived.Test.YtcbdcgghccjdpaaQ0
import Derived.DataElems
import Derived.DataReads
namespace Go.Proofs.Ytcbdcgghccjdpaa.Flat
open Go.ChangeShapes Go.WideShapes

/-- The kinds of a type's cells, if all are whole numbers that lie without gaps. -/
def flat (P : Program) : Nat → TypeId → Option (List IntKind)
  | 0, _ => none
  | n + 1, t => match P.underlying t with
    | some (.int k) => some [k]
    | some (.struct fs) => (fs.toList.foldl (fun acc f => acc.bind fun ks => if f.offset = ks.length then (flat P n f.type).bind fun k1 => if P.cellsOf f.type = k1.length then some (ks ++ k1) else none else none) (some [])).bind fun ks => if P.cellsOf t = ks.length then some ks else none
    | _ => none

def cellsOfInts (ks : List IntKind) (ns : List Int) : List Value := List.zipWith (fun k n => Value.int k n) ks ns
def AllIn : List IntKind → List Int → Prop
  | [], [] => True
  | k :: ks, n :: ns => (Lit.int k n).wf = true ∧ AllIn ks ns
  | _, _ => False

theorem AllIn.append : ∀ {k1 k2 : List IntKind} {n1 n2 : List Int}, AllIn k1 n1 → AllIn k2 n2 → AllIn (k1 ++ k2) (n1 ++ n2)
  | [], _, [], _, _, h => h
  | _ :: _, _, _ :: _, _, h, g => ⟨h.1, AllIn.append h.2 g⟩
  | [], _, _ :: _, _, h, _ => h.elim
  | _ :: _, _, [], _, h, _ => h.elim
theorem AllIn.len : ∀ {k1 : List IntKind} {n1 : List Int}, AllIn k1 n1 → k1.length = n1.length
  | [], [], _ => rfl
  | _ :: _, _ :: _, h => by simp [AllIn.len h.2]
  | [], _ :: _, h => h.elim
  | _ :: _, [], h => h.elim
theorem cells_append : ∀ {k1 k2 : List IntKind} {n1 n2 : List Int}, AllIn k1 n1 → cellsOfInts (k1 ++ k2) (n1 ++ n2) = cellsOfInts k1 n1 ++ cellsOfInts k2 n2
  | [], _, [], _, _ => rfl
  | _ :: _, k2, _ :: _, n2, h => by
    have := cells_append (k2 := k2) (n2 := n2) h.2
    simp only [cellsOfInts, List.cons_append, List.zipWith_cons_cons] at this ⊢
    rw [this]
  | [], _, _ :: _, _, h => h.elim
  | _ :: _, _, [], _, h => h.elim

section
variable {H : Type} {enc : TypeId × Value → H} {P : Program} {w : World} {base : Nat} {spare : Nat → Bool} {held : Bool}

/-- The step over one field. -/
def stepF (P : Program) (n : Nat) (acc : Option (List IntKind)) (f : Field) : Option (List IntKind) :=
  acc.bind fun ks => if f.offset = ks.length then (flat P n f.type).bind fun k1 => if P.cellsOf f.type = k1.length then some (ks ++ k1) else none else none

theorem fold_none (n : Nat) : ∀ (fl : List Field), fl.foldl (stepF P n) none = none
  | [] => rfl
  | _ :: fl => fold_none n fl

theorem fold_open (n : Nat) (ih : ∀ t ks, flat P n t = some ks → ∀ fuel cs x, DataW.trod enc P w base spare held fuel t cs = some x → x.2 = [] ∧ ∃ ns, AllIn ks ns ∧ cs = cellsOfInts ks ns) (cs : List Value) (m : Nat) :
    ∀ (fl : List Field) (ks0 ks : List IntKind) (ys : List (DataW H × List MemPlace)), fl.foldl (stepF P n) (some ks0) = some ks → ys.length = fl.length →
      (∀ (i : Nat) (f : Field), fl[i]? = some f → DataW.trod enc P w base spare held m f.type ((cs.drop f.offset).take (P.cellsOf f.type)) = ys[i]?) → cs.length = ks.length → ks0.length ≤ ks.length ∧ ys.flatMap (·.2) = [] ∧ ∃ (k2 : List IntKind) (ns : List Int), ks = ks0 ++ k2 ∧ AllIn k2 ns ∧ cs.drop ks0.length = cellsOfInts k2 ns
  | [], ks0, ks, ys, hf, hy, _, hl => by
    simp only [List.foldl_nil, Option.some.injEq] at hf
    subst hf
    have : ys = [] := List.eq_nil_of_length_eq_zero (by simpa using hy)
    subst this
    exact ⟨Nat.le_refl _, rfl, [], [], by simp, trivial, by simp [hl, cellsOfInts]⟩
  | f :: fl, ks0, ks, ys, hf, hy, ht, hl => by
    simp only [List.foldl_cons] at hf
    obtain ⟨k1, ho, h1, hc, hs⟩ : ∃ k1, f.offset = ks0.length ∧ flat P n f.type = some k1 ∧ P.cellsOf f.type = k1.length ∧ stepF P n (some ks0) f = some (ks0 ++ k1) := by
      simp only [stepF, Option.bind_some] at hf ⊢
      by_cases c1 : f.offset = ks0.length
      · rw [if_pos c1] at hf ⊢
        cases h1 : flat P n f.type with
        | none => rw [h1] at hf; simp only [Option.bind_none] at hf; rw [fold_none n fl] at hf; cases hf
        | some k1 =>
          rw [h1] at hf
          simp only [Option.bind_some] at hf ⊢
          by_cases c2 : P.cellsOf f.type = k1.length
          · exact ⟨k1, c1, rfl, c2, by rw [if_pos c2]⟩
          · rw [if_neg c2] at hf; rw [fold_none n fl] at hf; cases hf
      · rw [if_neg c1] at hf; rw [fold_none n fl] at hf; cases hf
    rw [hs] at hf
    match ys, hy with
    | y :: ys, hy =>
      have hy' : ys.length = fl.length := by simpa using hy
      have t0 := ht 0 f rfl
      simp only [List.getElem?_cons_zero] at t0
      obtain ⟨e2, ns1, a1, c1⟩ := ih f.type k1 h1 m _ y t0
      obtain ⟨r1, r2, k2, ns2, r3, r4, r5⟩ := fold_open n ih cs m fl (ks0 ++ k1) ks ys hf hy' (fun i g hg => by simpa using ht (i + 1) g (by simpa using hg)) hl
      simp only [List.length_append] at r1 r5
      refine ⟨by omega, by simp [e2, r2], k1 ++ k2, ns1 ++ ns2, by rw [r3, List.append_assoc], a1.append r4, ?_⟩
      rw [cells_append a1, ← c1, ← r5, ho, hc]
      have := List.take_append_drop k1.length (cs.drop ks0.length)
      rw [List.drop_drop] at this
      exact this.symm

theorem flat_open : ∀ (n : Nat) (t : TypeId) (ks : List IntKind), flat P n t = some ks → ∀ fuel cs x, DataW.trod enc P w base spare held fuel t cs = some x → x.2 = [] ∧ ∃ ns, AllIn ks ns ∧ cs = cellsOfInts ks ns
  | 0, _, _, h => by simp [flat] at h
  | n + 1, t, ks, h => by
    intro fuel cs x hx
    unfold flat at h
    split at h
    · rename_i k hk
      simp only [Option.some.injEq] at h
      subst h
      obtain ⟨v, rfl, rfl, hw⟩ := DataW.trod_int hk hx
      exact ⟨rfl, [v], ⟨hw, trivial⟩, rfl⟩
    · rename_i fs hs
      obtain ⟨xs, m, _, rfl, hlen, hxl, hf⟩ := DataW.trod_struct hs hx
      obtain ⟨ks', h1, h2⟩ := Option.bind_eq_some_iff.mp h
      split at h2
      · rename_i hc
        simp only [Option.some.injEq] at h2
        subst h2
        obtain ⟨_, e2, k2, ns, e3, e4, e5⟩ := fold_open n (flat_open n) cs m fs.toList [] ks' xs h1 (by simpa using hxl) (fun i f hi => hf i f (by simpa using hi)) (by rw [hlen, hc])
        simp only [List.nil_append] at e3
        subst e3
        exact ⟨e2, ns, e4, by simpa using e5⟩
      · cases h2
    · cases h

theorem open_flat {r : Reach} {b0 : Nat} {t : TypeId} {fs : Array Field} {v : Value} {d : DataW H} {p : List MemPlace} {ks : List IntKind} (n : Nat) (hs : P.underlying t = some (.struct fs)) (hk : flat P n t = some ks)
    (hv : Value.okWide P w r b0 t v) (h : DataW.Trod enc P w base spare held t v d p) : p = [] ∧ ∃ ns, AllIn ks ns ∧ v = .agg (cellsOfInts ks ns).toArray := by
  obtain ⟨cs, rfl, _⟩ := okWide_struct hs hv
  obtain ⟨fuel, hf⟩ := h
  obtain ⟨e, ns, ha, hc⟩ := flat_open n t ks hk fuel _ _ hf
  refine ⟨e, ns, ha, ?_⟩
  have : cs.toList = cellsOfInts ks ns := hc
  rw [← this]

theorem allIn_cons {k : IntKind} {ks : List IntKind} {ns : List Int} (h : AllIn (k :: ks) ns) : ∃ n ms, ns = n :: ms ∧ (Lit.int k n).wf = true ∧ AllIn ks ms := by
  match ns, h with
  | n :: ms, h => exact ⟨n, ms, rfl, h.1, h.2⟩
theorem allIn_nil {ns : List Int} (h : AllIn [] ns) : ns = [] := by
  match ns, h with
  | [], _ => rfl
theorem lt_nil {W : World} {p : List MemPlace} (h : p = []) : ∀ x ∈ p, x.block < W.heap.size := by subst h; simp
end
end Go.Proofs.Ytcbdcgghccjdpaa.Flat

namespace Go.Proofs.Ytcbdcgghccjdpaa.Flat
open Go.ChangeShapes Go.WideShapes Go.Proofs.YtcbdcgghccjdpaaW.PrintWords
set_option linter.unusedVariables false
section
variable {H : Type} {enc : TypeId × Value → H} {P : Program} {w : World} {base : Nat} {spare : Nat → Bool} {held : Bool}
theorem cells_of {a : Addr} {n : Nat} {cs : List Value} (h : w.cells? base a n = some cs) : ∀ i u, cs[i]? = some u → w.cell? (a.add i) = some u := by
  intro i u hu
  unfold World.cells? at h
  split at h
  · have hl := mapM_some_length h
    have hi : i < cs.length := (List.getElem?_eq_some_iff.mp hu).1
    rw [hl, List.length_range] at hi
    have := mapM_some_get h i i (by simp [hi])
    rw [this, hu]
  · cases h
theorem open_rows {t e : TypeId} {ks : List IntKind} (n : Nat) (ht : P.underlying t = some (.slice e)) (hk : flat P n e = some ks) (hs : P.cellsOf e = ks.length) {a : Option Addr} {len cap : Nat} {d : DataW H} {p : List MemPlace} (h : DataW.Trod enc P w base spare held t (.slice a len cap) d p) :
    ∃ zs : List (List Int), zs.length = len ∧ len ≤ cap ∧ cap ≤ maxLen ∧ (∀ ns ∈ zs, AllIn ks ns) ∧ (0 < len → ∃ ad, a = some ad ∧ ∀ j ns, zs[j]? = some ns → ∀ i u, (cellsOfInts ks ns)[i]? = some u → w.cell? (ad.add (j * ks.length + i)) = some u) := by
  obtain ⟨fuel, hf⟩ := h
  rcases DataW.trod_slice ht hf with ⟨hcs, _⟩ | ⟨ad, len', cap', elems, rest, m, _, hcs, _, hb, hl, hm, hlen, hel, _, _⟩
  · simp [Value.cells] at hcs
    obtain ⟨rfl, rfl, rfl⟩ := hcs
    exact ⟨[], rfl, by simp, by simp, by simp, fun h => absurd h (by simp)⟩
  · simp [Value.cells] at hcs
    obtain ⟨rfl, rfl, rfl⟩ := hcs
    have each : ∀ j, j < len → ∃ ns, AllIn ks ns ∧ w.cells? base (ad.add (j * ks.length)) ks.length = some (cellsOfInts ks ns) := fun j hj => by
      have h1 := hel j hj
      rw [hs, List.getElem?_eq_getElem (by omega : j < elems.length), Option.bind_eq_some_iff] at h1
      obtain ⟨cs, hc, ho⟩ := h1
      obtain ⟨_, ns, ha, rfl⟩ := flat_open n e ks hk _ _ _ ho
      exact ⟨ns, ha, hc⟩
    have ex : ∀ k, k ≤ len → ∃ zs : List (List Int), zs.length = k ∧ (∀ ns ∈ zs, AllIn ks ns) ∧ ∀ j ns, zs[j]? = some ns → w.cells? base (ad.add (j * ks.length)) ks.length = some (cellsOfInts ks ns) := fun k => by
      induction k with
      | zero => exact fun _ => ⟨[], rfl, by simp, by simp⟩
      | succ k ih =>
        intro hk'
        obtain ⟨zs, z1, z2, z3⟩ := ih (by omega)
        obtain ⟨ns, ha, hc⟩ := each k (by omega)
        refine ⟨zs ++ [ns], by simp [z1], ?_, ?_⟩
        · intro x hx
          rcases List.mem_append.mp hx with hx | hx
          · exact z2 x hx
          · rw [List.mem_singleton.mp hx]; exact ha
        · intro j x hx
          rcases Nat.lt_or_ge j zs.length with hj | hj
          · rw [List.getElem?_append_left hj] at hx
            exact z3 j x hx
          · rw [List.getElem?_append_right hj] at hx
            have hj0 : j - zs.length = 0 := by
              have := (List.getElem?_eq_some_iff.mp hx).1
              simp at this
              omega
            rw [hj0] at hx
            simp at hx
            subst hx
            rw [show j = k by omega]
            exact hc
    obtain ⟨zs, z1, z2, z3⟩ := ex len (Nat.le_refl _)
    refine ⟨zs, z1, hl, hm, z2, fun _ => ⟨ad, rfl, fun j ns hj i u hu => ?_⟩⟩
    have := cells_of (z3 j ns hj) i u hu
    rwa [Addr.add_add] at this
end
open Q
/-- All numbers of a body are of their kinds. -/
def WFB (x : S44) : Prop := (Lit.int .u32 x.f0).wf = true ∧ (Lit.int .i32 x.f1).wf = true ∧ (Lit.int .i32 x.f2.f0).wf = true ∧ (Lit.int .i32 x.f2.f1).wf = true ∧ (Lit.int .i32 x.f3).wf = true ∧ (Lit.int .i32 x.f4).wf = true ∧ (Lit.int .i32 x.f5.f0).wf = true ∧ (Lit.int .i32 x.f5.f1).wf = true ∧ (Lit.int .i32 x.f6.f0).wf = true ∧ (Lit.int .i32 x.f6.f1).wf = true
def mkB : List Int → S44
  | [a, b, c, d, e, f, g, h, i, j] => ⟨a, b, ⟨c, d⟩, e, f, ⟨g, h⟩, ⟨i, j⟩⟩
  | _ => z44
theorem mkB_cells (w : World) {ns : List Int} (h : AllIn [.u32, .i32, .i32, .i32, .i32, .i32, .i32, .i32, .i32, .i32] ns) : k44.K w (mkB ns) (cellsOfInts [.u32, .i32, .i32, .i32, .i32, .i32, .i32, .i32, .i32, .i32] ns) ∧ WFB (mkB ns) ∧ (cellsOfInts [.u32, .i32, .i32, .i32, .i32, .i32, .i32, .i32, .i32, .i32] ns).length = 10 := by
  match ns, h with
  | [a, b, c, d, e, f, g, h, i, j], hh =>
    obtain ⟨h0, h1, h2, h3, h4, h5, h6, h7, h8, h9, _⟩ := hh
    exact ⟨k44_mk w (mkB [a, b, c, d, e, f, g, h, i, j]), ⟨h0, h1, h2, h3, h4, h5, h6, h7, h8, h9⟩, rfl⟩
theorem open_bodies {H : Type} {enc : TypeId × Value → H} {w : World} {base : Nat} {spare : Nat → Bool} {held : Bool} {a : Option Addr} {len cap : Nat} {d : DataW H} {p : List MemPlace} (h : DataW.Trod enc Try.prog w base spare held 22 (.slice a len cap) d p) :
    ∃ l : List S44, l.length = len ∧ Kd.C k44 w a l.length l ∧ l.length ≤ cap ∧ ∀ x ∈ l, WFB x := by
  obtain ⟨zs, z1, z2, z3, z4, z5⟩ := open_rows (ks := [.u32, .i32, .i32, .i32, .i32, .i32, .i32, .i32, .i32, .i32]) 4 Try.underlying22 (by kernel_rfl) (by kernel_rfl) h
  refine ⟨zs.map mkB, by simp [z1], ⟨rfl, ?_, fun hp => ?_⟩, by simp [z1, z2], fun x hx => ?_⟩
  · have : maxLen = 9223372036854775807 := rfl
    simp [z1]
    omega
  · obtain ⟨ad, e, hz⟩ := z5 (by simpa [z1] using hp)
    refine ⟨ad, e, fun j q hq => ?_⟩
    rw [List.getElem?_map, Option.map_eq_some_iff] at hq
    obtain ⟨ns, hn, rfl⟩ := hq
    have hm := mkB_cells w (z4 ns (List.mem_of_getElem? hn))
    exact ⟨_, hm.2.2, hm.1, fun i u hu => hz j ns hn i u hu⟩
  · obtain ⟨ns, hn, rfl⟩ := List.mem_map.mp hx
    exact (mkB_cells w (z4 ns hn)).2.1
def WFC (x : S41) : Prop := (Lit.int .u32 x.f0.f0).wf = true ∧ (Lit.int .u32 x.f0.f1).wf = true ∧ (Lit.int .i32 x.f1.f0).wf = true ∧ (Lit.int .i32 x.f1.f1).wf = true ∧ (Lit.int .i32 x.f2).wf = true
def mkC : List Int → S41
  | [a, b, c, d, e] => ⟨⟨a, b⟩, ⟨c, d⟩, e⟩
  | _ => z41
theorem mkC_cells (w : World) {ns : List Int} (h : AllIn [.u32, .u32, .i32, .i32, .i32] ns) : k41.K w (mkC ns) (cellsOfInts [.u32, .u32, .i32, .i32, .i32] ns) ∧ WFC (mkC ns) ∧ (cellsOfInts [.u32, .u32, .i32, .i32, .i32] ns).length = 5 := by
  match ns, h with
  | [a, b, c, d, e], hh =>
    obtain ⟨h0, h1, h2, h3, h4, _⟩ := hh
    exact ⟨k41_mk w (mkC [a, b, c, d, e]), ⟨h0, h1, h2, h3, h4⟩, rfl⟩
theorem open_contacts {H : Type} {enc : TypeId × Value → H} {w : World} {base : Nat} {spare : Nat → Bool} {held : Bool} {a : Option Addr} {len cap : Nat} {d : DataW H} {p : List MemPlace} (h : DataW.Trod enc Try.prog w base spare held 23 (.slice a len cap) d p) :
    ∃ l : List S41, l.length = len ∧ Kd.C k41 w a l.length l ∧ l.length ≤ cap ∧ ∀ x ∈ l, WFC x := by
  obtain ⟨zs, z1, z2, z3, z4, z5⟩ := open_rows (ks := [.u32, .u32, .i32, .i32, .i32]) 4 Try.underlying23 (by kernel_rfl) (by kernel_rfl) h
  refine ⟨zs.map mkC, by simp [z1], ⟨rfl, ?_, fun hp => ?_⟩, by simp [z1, z2], fun x hx => ?_⟩
  · have : maxLen = 9223372036854775807 := rfl
    simp [z1]
    omega
  · obtain ⟨ad, e, hz⟩ := z5 (by simpa [z1] using hp)
    refine ⟨ad, e, fun j q hq => ?_⟩
    rw [List.getElem?_map, Option.map_eq_some_iff] at hq
    obtain ⟨ns, hn, rfl⟩ := hq
    have hm := mkC_cells w (z4 ns (List.mem_of_getElem? hn))
    exact ⟨_, hm.2.2, hm.1, fun i u hu => hz j ns hn i u hu⟩
  · obtain ⟨ns, hn, rfl⟩ := List.mem_map.mp hx
    exact (mkC_cells w (z4 ns hn)).2.1
end Go.Proofs.Ytcbdcgghccjdpaa.Flat
