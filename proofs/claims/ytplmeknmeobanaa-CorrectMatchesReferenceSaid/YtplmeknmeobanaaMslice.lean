/- Arguments that are slices of bodies or of contacts, opened as lists. -/
import Derived.Test.YtplmeknmeobanaaQ0
import Derived.Test.YtplmeknmeobanaaMflat
import Derived.DataElems
import Derived.DataReads
namespace Go.Proofs.Ytplmeknmeobanaa.Flat
open Go.ChangeShapes Go.WideShapes Go.Proofs.YtplmeknmeobanaaW.PrintWords
set_option linter.unusedVariables false
section
variable {H : Type} {enc : TypeId × Value → H} {P : Program} {w : World} {base : Nat} {spare : Nat → Bool} {held : Bool}
theorem cells_of {a : Addr} {n : Nat} {cs : List Value} (h : w.cells? base a n = some cs) : ∀ i u, cs[i]? = some u → w.cell? (a.add i) = some u := by
  intro i u hu
  unfold World.cells? at h
  split at h
  · have hl := mapM_some_length h
    have hi : i < cs.length := (List.getElem?_eq_some_iff.mp hu).1
    rw [hl, List.length_range] at hi
    have := mapM_some_get h i i (by simp [hi])
    rw [this, hu]
  · cases h
theorem open_rows {t e : TypeId} {ks : List IntKind} (n : Nat) (ht : P.underlying t = some (.slice e)) (hk : flat P n e = some ks) (hs : P.cellsOf e = ks.length) {a : Option Addr} {len cap : Nat} {d : DataW H} {p : List MemPlace} (h : DataW.Trod enc P w base spare held t (.slice a len cap) d p) :
    ∃ zs : List (List Int), zs.length = len ∧ len ≤ cap ∧ cap ≤ maxLen ∧ (∀ ns ∈ zs, AllIn ks ns) ∧ (0 < len → ∃ ad, a = some ad ∧ ∀ j ns, zs[j]? = some ns → ∀ i u, (cellsOfInts ks ns)[i]? = some u → w.cell? (ad.add (j * ks.length + i)) = some u) := by
  obtain ⟨fuel, hf⟩ := h
  rcases DataW.trod_slice ht hf with ⟨hcs, _⟩ | ⟨ad, len', cap', elems, rest, m, _, hcs, _, hb, hl, hm, hlen, hel, _, _⟩
  · simp [Value.cells] at hcs
    obtain ⟨rfl, rfl, rfl⟩ := hcs
    exact ⟨[], rfl, by simp, by simp, by simp, fun h => absurd h (by simp)⟩
  · simp [Value.cells] at hcs
    obtain ⟨rfl, rfl, rfl⟩ := hcs
    have each : ∀ j, j < len → ∃ ns, AllIn ks ns ∧ w.cells? base (ad.add (j * ks.length)) ks.length = some (cellsOfInts ks ns) := fun j hj => by
      have h1 := hel j hj
      rw [hs, List.getElem?_eq_getElem (by omega : j < elems.length), Option.bind_eq_some_iff] at h1
      obtain ⟨cs, hc, ho⟩ := h1
      obtain ⟨_, ns, ha, rfl⟩ := flat_open n e ks hk _ _ _ ho
      exact ⟨ns, ha, hc⟩
    have ex : ∀ k, k ≤ len → ∃ zs : List (List Int), zs.length = k ∧ (∀ ns ∈ zs, AllIn ks ns) ∧ ∀ j ns, zs[j]? = some ns → w.cells? base (ad.add (j * ks.length)) ks.length = some (cellsOfInts ks ns) := fun k => by
      induction k with
      | zero => exact fun _ => ⟨[], rfl, by simp, by simp⟩
      | succ k ih =>
        intro hk'
        obtain ⟨zs, z1, z2, z3⟩ := ih (by omega)
        obtain ⟨ns, ha, hc⟩ := each k (by omega)
        refine ⟨zs ++ [ns], by simp [z1], ?_, ?_⟩
        · intro x hx
          rcases List.mem_append.mp hx with hx | hx
          · exact z2 x hx
          · rw [List.mem_singleton.mp hx]; exact ha
        · intro j x hx
          rcases Nat.lt_or_ge j zs.length with hj | hj
          · rw [List.getElem?_append_left hj] at hx
            exact z3 j x hx
          · rw [List.getElem?_append_right hj] at hx
            have hj0 : j - zs.length = 0 := by
              have := (List.getElem?_eq_some_iff.mp hx).1
              simp at this
              omega
            rw [hj0] at hx
            simp at hx
            subst hx
            rw [show j = k by omega]
            exact hc
    obtain ⟨zs, z1, z2, z3⟩ := ex len (Nat.le_refl _)
    refine ⟨zs, z1, hl, hm, z2, fun _ => ⟨ad, rfl, fun j ns hj i u hu => ?_⟩⟩
    have := cells_of (z3 j ns hj) i u hu
    rwa [Addr.add_add] at this
end
open Q
/-- All numbers of a body are of their kinds. -/
def WFB (x : S32) : Prop := (Lit.int .u32 x.f0).wf = true ∧ (Lit.int .i32 x.f1).wf = true ∧ (Lit.int .i32 x.f2.f0).wf = true ∧ (Lit.int .i32 x.f2.f1).wf = true ∧ (Lit.int .i32 x.f3).wf = true ∧ (Lit.int .i32 x.f4).wf = true ∧ (Lit.int .i32 x.f5.f0).wf = true ∧ (Lit.int .i32 x.f5.f1).wf = true ∧ (Lit.int .i32 x.f6.f0).wf = true ∧ (Lit.int .i32 x.f6.f1).wf = true
def mkB : List Int → S32
  | [a, b, c, d, e, f, g, h, i, j] => ⟨a, b, ⟨c, d⟩, e, f, ⟨g, h⟩, ⟨i, j⟩⟩
  | _ => z32
theorem mkB_cells (w : World) {ns : List Int} (h : AllIn [.u32, .i32, .i32, .i32, .i32, .i32, .i32, .i32, .i32, .i32] ns) : k32.K w (mkB ns) (cellsOfInts [.u32, .i32, .i32, .i32, .i32, .i32, .i32, .i32, .i32, .i32] ns) ∧ WFB (mkB ns) ∧ (cellsOfInts [.u32, .i32, .i32, .i32, .i32, .i32, .i32, .i32, .i32, .i32] ns).length = 10 := by
  match ns, h with
  | [a, b, c, d, e, f, g, h, i, j], hh =>
    obtain ⟨h0, h1, h2, h3, h4, h5, h6, h7, h8, h9, _⟩ := hh
    exact ⟨k32_mk w (mkB [a, b, c, d, e, f, g, h, i, j]), ⟨h0, h1, h2, h3, h4, h5, h6, h7, h8, h9⟩, rfl⟩
theorem open_bodies {H : Type} {enc : TypeId × Value → H} {w : World} {base : Nat} {spare : Nat → Bool} {held : Bool} {a : Option Addr} {len cap : Nat} {d : DataW H} {p : List MemPlace} (h : DataW.Trod enc Try.prog w base spare held 22 (.slice a len cap) d p) :
    ∃ l : List S32, l.length = len ∧ Kd.C k32 w a l.length l ∧ l.length ≤ cap ∧ ∀ x ∈ l, WFB x := by
  obtain ⟨zs, z1, z2, z3, z4, z5⟩ := open_rows (ks := [.u32, .i32, .i32, .i32, .i32, .i32, .i32, .i32, .i32, .i32]) 4 Try.underlying22 (by kernel_rfl) (by kernel_rfl) h
  refine ⟨zs.map mkB, by simp [z1], ⟨rfl, ?_, fun hp => ?_⟩, by simp [z1, z2], fun x hx => ?_⟩
  · have : maxLen = 9223372036854775807 := rfl
    simp [z1]
    omega
  · obtain ⟨ad, e, hz⟩ := z5 (by simpa [z1] using hp)
    refine ⟨ad, e, fun j q hq => ?_⟩
    rw [List.getElem?_map, Option.map_eq_some_iff] at hq
    obtain ⟨ns, hn, rfl⟩ := hq
    have hm := mkB_cells w (z4 ns (List.mem_of_getElem? hn))
    exact ⟨_, hm.2.2, hm.1, fun i u hu => hz j ns hn i u hu⟩
  · obtain ⟨ns, hn, rfl⟩ := List.mem_map.mp hx
    exact (mkB_cells w (z4 ns hn)).2.1
def WFC (x : S37) : Prop := (Lit.int .u32 x.f0.f0).wf = true ∧ (Lit.int .u32 x.f0.f1).wf = true ∧ (Lit.int .i32 x.f1.f0).wf = true ∧ (Lit.int .i32 x.f1.f1).wf = true ∧ (Lit.int .i32 x.f2).wf = true
def mkC : List Int → S37
  | [a, b, c, d, e] => ⟨⟨a, b⟩, ⟨c, d⟩, e⟩
  | _ => z37
theorem mkC_cells (w : World) {ns : List Int} (h : AllIn [.u32, .u32, .i32, .i32, .i32] ns) : k37.K w (mkC ns) (cellsOfInts [.u32, .u32, .i32, .i32, .i32] ns) ∧ WFC (mkC ns) ∧ (cellsOfInts [.u32, .u32, .i32, .i32, .i32] ns).length = 5 := by
  match ns, h with
  | [a, b, c, d, e], hh =>
    obtain ⟨h0, h1, h2, h3, h4, _⟩ := hh
    exact ⟨k37_mk w (mkC [a, b, c, d, e]), ⟨h0, h1, h2, h3, h4⟩, rfl⟩
theorem open_contacts {H : Type} {enc : TypeId × Value → H} {w : World} {base : Nat} {spare : Nat → Bool} {held : Bool} {a : Option Addr} {len cap : Nat} {d : DataW H} {p : List MemPlace} (h : DataW.Trod enc Try.prog w base spare held 23 (.slice a len cap) d p) :
    ∃ l : List S37, l.length = len ∧ Kd.C k37 w a l.length l ∧ l.length ≤ cap ∧ ∀ x ∈ l, WFC x := by
  obtain ⟨zs, z1, z2, z3, z4, z5⟩ := open_rows (ks := [.u32, .u32, .i32, .i32, .i32]) 4 Try.underlying23 (by kernel_rfl) (by kernel_rfl) h
  refine ⟨zs.map mkC, by simp [z1], ⟨rfl, ?_, fun hp => ?_⟩, by simp [z1, z2], fun x hx => ?_⟩
  · have : maxLen = 9223372036854775807 := rfl
    simp [z1]
    omega
  · obtain ⟨ad, e, hz⟩ := z5 (by simpa [z1] using hp)
    refine ⟨ad, e, fun j q hq => ?_⟩
    rw [List.getElem?_map, Option.map_eq_some_iff] at hq
    obtain ⟨ns, hn, rfl⟩ := hq
    have hm := mkC_cells w (z4 ns (List.mem_of_getElem? hn))
    exact ⟨_, hm.2.2, hm.1, fun i u hu => hz j ns hn i u hu⟩
  · obtain ⟨ns, hn, rfl⟩ := List.mem_map.mp hx
    exact (mkC_cells w (z4 ns hn)).2.1
end Go.Proofs.Ytplmeknmeobanaa.Flat
