/- No body is closer to the point than the closest one, and none with a lesser key is as close. -/
import Derived.Test.YtabcnaceffpekaaQQueryClosest
import Derived.Test.YtabcnaceffpekaaMquery
namespace Go.Proofs.Ytabcnaceffpekaa.Pure
open Go.RowKit Go.Proofs.Ytabcnaceffpekaa.Q Go.Proofs.YtabcnaceffpekaaW.PrintWords Go.Proofs.YtabcnaceffpekaaW.PrintLast Go.Proofs.YtabcnaceffpekaaW.PrintMore
set_option linter.unusedVariables false
def foldC (g : Bd → Int) : List Bd → Int × Int × Bool → Int × Int × Bool
  | [], s => s
  | b :: l, s => foldC g l (stepC s b.f0 (g b))
theorem closL_is (F : Bd → Option Int) (g : Bd → Int) : ∀ (l : List Bd) (s : Int × Int × Bool), (∀ b ∈ l, F b = some (g b)) → closL F l s = some (foldC g l s)
  | [], _, _ => rfl
  | b :: l, s, h => by
    unfold closL
    rw [h b (by simp)]
    simp only [Option.bind_some]
    rw [closL_is F g l _ (fun x hx => h x (List.mem_cons_of_mem _ hx))]
    rfl
structure Clo (g : Bd → Int) (l : List Bd) (s r : Int × Int × Bool) : Prop where
  nil : s.2.2 = false → l = [] → r = s
  ok : s.2.2 = true ∨ l ≠ [] → r.2.2 = true
  wit : (s.2.2 = true ∧ r = s) ∨ (∃ b ∈ l, b.f0 = r.1 ∧ g b = r.2.1) ∨ (s.2.2 = false ∧ l = [])
  all : ∀ b ∈ l, r.2.1 ≤ g b ∧ (g b = r.2.1 → r.1 ≤ b.f0)
  old : s.2.2 = true → r.2.1 ≤ s.2.1 ∧ (s.2.1 = r.2.1 → r.1 ≤ s.1)
theorem foldC_is (g : Bd → Int) : ∀ (l : List Bd) (s : Int × Int × Bool), Rise l → (s.2.2 = true → ∀ b ∈ l, s.1 < b.f0) → Clo g l s (foldC g l s)
  | [], s, _, _ => ⟨fun _ _ => rfl, fun h => by rcases h with h | h; exact h; exact absurd rfl h, by
      cases h : s.2.2
      · exact Or.inr (Or.inr ⟨rfl, rfl⟩)
      · exact Or.inl ⟨rfl, rfl⟩, fun b hb => by simp at hb, fun _ => ⟨Int.le_refl _, fun _ => Int.le_refl _⟩⟩
  | b :: l, s, hr, hs => by
    obtain ⟨h1, h2⟩ := List.pairwise_cons.mp hr
    have hb := hs
    by_cases c : s.2.2 = false ∨ g b < s.2.1
    · have e : stepC s b.f0 (g b) = (b.f0, g b, true) := if_pos c
      have ih := foldC_is g l (b.f0, g b, true) h2 (fun _ x hx => h1 x hx)
      have hf : foldC g (b :: l) s = foldC g l (b.f0, g b, true) := by show foldC g l (stepC s b.f0 (g b)) = _; rw [e]
      rw [hf]
      obtain ⟨i1, i2, i3, i4, i5⟩ := ih
      generalize foldC g l (b.f0, g b, true) = r at *
      have i5' := i5 rfl
      simp only at i5'
      refine ⟨fun _ h => by simp at h, fun _ => i2 (Or.inl rfl), ?_, fun x hx => ?_, fun hok => ?_⟩
      · rcases i3 with ⟨_, h⟩ | ⟨x, hx, h⟩ | ⟨h, _⟩
        · exact Or.inr (Or.inl ⟨b, by simp, by rw [h], by rw [h]⟩)
        · exact Or.inr (Or.inl ⟨x, List.mem_cons_of_mem _ hx, h⟩)
        · cases h
      · rcases List.mem_cons.mp hx with rfl | hx
        · exact i5'
        · exact i4 x hx
      · rcases c with c | c
        · rw [c] at hok; cases hok
        · exact ⟨by omega, fun h => by omega⟩
    · have e : stepC s b.f0 (g b) = s := if_neg c
      have hok : s.2.2 = true := by cases h : s.2.2; exact absurd (Or.inl h) c; rfl
      have hge : s.2.1 ≤ g b := by
        by_cases h : g b < s.2.1
        · exact absurd (Or.inr h) c
        · omega
      have ih := foldC_is g l s h2 (fun h x hx => hs h x (List.mem_cons_of_mem _ hx))
      have hf : foldC g (b :: l) s = foldC g l s := by show foldC g l (stepC s b.f0 (g b)) = _; rw [e]
      rw [hf]
      obtain ⟨i1, i2, i3, i4, i5⟩ := ih
      have hlt := hs hok b (by simp)
      have i5' := i5 hok
      refine ⟨fun _ h => by simp at h, fun _ => i2 (Or.inl hok), ?_, fun x hx => ?_, i5⟩
      · rcases i3 with h | ⟨x, hx, h⟩ | ⟨h, _⟩
        · exact Or.inl h
        · exact Or.inr (Or.inl ⟨x, List.mem_cons_of_mem _ hx, h⟩)
        · rw [hok] at h; cases h
      · rcases List.mem_cons.mp hx with rfl | hx
        · exact ⟨by omega, fun h => by have := i5'.2 (by omega); omega⟩
        · exact i4 x hx
theorem closest_l0 {v : List Bd} (hv : Vw 40 v) {c0 c1 : Int} (h0 : InB c0) (h1 : InB c1) (key d : Int) (ha : ∀ b ∈ v, d ≤ dst c0 c1 b ∧ (dst c0 c1 b = d → key ≤ b.f0)) : ∀ (n k i : Nat), v.length - i = n → i ≤ v.length → n + 40 < k → billiardlaw24_QueryClosest.l0 k v key d (i : Int) c0 c1 = some true := fun n => by
  have hvl := hv.len
  induction n with
  | zero =>
    intro k i hd hi hk
    obtain ⟨k, rfl⟩ : ∃ j, k = j + 1 := ⟨k - 1, by omega⟩
    rw [billiardlaw24_QueryClosest.l0, if_neg (by omega)]
  | succ n ih =>
    intro k i hd hi hk
    obtain ⟨k, rfl⟩ : ∃ j, k = j + 1 := ⟨k - 1, by omega⟩
    have hlt : i < v.length := by omega
    have hm := List.getElem_mem hlt
    have hb := (hv.good _ hm).1
    have hx := ha _ hm
    rw [billiardlaw24_QueryClosest.l0, if_pos (by omega), if_pos (by omega), rdB hlt, ((dst_is hb h0 h1).2 k (by omega)).2]
    simp only [Option.bind_some]
    rw [if_neg (by omega), step_ix hlt (by omega)]
    by_cases c : dst c0 c1 v[i] = d
    · rw [if_pos c, if_neg (by have := hx.2 c; omega)]
      exact ih k (i + 1) (by omega) (by omega) (by omega)
    · rw [if_neg c]
      exact ih k (i + 1) (by omega) (by omega) (by omega)
theorem QueryClosest : billiardlaw24_QueryClosest.Pure := by
  intro l0 p0 p1 h0 w0 w1
  obtain ⟨v, ok, hV, hv⟩ := view_is l0 h0
  have hvl := hv.len
  have hend : ∀ k, 200 ≤ k → billiardlaw24_QueryClosest.j0 (k + 1) v true p0 p1 = some true := fun k hk => by
    rw [billiardlaw24_QueryClosest.j0, if_pos rfl, awake24 _ hk]
    rfl
  refine ⟨998 + 1 + 1, ?_⟩
  unfold billiardlaw24_QueryClosest.f
  rw [hV _ (by omega)]
  simp only [Option.bind_some]
  rw [awake24 _ (by omega)]
  simp only [Option.bind_some]
  rw [if_pos trivial]
  by_cases hok : ok = true
  rotate_left
  · rw [if_neg hok]
    exact hend 999 (by omega)
  rw [if_pos hok]
  rcases In_cases p0 p1 with ⟨e, hp0, hp1⟩ | e
  rotate_left
  · rw [e]
    exact hend 999 (by omega)
  rw [e]
  simp only [Option.bind_some, Bool.not_true]
  have hC : query_Closest.f v p0 p1 = some (foldC (dst p0 p1) v (0, 0, false)) := by
    unfold query_Closest.f
    rw [if_pos (by omega)]
    exact closL_is _ _ v _ (fun b hb => ((dst_is (hv.good b hb).1 hp0 hp1).2 200 (by omega)).1)
  obtain ⟨i1, i2, i3, i4, i5⟩ := foldC_is (dst p0 p1) v (0, 0, false) hv.rise (fun h => by cases h)
  rw [billiardlaw24_QueryClosest.j0, if_neg (by decide), hC]
  simp only [Option.bind_some]
  generalize foldC (dst p0 p1) v (0, 0, false) = r at *
  by_cases hv0 : v = []
  · have hr := i1 rfl hv0
    subst hr
    subst hv0
    rfl
  · have hrt := i2 (Or.inr hv0)
    rw [hrt, if_pos rfl]
    rcases i3 with ⟨h, _⟩ | ⟨b, hb, hk, hg⟩ | ⟨_, h⟩
    · cases h
    · obtain ⟨i, hi, rfl⟩ := List.getElem_of_mem hb
      have hvb := (hv.good _ hb).1
      rw [find_is v _ (by omega) (by omega), ixOf_at hv.rise hi hk]
      simp only [Option.bind_some]
      rw [if_neg (by omega), if_pos (by omega), if_pos (by omega), rdB hi, ((dst_is hvb hp0 hp1).2 (998 + 1) (by omega)).2]
      simp only [Option.bind_some]
      rw [hg, show (r.2.1 != r.2.1) = false from bne_self_eq_false _, billiardlaw24_QueryClosest.j1, if_neg (by decide)]
      exact closest_l0 hv hp0 hp1 r.1 r.2.1 i4 v.length 998 0 (by omega) (by omega) (by omega)
    · exact absurd h hv0
end Go.Proofs.Ytabcnaceffpekaa.Pure
