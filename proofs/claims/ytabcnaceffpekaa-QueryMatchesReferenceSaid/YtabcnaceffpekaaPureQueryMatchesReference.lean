/- The distances, what a point is in, and the lists of keys are the reference's. -/
import Derived.Test.YtabcnaceffpekaaQQueryMatchesReference
import Derived.Test.YtabcnaceffpekaaMquery
namespace Go.Proofs.Ytabcnaceffpekaa.Pure
open Go.RowKit Go.Proofs.Ytabcnaceffpekaa.Q Go.Proofs.YtabcnaceffpekaaW.PrintWords Go.Proofs.YtabcnaceffpekaaW.PrintLast Go.Proofs.YtabcnaceffpekaaW.PrintMore
set_option linter.unusedVariables false
theorem rdJ {l : List Int} {i : Nat} (h : i < l.length) : rd l (i : Int) = l[i] := by
  unfold rd
  simp [List.getD, h]
theorem keys_l0 (v : List Int) (hv : v.length ≤ 1000) : ∀ (d k i : Nat), v.length - i = d → i ≤ v.length → d < k → billiardref07_Keys.l0 k v v (i : Int) = some true := fun d => by
  induction d with
  | zero =>
    intro k i hd hi hk
    obtain ⟨k, rfl⟩ : ∃ j, k = j + 1 := ⟨k - 1, by omega⟩
    rw [billiardref07_Keys.l0, if_neg (by omega)]
  | succ d ih =>
    intro k i hd hi hk
    obtain ⟨k, rfl⟩ : ∃ j, k = j + 1 := ⟨k - 1, by omega⟩
    have hlt : i < v.length := by omega
    rw [billiardref07_Keys.l0, if_pos (by omega), if_pos (by omega), if_pos (by omega), if_pos rfl, step_ix hlt (by omega)]
    exact ih k (i + 1) (by omega) (by omega) (by omega)
theorem keys_is (v : List Int) (hv : v.length ≤ 1000) {k : Nat} (hk : v.length < k) : billiardref07_Keys.f k v v = some true := by
  unfold billiardref07_Keys.f
  rw [if_pos rfl]
  exact keys_l0 v hv v.length k 0 (by omega) (by omega) hk
theorem refAt_l0 {v : List Bd} (hv : Vw 40 v) {c0 c1 : Int} (h0 : InB c0) (h1 : InB c1) : ∀ (d k i : Nat) (acc : List Int), v.length - i = d → i ≤ v.length → d < k → acc.length + d ≤ 1000 → billiardref24_At.l0 k v acc (i : Int) c0 c1 = some (acc ++ ((v.drop i).filter (inQ c0 c1)).map (fun b => b.f0)) := fun d => by
  have hvl := hv.len
  induction d with
  | zero =>
    intro k i acc hd hi hk ha
    obtain ⟨k, rfl⟩ : ∃ j, k = j + 1 := ⟨k - 1, by omega⟩
    rw [billiardref24_At.l0, if_neg (by omega), List.drop_eq_nil_of_le (by omega)]
    simp
  | succ d ih =>
    intro k i acc hd hi hk ha
    obtain ⟨k, rfl⟩ : ∃ j, k = j + 1 := ⟨k - 1, by omega⟩
    have hlt : i < v.length := by omega
    have hb := (hv.good _ (List.getElem_mem hlt)).1
    have hq : billiardref24_In.f v[i].f0 v[i].f1 v[i].f2.f0 v[i].f2.f1 v[i].f3 v[i].f4 v[i].f5.f0 v[i].f5.f1 v[i].f6.f0 v[i].f6.f1 c0 c1 = some (inQ c0 c1 v[i]) := ref24_In.is hb h0 h1
    rw [billiardref24_At.l0, if_pos (by omega), if_pos (by omega), rdB hlt, hq, List.drop_eq_getElem_cons hlt]
    simp only [Option.bind_some]
    by_cases c : inQ c0 c1 v[i] = true
    · rw [if_pos c, if_pos (by omega), step_ix hlt (by omega), ih k (i + 1) _ (by omega) (by omega) (by omega) (by simp; omega), List.filter_cons_of_pos c]
      simp
    · rw [if_neg c, step_ix hlt (by omega), ih k (i + 1) _ (by omega) (by omega) (by omega) (by omega), List.filter_cons_of_neg c]
theorem refNear_l0 {v : List Bd} (hv : Vw 40 v) {c0 c1 : Int} (h0 : InB c0) (h1 : InB c1) (r : Int) : ∀ (d k i : Nat) (acc : List Int), v.length - i = d → i ≤ v.length → d + 40 < k → acc.length + d ≤ 1000 → billiardref24_Near.l0 k v r acc (i : Int) c0 c1 = some (acc ++ ((v.drop i).filter (fun b => decide (dst c0 c1 b ≤ r))).map (fun b => b.f0)) := fun d => by
  have hvl := hv.len
  induction d with
  | zero =>
    intro k i acc hd hi hk ha
    obtain ⟨k, rfl⟩ : ∃ j, k = j + 1 := ⟨k - 1, by omega⟩
    rw [billiardref24_Near.l0, if_neg (by omega), List.drop_eq_nil_of_le (by omega)]
    simp
  | succ d ih =>
    intro k i acc hd hi hk ha
    obtain ⟨k, rfl⟩ : ∃ j, k = j + 1 := ⟨k - 1, by omega⟩
    have hlt : i < v.length := by omega
    have hb := (hv.good _ (List.getElem_mem hlt)).1
    rw [billiardref24_Near.l0, if_pos (by omega), if_pos (by omega), rdB hlt, ((dst_is hb h0 h1).2 k (by omega)).2, List.drop_eq_getElem_cons hlt]
    simp only [Option.bind_some]
    by_cases c : dst c0 c1 v[i] ≤ r
    · rw [if_pos c, if_pos (by omega), step_ix hlt (by omega), ih k (i + 1) _ (by omega) (by omega) (by omega) (by simp; omega), List.filter_cons_of_pos (by simpa using c)]
      simp
    · rw [if_neg c, step_ix hlt (by omega), ih k (i + 1) _ (by omega) (by omega) (by omega) (by omega), List.filter_cons_of_neg (by simpa using c)]
theorem match_l0 {v : List Bd} (hv : Vw 40 v) {c0 c1 : Int} (h0 : InB c0) (h1 : InB c1) (r : Int) : ∀ (d k i : Nat), v.length - i = d → i ≤ v.length → d + 200 < k → billiardlaw24_QueryMatchesReference.l0 k r v (i : Int) c0 c1 = some true := fun d => by
  have hvl := hv.len
  induction d with
  | zero =>
    intro k i hd hi hk
    obtain ⟨k, rfl⟩ : ∃ j, k = j + 1 := ⟨k - 1, by omega⟩
    have hA := List.length_filter_le (inQ c0 c1) v
    have hN := List.length_filter_le (fun b => decide (dst c0 c1 b ≤ r)) v
    rw [billiardlaw24_QueryMatchesReference.l0, if_neg (by omega), at_is hv h0 h1]
    simp only [Option.bind_some]
    rw [show billiardref24_At.f k v c0 c1 = _ from refAt_l0 hv h0 h1 v.length k 0 [] (by omega) (by omega) (by omega) (by simp; omega)]
    simp only [Option.bind_some, List.nil_append, List.drop_zero]
    rw [keys_is _ (by simp; omega) (by simp; omega)]
    simp only [Option.bind_some]
    rw [if_pos trivial, near_is hv h0 h1]
    simp only [Option.bind_some]
    rw [show billiardref24_Near.f k v c0 c1 r = _ from refNear_l0 hv h0 h1 r v.length k 0 [] (by omega) (by omega) (by omega) (by simp; omega)]
    simp only [Option.bind_some, List.nil_append, List.drop_zero]
    rw [keys_is _ (by simp; omega) (by simp; omega)]
    rfl
  | succ d ih =>
    intro k i hd hi hk
    obtain ⟨k, rfl⟩ : ∃ j, k = j + 1 := ⟨k - 1, by omega⟩
    have hlt : i < v.length := by omega
    have hb := (hv.good _ (List.getElem_mem hlt)).1
    have hq := (query_In.is hb h0 h1).1
    have hd2 := (dst_is hb h0 h1).2 k (by omega)
    rw [billiardlaw24_QueryMatchesReference.l0, if_pos (by omega), if_pos (by omega), rdB hlt, hd2.1]
    simp only [Option.bind_some]
    rw [hd2.2]
    simp only [Option.bind_some]
    rw [if_pos trivial, hq]
    simp only [Option.bind_some]
    rw [ref24_In.is hb h0 h1]
    simp only [Option.bind_some]
    rw [if_neg (by simp), step_ix hlt (by omega)]
    exact ih k (i + 1) (by omega) (by omega) (by omega)
theorem QueryMatchesReference : billiardlaw24_QueryMatchesReference.Pure := by
  intro l0 p0 p1 r h0 w0 w1 w2
  obtain ⟨v, ok, hV, hv⟩ := view_is l0 h0
  have hend : ∀ k, 200 ≤ k → billiardlaw24_QueryMatchesReference.j0 (k + 1) r v true p0 p1 = some true := fun k hk => by
    rw [billiardlaw24_QueryMatchesReference.j0, if_pos rfl, awake24 _ hk]
    rfl
  refine ⟨998 + 1 + 1, ?_⟩
  unfold billiardlaw24_QueryMatchesReference.f
  rw [hV _ (by omega)]
  simp only [Option.bind_some]
  rw [awake24 _ (by omega)]
  simp only [Option.bind_some]
  rw [if_pos trivial]
  by_cases hok : ok = true
  rotate_left
  · rw [if_neg hok]
    exact hend 999 (by omega)
  rw [if_pos hok]
  rcases In_cases p0 p1 with ⟨e, hp0, hp1⟩ | e
  rotate_left
  · rw [e]
    exact hend 999 (by omega)
  rw [e]
  simp only [Option.bind_some, Bool.not_true]
  rw [billiardlaw24_QueryMatchesReference.j0, if_neg (by decide)]
  have hvl := hv.len
  exact match_l0 hv hp0 hp1 r v.length _ 0 (by omega) (by omega) (by omega)
end Go.Proofs.Ytabcnaceffpekaa.Pure
