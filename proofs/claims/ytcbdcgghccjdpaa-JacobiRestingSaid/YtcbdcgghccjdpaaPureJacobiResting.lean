/- If no two bodies of a contact approach each other, nothing changes; and without contacts, nothing ever does. -/
import Derived.Test.YtcbdcgghccjdpaaQJacobiResting
import Derived.Test.YtcbdcgghccjdpaaMjac
namespace Go.Proofs.Ytcbdcgghccjdpaa.Pure
open Go.RowKit Go.Proofs.Ytcbdcgghccjdpaa.Q Go.Proofs.YtcbdcgghccjdpaaW.PrintWords Go.Proofs.YtcbdcgghccjdpaaW.PrintLast Go.Proofs.YtcbdcgghccjdpaaW.PrintMore
set_option linter.unusedVariables false
theorem chg_rest {w : List Bd} (hw : Vw 40 w) {x y : Int} (hx : ∀ b ∈ w, b.f6.f0 = x ∧ b.f6.f1 = y) {c : Cn} (hc : J17 w c) (key : Int) (s : Bool) : chg w c key s = 0 := by
  obtain ⟨i, j, hi, hj, ki, kj, hij, ai, aj, _, _⟩ := two_J hw hc
  have h1 := hx _ (List.getElem_mem hi)
  have h2 := hx _ (List.getElem_mem hj)
  have e : strJ c w[i] w[j] = 0 := by
    unfold strJ
    rw [h1.1, h1.2, h2.1, h2.2, Int.sub_self, Int.sub_self]
    unfold apS stS
    simp
  unfold chg
  rw [ai, aj, e]
  unfold chS
  simp
theorem chgL_rest {w : List Bd} (hw : Vw 40 w) {x y : Int} (hx : ∀ b ∈ w, b.f6.f0 = x ∧ b.f6.f1 = y) (key : Int) (s : Bool) : ∀ l : List Cn, (∀ c ∈ l, J17 w c) → chgL w l key s = 0
  | [], _ => rfl
  | c :: l, h => by rw [chgL, chg_rest hw hx (h c (by simp)), chgL_rest hw hx key s l (fun c hc => h c (List.mem_cons_of_mem _ hc))]; rfl
def restV (x y : Int) (v : List Bd) : List Bd := v.map (fun b => setV b x y)
theorem rest_vw {v : List Bd} (hv : Vw 40 v) {x y : Int} (h1 : -16777216 ≤ x ∧ x ≤ 16777216) (h2 : -16777216 ≤ y ∧ y ≤ 16777216) : Vw 40 (restV x y v) := by
  refine ⟨?_, fun z hz => ?_, by have := hv.len; unfold restV; rw [List.length_map]; exact this⟩
  · have := hv.rise
    unfold restV Rise
    rw [List.pairwise_map]
    exact this
  · obtain ⟨b, hb, rfl⟩ := List.mem_map.mp hz
    obtain ⟨g1, g2⟩ := hv.good b hb
    refine ⟨⟨g1.r, g1.ax, g1.ay, g1.m, g1.b, g1.px, g1.py, h1, h2⟩, ?_⟩
    obtain ⟨w0, w1, w2, w3, w4, w5, w6, w7, w8, w9⟩ := g2
    exact ⟨w0, w1, w2, w3, w4, w5, w6, w7, wf32 h1, wf32 h2⟩
theorem rest_J {v : List Bd} {c : Cn} (hc : J17 v c) (x y : Int) : J17 (restV x y v) c :=
  ⟨hc.lt, by unfold restV; rw [ixOf_map (fun b => setV b x y) (fun _ => rfl)]; exact hc.lo, by unfold restV; rw [ixOf_map (fun b => setV b x y) (fun _ => rfl)]; exact hc.hi, hc.n⟩
theorem rest_l0 {v : List Bd} (hv : Vw 40 v) {l : List Cn} (hl : ∀ c ∈ l, J17 v c) (hn : l.length ≤ 100) {x y : Int} (h1 : -16777216 ≤ x ∧ x ≤ 16777216) (h2 : -16777216 ≤ y ∧ y ≤ 16777216) : ∀ (d k i : Nat) (acc : List Bd), v.length - i = d → i ≤ v.length → d + 60 < k → acc = (v.take i).map (fun b => setV b x y) → billiardlaw17_JacobiResting.l0 k l v acc (i : Int) x y = some true := fun d => by
  have hvl := hv.len
  induction d with
  | zero =>
    intro k i acc hd hi hk ha
    obtain ⟨k, rfl⟩ : ∃ j, k = j + 1 := ⟨k - 1, by omega⟩
    have ha : acc = restV x y v := by rw [ha, List.take_of_length_le (by omega)]; rfl
    subst ha
    have hw := rest_vw hv h1 h2
    have hlen : (restV x y v).length = v.length := by unfold restV; rw [List.length_map]
    have hJ : ∀ c ∈ l, J17 (restV x y v) c := fun c hc => rest_J (hl c hc) x y
    have hvel : ∀ b ∈ restV x y v, b.f6.f0 = x ∧ b.f6.f1 = y := fun b hb => by
      obtain ⟨b, _, rfl⟩ := List.mem_map.mp hb
      exact ⟨rfl, rfl⟩
    rw [billiardlaw17_JacobiResting.l0, if_neg (by omega), jSolve_is hw hJ (by omega) (by omega)]
    simp only [Option.bind_some]
    rw [solV_still (fun b hb => step_still (hw.good b hb).1 (chgL_rest hw hvel _ _ l hJ) (chgL_rest hw hvel _ _ l hJ)), jSolve_is hv (l := []) (fun c hc => by simp at hc) (by simp) (by omega)]
    simp only [Option.bind_some]
    rw [solV_still (fun b hb => step_still (hv.good b hb).1 rfl rfl), jSame_is _ (by omega) (by omega)]
    simp only [Option.bind_some]
    rw [if_pos trivial, if_neg (by decide), jSame_is _ (by omega) (by omega)]
    rfl
  | succ d ih =>
    intro k i acc hd hi hk ha
    obtain ⟨k, rfl⟩ : ∃ j, k = j + 1 := ⟨k - 1, by omega⟩
    have hlt : i < v.length := by omega
    have hal : acc.length ≤ 40 := by rw [ha, List.length_map, List.length_take]; omega
    rw [billiardlaw17_JacobiResting.l0, if_pos (by omega), if_pos (by omega), if_pos (by omega), rdB hlt, step_ix hlt (by omega)]
    refine ih k (i + 1) _ (by omega) (by omega) (by omega) ?_
    rw [ha, List.take_succ_eq_append_getElem hlt, List.map_append]
    rfl
theorem JacobiResting : billiardlaw17_JacobiResting.Pure := by
  intro l0 l1 x y h0 h1 _ _
  obtain ⟨v, ok, hV, hv⟩ := view_is l0 h0
  obtain ⟨b, hR, hG⟩ := jRight_is v hv.len l1
  have hvl := hv.len
  have hend : billiardlaw17_JacobiResting.j0 (998 + 1 + 1) l1 v true x y = some true := by
    rw [billiardlaw17_JacobiResting.j0, if_pos rfl, awake17 _ (by omega)]
    rfl
  refine ⟨998 + 1 + 1, ?_⟩
  unfold billiardlaw17_JacobiResting.f
  rw [hV _ (by omega)]
  simp only [Option.bind_some]
  rw [awake17 _ (by omega)]
  simp only [Option.bind_some]
  rw [if_pos trivial]
  by_cases hok : ok = true
  rotate_left
  · rw [if_neg hok]
    exact hend
  rw [if_pos hok, hR _ (by omega)]
  simp only [Option.bind_some]
  cases b
  · rw [if_neg (by decide)]
    exact hend
  obtain ⟨hn, hl⟩ := hG rfl
  rw [if_pos rfl]
  by_cases c1 : x < -16777216
  · rw [if_pos c1]; exact hend
  rw [if_neg c1]
  by_cases c2 : x > 16777216
  · rw [if_pos c2]; exact hend
  rw [if_neg c2]
  by_cases c3 : y < -16777216
  · rw [if_pos c3]; exact hend
  rw [if_neg c3]
  by_cases c4 : y > 16777216
  · rw [decide_eq_true c4]; exact hend
  rw [decide_eq_false c4, billiardlaw17_JacobiResting.j0, if_neg (by decide)]
  exact rest_l0 hv hl hn ⟨by omega, by omega⟩ ⟨by omega, by omega⟩ v.length _ 0 [] (by omega) (by omega) (by omega) (by simp)
end Go.Proofs.Ytcbdcgghccjdpaa.Pure
