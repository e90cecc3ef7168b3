/- The reference chooses what segment.choose chooses. -/
import Derived.Test.YtddooigcnbpliaaMseg
namespace Go.Proofs.Ytddooigcnbpliaa.Q
open Go.RowKit Go.Proofs.YtddooigcnbpliaaW.PrintWords Go.Proofs.YtddooigcnbpliaaW.PrintLast Go.Proofs.YtddooigcnbpliaaW.PrintMore
set_option linter.unusedVariables false
theorem ref13_round {k : Nat} {L : List S29} {i : Int} {a b c d : Int} {x0 x1 y0 y1 e f : Int} (hi : i < (L.length : Int)) (h0 : 0 ≤ i)
    (hx0 : (rd_T29 L i).f0.f0 = x0) (hx1 : (rd_T29 L i).f0.f1 = x1) (hy0 : (rd_T29 L i).f1.f0 = y0) (hy1 : (rd_T29 L i).f1.f1 = y1)
    (he : billiardref13_DistSq.f x0 x1 y0 y1 = some e) (hf : billiardref13_DistSq.f a b c d = some f) :
    billiardref13_Chosen.l0 (k + 1) L i a b c d = if e < f then billiardref13_Chosen.l0 k L (wrap64 (i + 1)) x0 x1 y0 y1 else billiardref13_Chosen.l0 k L (wrap64 (i + 1)) a b c d := by
  simp only [billiardref13_Chosen.l0]
  rw [if_pos hi, if_pos h0, hx0, hx1, hy0, hy1, he, hf]
  rfl
theorem ref13_end {k : Nat} {L : List S29} {i : Int} {a b c d : Int} (hi : ¬ i < (L.length : Int)) : billiardref13_Chosen.l0 (k + 1) L i a b c d = some (a, b, c, d) := by
  simp only [billiardref13_Chosen.l0]
  rw [if_neg hi]
theorem ref13_Chosen.is {p0 p1 q0 q1 u0 u1 v0 v1 : Int} (h : Right4 p0 p1 q0 q1 u0 u1 v0 v1) (k : Nat) : billiardref13_Chosen.f (k + 4) p0 p1 q0 q1 u0 u1 v0 v1 = some ((seg4 p0 p1 q0 q1 u0 u1 v0 v1).1, (seg4 p0 p1 q0 q1 u0 u1 v0 v1).2.1, (seg4 p0 p1 q0 q1 u0 u1 v0 v1).2.2.1, (seg4 p0 p1 q0 q1 u0 u1 v0 v1).2.2.2.1) := by
  obtain ⟨d1, d2, d3, d4, hF⟩ := Four.ex h
  obtain ⟨h1, h2, h3, h4⟩ := h.all
  unfold billiardref13_Chosen.f
  rw [ref_nearest h1, Nearest_n h1]
  simp only [Option.bind_some]
  rw [ref_nearest h2, Nearest_n h2]
  simp only [Option.bind_some]
  rw [ref_nearest h3, Nearest_n h3]
  simp only [Option.bind_some]
  rw [ref_nearest h4, Nearest_n h4]
  simp only [Option.bind_some]
  obtain ⟨i1, j1⟩ := n_in h1
  obtain ⟨i2, j2⟩ := n_in h2
  obtain ⟨i3, j3⟩ := n_in h3
  obtain ⟨i4, j4⟩ := n_in h4
  obtain ⟨_, _, _, _, a1, a2, _, _⟩ := h1
  obtain ⟨_, _, _, _, b1, b2, _, _⟩ := h2
  obtain ⟨_, _, _, _, c1, c2, _, _⟩ := h3
  obtain ⟨_, _, _, _, e1, e2, _, _⟩ := h4
  have D1 := billiardref13_DistSq.is a1 a2 i1 j1
  have D2 := billiardref13_DistSq.is b1 b2 i2 j2
  have D3 := billiardref13_DistSq.is i3 j3 c1 c2
  have D4 := billiardref13_DistSq.is i4 j4 e1 e2
  rw [hF.e1] at D1
  rw [hF.e2] at D2
  rw [hF.e3] at D3
  rw [hF.e4] at D4
  have hC := hF.chosen
  generalize seg4 p0 p1 q0 q1 u0 u1 v0 v1 = s at hC
  generalize nX u0 u1 v0 v1 p0 p1 = nx1 at *
  generalize nY u0 u1 v0 v1 p0 p1 = ny1 at *
  generalize nX u0 u1 v0 v1 q0 q1 = nx2 at *
  generalize nY u0 u1 v0 v1 q0 q1 = ny2 at *
  generalize nX p0 p1 q0 q1 u0 u1 = nx3 at *
  generalize nY p0 p1 q0 q1 u0 u1 = ny3 at *
  generalize nX p0 p1 q0 q1 v0 v1 = nx4 at *
  generalize nY p0 p1 q0 q1 v0 v1 = ny4 at *
  clear hF a1 a2 b1 b2 c1 c2 e1 e2 i1 i2 i3 i4 j1 j2 j3 j4 h
  have w1 : wrap64 (1 + 1) = 2 := by unfold wrap64; omega
  have w2 : wrap64 (2 + 1) = 3 := by unfold wrap64; omega
  have w3 : wrap64 (3 + 1) = 4 := by unfold wrap64; omega
  rw [if_pos (by simp)]
  obtain ⟨L, hL⟩ : ∃ L, [(⟨(⟨p0, p1⟩ : S23), (⟨nx1, ny1⟩ : S23)⟩ : S29), (⟨(⟨q0, q1⟩ : S23), (⟨nx2, ny2⟩ : S23)⟩ : S29), (⟨(⟨nx3, ny3⟩ : S23), (⟨u0, u1⟩ : S23)⟩ : S29), (⟨(⟨nx4, ny4⟩ : S23), (⟨v0, v1⟩ : S23)⟩ : S29)] = L := ⟨_, rfl⟩
  have hn : (L.length : Int) = 4 := by rw [← hL]; rfl
  have r1 : ∀ (k : Nat) (a b c d f : Int), billiardref13_DistSq.f a b c d = some f → billiardref13_Chosen.l0 (k + 1) L 1 a b c d = if d2 < f then billiardref13_Chosen.l0 k L (wrap64 (1 + 1)) q0 q1 nx2 ny2 else billiardref13_Chosen.l0 k L (wrap64 (1 + 1)) a b c d :=
    fun k a b c d f hf => ref13_round (by omega) (by omega) (by rw [← hL]; rfl) (by rw [← hL]; rfl) (by rw [← hL]; rfl) (by rw [← hL]; rfl) D2 hf
  have r2 : ∀ (k : Nat) (a b c d f : Int), billiardref13_DistSq.f a b c d = some f → billiardref13_Chosen.l0 (k + 1) L 2 a b c d = if d3 < f then billiardref13_Chosen.l0 k L (wrap64 (2 + 1)) nx3 ny3 u0 u1 else billiardref13_Chosen.l0 k L (wrap64 (2 + 1)) a b c d :=
    fun k a b c d f hf => ref13_round (by omega) (by omega) (by rw [← hL]; rfl) (by rw [← hL]; rfl) (by rw [← hL]; rfl) (by rw [← hL]; rfl) D3 hf
  have r3 : ∀ (k : Nat) (a b c d f : Int), billiardref13_DistSq.f a b c d = some f → billiardref13_Chosen.l0 (k + 1) L 3 a b c d = if d4 < f then billiardref13_Chosen.l0 k L (wrap64 (3 + 1)) nx4 ny4 v0 v1 else billiardref13_Chosen.l0 k L (wrap64 (3 + 1)) a b c d :=
    fun k a b c d f hf => ref13_round (by omega) (by omega) (by rw [← hL]; rfl) (by rw [← hL]; rfl) (by rw [← hL]; rfl) (by rw [← hL]; rfl) D4 hf
  have r4 : ∀ (k : Nat) (a b c d : Int), billiardref13_Chosen.l0 (k + 1) L 4 a b c d = some (a, b, c, d) := fun k a b c d => ref13_end (by omega)
  rw [hL]
  have hh : (rd_T29 L 0).f0.f0 = p0 ∧ (rd_T29 L 0).f0.f1 = p1 ∧ (rd_T29 L 0).f1.f0 = nx1 ∧ (rd_T29 L 0).f1.f1 = ny1 := by rw [← hL]; exact ⟨rfl, rfl, rfl, rfl⟩
  rw [hh.1, hh.2.1, hh.2.2.1, hh.2.2.2]
  rw [r1 _ _ _ _ _ _ D1, w1]
  by_cases c2 : d2 < d1
  · rw [if_pos c2, r2 _ _ _ _ _ _ D2, w2]
    by_cases c3 : d3 < d2
    · rw [if_pos c3, r3 _ _ _ _ _ _ D3, w3, r4, r4]
      by_cases c4 : d4 < d3
      · rw [if_pos c4]
        rcases hC with ⟨e, k⟩ | ⟨e, k⟩ | ⟨e, k⟩ | ⟨e, k⟩ <;> first | (rw [e]; done) | (exfalso; omega)
      · rw [if_neg c4]
        rcases hC with ⟨e, k⟩ | ⟨e, k⟩ | ⟨e, k⟩ | ⟨e, k⟩ <;> first | (rw [e]; done) | (exfalso; omega)
    · rw [if_neg c3, r3 _ _ _ _ _ _ D2, w3, r4, r4]
      by_cases c4 : d4 < d2
      · rw [if_pos c4]
        rcases hC with ⟨e, k⟩ | ⟨e, k⟩ | ⟨e, k⟩ | ⟨e, k⟩ <;> first | (rw [e]; done) | (exfalso; omega)
      · rw [if_neg c4]
        rcases hC with ⟨e, k⟩ | ⟨e, k⟩ | ⟨e, k⟩ | ⟨e, k⟩ <;> first | (rw [e]; done) | (exfalso; omega)
  · rw [if_neg c2, r2 _ _ _ _ _ _ D1, w2]
    by_cases c3 : d3 < d1
    · rw [if_pos c3, r3 _ _ _ _ _ _ D3, w3, r4, r4]
      by_cases c4 : d4 < d3
      · rw [if_pos c4]
        rcases hC with ⟨e, k⟩ | ⟨e, k⟩ | ⟨e, k⟩ | ⟨e, k⟩ <;> first | (rw [e]; done) | (exfalso; omega)
      · rw [if_neg c4]
        rcases hC with ⟨e, k⟩ | ⟨e, k⟩ | ⟨e, k⟩ | ⟨e, k⟩ <;> first | (rw [e]; done) | (exfalso; omega)
    · rw [if_neg c3, r3 _ _ _ _ _ _ D1, w3, r4, r4]
      by_cases c4 : d4 < d1
      · rw [if_pos c4]
        rcases hC with ⟨e, k⟩ | ⟨e, k⟩ | ⟨e, k⟩ | ⟨e, k⟩ <;> first | (rw [e]; done) | (exfalso; omega)
      · rw [if_neg c4]
        rcases hC with ⟨e, k⟩ | ⟨e, k⟩ | ⟨e, k⟩ | ⟨e, k⟩ <;> first | (rw [e]; done) | (exfalso; omega)

end Go.Proofs.Ytddooigcnbpliaa.Q
