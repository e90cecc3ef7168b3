/- A point is in both boxes exactly if it is in their meet, a point of one of them is in their union, boxes overlap exactly if their meet is not empty: for all boxes and points. -/
import Derived.Test.YtniiffbcdjoelaaDoorQBoxMeets
import Derived.Test.YtniiffbcdjoelaaDoorMbox
namespace Go.Proofs.YtniiffbcdjoelaaDoor.Pure
open Go.RowKit Go.Proofs.YtniiffbcdjoelaaDoor.Q Go.Proofs.YtniiffbcdjoelaaDoorW.PrintWords Go.Proofs.YtniiffbcdjoelaaDoorW.PrintLast
theorem inB_meet (a b c d e f g h p q : Int) : inB (meetB a b c d e f g h).1 (meetB a b c d e f g h).2.1 (meetB a b c d e f g h).2.2.1 (meetB a b c d e f g h).2.2.2 p q = (inB a b c d p q && inB e f g h p q) := by
  rw [Bool.eq_iff_iff, Bool.and_eq_true, inB_iff, inB_iff, inB_iff]
  unfold meetB
  by_cases k : emptyB (mx a e) (mx b f) (mn c g) (mn d h) = true
  · rw [if_pos k]
    have k := emptyB_iff.mp k
    simp only [box_mx, box_mn] at k
    constructor
    · intro z
      have z1 : (1 : Int) ≤ p ∧ p ≤ 0 := z.1
      omega
    · intro z
      split at k <;> split at k <;> split at k <;> split at k <;> omega
  · rw [if_neg k]
    show (mx a e ≤ p ∧ p ≤ mn c g) ∧ mx b f ≤ q ∧ q ≤ mn d h ↔ _
    simp only [box_mx, box_mn]
    split <;> split <;> split <;> split <;> omega
theorem inB_union {a b c d e f g h p q : Int} (z : inB a b c d p q = true) : inB (unionB a b c d e f g h).1 (unionB a b c d e f g h).2.1 (unionB a b c d e f g h).2.2.1 (unionB a b c d e f g h).2.2.2 p q = true := by
  have z := inB_iff.mp z
  have n : emptyB a b c d = false := emptyB_no.mpr (by omega)
  rw [inB_iff]
  unfold unionB
  rw [n]
  by_cases k : emptyB e f g h = true
  · rw [if_neg (by decide), if_pos k]; exact z
  · rw [if_neg (by decide), if_neg k]
    show (mn a e ≤ p ∧ p ≤ mx c g) ∧ mn b f ≤ q ∧ q ≤ mx d h
    simp only [box_mx, box_mn]
    split <;> split <;> split <;> split <;> omega
theorem inB_union' {a b c d e f g h p q : Int} (z : inB e f g h p q = true) : inB (unionB a b c d e f g h).1 (unionB a b c d e f g h).2.1 (unionB a b c d e f g h).2.2.1 (unionB a b c d e f g h).2.2.2 p q = true := by
  rw [unionB_comm]; exact inB_union z
theorem BoxMeets : billiardlaw08_BoxMeets.Pure := by
  intro a b c d e f g h p q _ _ _ _ _ _ _ _ _ _
  have aw : billiardlaw08_awake.f = some true := by decide +kernel
  refine ⟨4, ?_⟩
  unfold billiardlaw08_BoxMeets.f billiardlaw08_forward.f
  rw [aw]
  simp only [Option.bind_some, if_true, box_Meet.is, box_Union.is, box_Contains.is]
  have hM := inB_meet a b c d e f g h p q
  have hE := meetB_empty a b c d e f g h
  have hU := @inB_union a b c d e f g h p q
  have hV := @inB_union' a b c d e f g h p q
  have me : emptyB a b c d = true ∨ emptyB e f g h = true → overB a b c d e f g h = false := fun z => by
    cases hh : overB a b c d e f g h
    · rfl
    · have := overB_iff.mp hh
      rcases z with z | z <;> have := emptyB_iff.mp z <;> omega
  have mo : overB a b c d e f g h = false → meetB a b c d e f g h = (1, 0, 0, 0) := fun z => by
    have z : (!emptyB (mx a e) (mx b f) (mn c g) (mn d h)) = false := z
    unfold meetB
    rw [if_pos (by simpa using z)]
  have un : unionB a b c d e f g h = if emptyB a b c d = true then (if emptyB e f g h = true then (1, 0, 0, 0) else (e, f, g, h)) else if emptyB e f g h = true then (a, b, c, d) else (mn a e, mn b f, mx c g, mx d h) := rfl
  rcases hm : meetB a b c d e f g h with ⟨m0, m1, m2, m3⟩
  rcases hu : unionB a b c d e f g h with ⟨u0, u1, u2, u3⟩
  rw [hm] at hM hE
  rw [hu] at hU hV
  simp only at hM hE hU hV ⊢
  have j3 : overB a b c d e f g h = false → ((emptyB a b c d = true ∨ emptyB e f g h = true) → billiardlaw08_BoxMeets.j3 1 true a b c d e f g h a b c d e f g h m0 m1 m2 m3 u0 u1 u2 u3 = some true) := fun z y => by
    simp only [billiardlaw08_BoxMeets.j3, if_true, box_Empty.is, billiardref08_Empty.is, Option.bind_some]
    rw [hE, z]
    simp only [Bool.not_false, if_true]
    rw [un] at hu
    rcases hA : emptyB a b c d <;> rcases hB : emptyB e f g h <;> rw [hA, hB] at hu <;> simp only [Bool.false_eq_true, if_false, if_true, Prod.mk.injEq] at hu <;> obtain ⟨rfl, rfl, rfl, rfl⟩ := hu <;> simp_all
  have j3' : (emptyB a b c d = false ∧ emptyB e f g h = false) → billiardlaw08_BoxMeets.j3 1 false a b c d e f g h a b c d e f g h m0 m1 m2 m3 u0 u1 u2 u3 = some true := fun z => by
    rw [un, z.1, z.2] at hu
    simp only [Bool.false_eq_true, if_false, Prod.mk.injEq] at hu
    obtain ⟨rfl, rfl, rfl, rfl⟩ := hu
    simp only [billiardlaw08_BoxMeets.j3, Bool.false_eq_true, if_false, if_true, beq_self_eq_true]
  have j2 : billiardlaw08_BoxMeets.j2 2 false a b c d e f g h a b c d e f g h m0 m1 m2 m3 u0 u1 u2 u3 = some true := by
    simp only [billiardlaw08_BoxMeets.j2, Bool.false_eq_true, if_false, billiardref08_Empty.is, Option.bind_some]
    by_cases hA : emptyB a b c d = true
    · rw [if_pos hA]; exact j3 (me (Or.inl hA)) (Or.inl hA)
    · rw [if_neg hA]
      rcases hB : emptyB e f g h
      · exact j3' ⟨Bool.eq_false_iff.mpr hA, hB⟩
      · exact j3 (me (Or.inr hB)) (Or.inr hB)
  have j1 : billiardlaw08_BoxMeets.j1 3 false a b c d e f g h a b c d e f g h m0 m1 m2 m3 u0 u1 u2 u3 = some true := by
    simp only [billiardlaw08_BoxMeets.j1, Bool.false_eq_true, if_false, box_Empty.is, Option.bind_some]
    rcases hO : overB a b c d e f g h
    · have k := mo hO
      rw [hm] at k
      simp only [Prod.mk.injEq] at k
      obtain ⟨rfl, rfl, rfl, rfl⟩ := k
      rw [if_pos (by decide)]
      exact j2
    · rw [hE, hO, if_neg (by decide)]; exact j2
  have j0 : billiardlaw08_BoxMeets.j0 4 (inB a b c d p q && inB e f g h p q) a b c d e f g h p q a b c d e f g h m0 m1 m2 m3 u0 u1 u2 u3 = some true := by
    simp only [billiardlaw08_BoxMeets.j0, box_Contains.is, Option.bind_some, box_Overlap.is, box_Empty.is]
    rw [hM, hE, bne_self_eq_false, if_neg (by decide)]
    have x : (overB a b c d e f g h == !overB a b c d e f g h) = false := by cases overB a b c d e f g h <;> rfl
    rw [x]
    by_cases h1 : inB a b c d p q = true
    · rw [if_pos h1, if_pos (hU h1)]; exact j1
    · rw [if_neg h1]
      by_cases h2 : inB e f g h p q = true
      · rw [if_pos h2, if_pos (hV h2)]; exact j1
      · rw [if_neg h2]; exact j1
  rw [← j0]
  by_cases h1 : inB a b c d p q = true
  · rw [if_pos h1, h1, Bool.true_and]
  · rw [if_neg h1, Bool.eq_false_iff.mpr h1, Bool.false_and]
end Go.Proofs.YtniiffbcdjoelaaDoor.Pure
