/- The order of the contacts does not matter; shifts add up; static bodies stay. -/
import Derived.Test.YtplmeknmeobanaaQCorrectOrderFree
import Derived.Test.YtplmeknmeobanaaMcorrs
import Derived.Test.YtplmeknmeobanaaMbase
namespace Go.Proofs.Ytplmeknmeobanaa.Pure
open Go.RowKit Go.Proofs.Ytplmeknmeobanaa.Q Go.Proofs.YtplmeknmeobanaaW.PrintWords Go.Proofs.YtplmeknmeobanaaW.PrintLast Go.Proofs.YtplmeknmeobanaaW.PrintMore
set_option linter.unusedVariables false
abbrev Rs := S53
abbrev toR (x : Sh) : Rs := ⟨x.f0, x.f1⟩
theorem rdS {v : List Sh} {i : Nat} (h : i < v.length) : rd_T48 v (i : Int) = v[i] := by
  unfold rd_T48
  simp [List.getD, h]
theorem rdR {v : List Rs} {i : Nat} (h : i < v.length) : rd_T53 v (i : Int) = v[i] := by
  unfold rd_T53
  simp [List.getD, h]
theorem toR_l0 (xs : List Sh) (hx : xs.length ≤ 1000) : ∀ (d k i : Nat) (acc : List Rs), xs.length - i = d → i ≤ xs.length → d < k → acc.length + d ≤ 1000 → billiardlaw18_shifts.l0 k xs acc (i : Int) = some (acc ++ (xs.drop i).map toR) := fun d => by
  induction d with
  | zero =>
    intro k i acc hd hi hk ha
    obtain ⟨k, rfl⟩ : ∃ j, k = j + 1 := ⟨k - 1, by omega⟩
    rw [billiardlaw18_shifts.l0, if_neg (by omega), List.drop_eq_nil_of_le (by omega)]
    simp
  | succ d ih =>
    intro k i acc hd hi hk ha
    obtain ⟨k, rfl⟩ : ∃ j, k = j + 1 := ⟨k - 1, by omega⟩
    have hlt : i < xs.length := by omega
    rw [billiardlaw18_shifts.l0, if_pos (by omega), if_pos (by omega), if_pos (by omega), rdS hlt, step_ix hlt (by omega), List.drop_eq_getElem_cons hlt, List.map_cons, ih k (i + 1) (acc ++ [toR xs[i]]) (by omega) (by omega) (by omega) (by simp; omega)]
    simp
theorem toR_is (xs : List Sh) (hx : xs.length ≤ 1000) {k : Nat} (hk : xs.length < k) : billiardlaw18_shifts.f k xs = some (xs.map toR) := by
  have := toR_l0 xs hx xs.length k 0 [] (by omega) (by omega) hk (by simp; omega)
  unfold billiardlaw18_shifts.f
  simpa using this
theorem same18_l0 (v : List Rs) (hv : v.length ≤ 1000) : ∀ (d k i : Nat), v.length - i = d → i ≤ v.length → d < k → billiardref18_Same.l0 k v v (i : Int) = some true := fun d => by
  induction d with
  | zero =>
    intro k i hd hi hk
    obtain ⟨k, rfl⟩ : ∃ j, k = j + 1 := ⟨k - 1, by omega⟩
    rw [billiardref18_Same.l0, if_neg (by omega)]
  | succ d ih =>
    intro k i hd hi hk
    obtain ⟨k, rfl⟩ : ∃ j, k = j + 1 := ⟨k - 1, by omega⟩
    have hlt : i < v.length := by omega
    rw [billiardref18_Same.l0, if_pos (by omega), if_pos (by omega), if_pos (by omega), if_neg (by simp), step_ix hlt (by omega)]
    exact ih k (i + 1) (by omega) (by omega) (by omega)
theorem same18_is (v : List Rs) (hv : v.length ≤ 1000) {k : Nat} (hk : v.length < k) : billiardref18_Same.f k v v = some true := by
  unfold billiardref18_Same.f
  rw [if_pos rfl]
  exact same18_l0 v hv v.length k 0 (by omega) (by omega) hk
theorem movedL_app (v : List Bd) (key : Int) (s : Bool) : ∀ a b : List Ct, movedL v (a ++ b) key s = movedL v a key s + movedL v b key s
  | [], b => by simp [movedL]
  | c :: a, b => by rw [List.cons_append, movedL, movedL, movedL_app v key s a b]; omega
theorem shr_zero (c : Ct) (a b : Bd) : Q.shr c a b 0 = 0 := by unfold Q.shr; simp
/-- A static body is not moved. -/
theorem moved_static {v : List Bd} (hv : Vw 40 v) {c : Ct} (hc : G18 v c) {t : Nat} (ht : t < v.length) (h0 : v[t].f3 = 0) (s : Bool) : moved v c v[t].f0 s = 0 := by
  obtain ⟨i, j, hi, hj, ki, kj, hij, ai, aj, _, _⟩ := two_of hv hc.g
  unfold moved
  rw [ai, aj]
  split
  · rename_i e
    obtain rfl := rise_inj hv.rise hi ht (ki.trans e)
    rw [h0, shr_zero]
    simp [Q.part]
  · split
    · rename_i e
      obtain rfl := rise_inj hv.rise hj ht (kj.trans e)
      rw [h0, shr_zero]
      simp [Q.part]
    · rfl
theorem movedL_static {v : List Bd} (hv : Vw 40 v) {t : Nat} (ht : t < v.length) (h0 : v[t].f3 = 0) (s : Bool) : ∀ l : List Ct, (∀ c ∈ l, G18 v c) → movedL v l v[t].f0 s = 0
  | [], _ => rfl
  | c :: l, h => by rw [movedL, moved_static hv (h c (by simp)) ht h0, movedL_static hv ht h0 s l (fun x hx => h x (List.mem_cons_of_mem _ hx))]; rfl
theorem sh_eq {a b : Sh} (h0 : a.f0 = b.f0) (h1 : a.f1 = b.f1) : a = b := by
  cases a; cases b; simp only at h0 h1; rw [h0, h1]
theorem getD_at {xs : List Sh} {t : Nat} (h : t < xs.length) : xs.getD t zS = xs[t] := by simp [List.getD, h]
theorem free_l0 {v : List Bd} (hv : Vw 40 v) (l a b : List Ct) (hl : ∀ c ∈ l, G18 v c) (ha : ∀ c ∈ a, G18 v c) (hb : ∀ c ∈ b, G18 v c) (na : a.length ≤ 100) (nb : b.length ≤ 100) (hlen : l = a ++ b) (x y z : List Sh) (hx : x.length = v.length) (hy : y.length = v.length) (hz : z.length = v.length)
    (ex : ∀ t (h : t < v.length), (x.getD t zS).f0 = movedL v l v[t].f0 false ∧ (x.getD t zS).f1 = movedL v l v[t].f0 true)
    (ey : ∀ t (h : t < v.length), (y.getD t zS).f0 = movedL v a v[t].f0 false ∧ (y.getD t zS).f1 = movedL v a v[t].f0 true)
    (ez : ∀ t (h : t < v.length), (z.getD t zS).f0 = movedL v b v[t].f0 false ∧ (z.getD t zS).f1 = movedL v b v[t].f0 true) :
    ∀ (d k i : Nat), v.length - i = d → i ≤ v.length → d < k → billiardlaw18_CorrectOrderFree.l0 k v x y z (i : Int) = some true := fun d => by
  have hvl := hv.len
  induction d with
  | zero =>
    intro k i hd hi hk
    obtain ⟨k, rfl⟩ : ∃ j, k = j + 1 := ⟨k - 1, by omega⟩
    rw [billiardlaw18_CorrectOrderFree.l0, if_neg (by omega)]
  | succ d ih =>
    intro k i hd hi hk
    obtain ⟨k, rfl⟩ : ∃ j, k = j + 1 := ⟨k - 1, by omega⟩
    have hlt : i < v.length := by omega
    have e1 := ex i hlt
    have e2 := ey i hlt
    have e3 := ez i hlt
    have b1 := movedL_bd hv v[i].f0 false a ha
    have b2 := movedL_bd hv v[i].f0 true a ha
    have b3 := movedL_bd hv v[i].f0 false b hb
    have b4 := movedL_bd hv v[i].f0 true b hb
    have s1 := movedL_app v v[i].f0 false a b
    have s2 := movedL_app v v[i].f0 true a b
    rw [← hlen] at s1 s2
    rw [getD_at (by omega)] at e1 e2 e3
    have hwr : ∀ p q : Int, -1000000000 ≤ p → p ≤ 1000000000 → -1000000000 ≤ q → q ≤ 1000000000 → wrap64 (p + q) = p + q := fun p q _ _ _ _ => by unfold wrap64; omega
    rw [billiardlaw18_CorrectOrderFree.l0, if_pos (by omega), if_pos (by omega), if_pos (by omega), if_pos (by omega), if_pos (by omega), rdS (v := x) (by omega), rdS (v := y) (by omega), rdS (v := z) (by omega), rdB hlt, e1.1, e1.2, e2.1, e2.2, e3.1, e3.2, s1, s2, hwr _ _ (by omega) (by omega) (by omega) (by omega), hwr _ _ (by omega) (by omega) (by omega) (by omega), if_pos rfl, if_pos rfl, step_ix hlt (by omega)]
    by_cases h0 : v[i].f3 = 0
    · rw [if_pos h0, ← s1, ← s2, movedL_static hv hlt h0 false l hl, movedL_static hv hlt h0 true l hl, if_neg (by decide)]
      exact ih k (i + 1) (by omega) (by omega) (by omega)
    · rw [if_neg h0]
      exact ih k (i + 1) (by omega) (by omega) (by omega)
theorem CorrectOrderFree : billiardlaw18_CorrectOrderFree.Pure := by
  intro l0 l1 a2 h0 h1 hw
  have hwf := wf_u8 hw
  obtain ⟨v, ok, hV, hv⟩ := view_is l0 h0
  obtain ⟨b, hR, hG⟩ := right18_is v hv.len l1
  have hend : ∀ k, billiardlaw18_CorrectOrderFree.j0 (k + 1 + 12) l1 a2 v true = some true := fun k => by
    rw [billiardlaw18_CorrectOrderFree.j0, if_pos rfl, awake18 _ (by omega)]
    rfl
  refine ⟨987 + 1 + 12, ?_⟩
  unfold billiardlaw18_CorrectOrderFree.f
  rw [hV _ (by omega)]
  simp only [Option.bind_some]
  rw [awake18 _ (by omega)]
  simp only [Option.bind_some]
  rw [if_pos trivial]
  by_cases hok : ok = true
  rotate_left
  · rw [if_neg hok]
    exact hend 987
  rw [if_pos hok, hR _ (by omega)]
  simp only [Option.bind_some]
  cases b
  · exact hend 987
  obtain ⟨hl, hg⟩ := hG rfl
  have hvl := hv.len
  have ew : wrap64 ((l1.length : Int) + 1) = (l1.length : Int) + 1 := by unfold wrap64; omega
  have ea : wrap64 a2 = a2 := by unfold wrap64; omega
  obtain ⟨n, hn, hnl⟩ : ∃ n : Nat, Int.tmod a2 ((l1.length : Int) + 1) = (n : Int) ∧ n ≤ l1.length := by
    rw [Int.tmod_eq_emod_of_nonneg hwf.1]
    have q1 := Int.emod_nonneg a2 (show (l1.length : Int) + 1 ≠ 0 by omega)
    have q2 := Int.emod_lt_of_pos a2 (show 0 < (l1.length : Int) + 1 by omega)
    exact ⟨(a2 % ((l1.length : Int) + 1)).toNat, by omega, by omega⟩
  have hsplit : l1 = l1.take n ++ l1.drop n := (List.take_append_drop n l1).symm
  have ht : ∀ c ∈ l1.take n, G18 v c := fun c hc => hg c (List.mem_of_mem_take hc)
  have hd : ∀ c ∈ l1.drop n, G18 v c := fun c hc => hg c (List.mem_of_mem_drop hc)
  have htl : (l1.take n).length ≤ 100 := by rw [List.length_take]; omega
  have hdl : (l1.drop n).length ≤ 100 := by rw [List.length_drop]; omega
  obtain ⟨x, ex, lx, fx⟩ := shifts_is hv l1 hg (by omega)
  obtain ⟨u, eu, lu, fu⟩ := shifts_is hv (l1.drop n ++ l1.take n) (fun c hc => by rcases List.mem_append.mp hc with h | h; exact hd c h; exact ht c h) (by rw [List.length_append]; omega)
  obtain ⟨y, ey, ly, fy⟩ := shifts_is hv (l1.take n) ht (by omega)
  obtain ⟨z, ez, lz, fz⟩ := shifts_is hv (l1.drop n) hd (by omega)
  have hxu : u = x := by
    apply List.ext_getElem (by omega)
    intro t p q
    have g1 := fx t (by omega)
    have g2 := fu t (by omega)
    rw [movedL_app, movedL_app] at g2
    have g3 := movedL_app v (v[t]'(by omega)).f0 false (l1.take n) (l1.drop n)
    have g4 := movedL_app v (v[t]'(by omega)).f0 true (l1.take n) (l1.drop n)
    rw [← hsplit] at g3 g4
    rw [getD_at (by omega)] at g1 g2
    have q1 : u[t].f0 = x[t].f0 := by omega
    have q2 : u[t].f1 = x[t].f1 := by omega
    exact sh_eq q1 q2
  subst hxu
  rw [billiardlaw18_CorrectOrderFree.j0, if_neg (by decide), ew, ea, hn, if_neg (by omega), ex]
  simp only [Option.bind_some, List.length_nil, List.nil_append, Int.toNat_natCast]
  rw [if_pos (by omega), if_pos (by omega), if_pos (by omega), if_pos (by omega), eu]
  simp only [Option.bind_some]
  rw [ey]
  simp only [Option.bind_some]
  rw [ez]
  simp only [Option.bind_some]
  rw [if_pos (by omega), if_pos (by omega), if_pos (by omega), toR_is u (by omega) (by omega)]
  simp only [Option.bind_some]
  rw [same18_is _ (by rw [List.length_map]; omega) (by rw [List.length_map]; omega)]
  simp only [Option.bind_some]
  rw [billiardlaw18_CorrectOrderFree.j1, if_neg (by decide)]
  exact free_l0 hv l1 _ _ hg ht hd htl hdl hsplit u y z lx ly lz fx fy fz v.length _ 0 (by omega) (by omega) (by omega)
end Go.Proofs.Ytplmeknmeobanaa.Pure
