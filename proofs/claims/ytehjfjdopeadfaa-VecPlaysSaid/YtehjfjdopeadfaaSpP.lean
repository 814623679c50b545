/- Spans in plain Lean: what is in spans is in what comes of them; of narrower ones comes what is in that of wider ones. -/
import Derived.Test.YtehjfjdopeadfaaSp
set_option linter.unusedVariables false
set_option linter.unusedSimpArgs false
namespace Go.Proofs.Ytehjfjdopeadfaa.SpMath

/-- A product lies between the products of the ends. -/
theorem prod_between {a b c d x y : Int} (h1 : a ≤ x) (h2 : x ≤ b) (h3 : c ≤ y) (h4 : y ≤ d) : lo4 (a * c) (a * d) (b * c) (b * d) ≤ x * y ∧ x * y ≤ hi4 (a * c) (a * d) (b * c) (b * d) := by
  have key : ∀ (y : Int), (a * y ≤ x * y ∧ x * y ≤ b * y) ∨ (b * y ≤ x * y ∧ x * y ≤ a * y) := by
    intro y
    by_cases hy : 0 ≤ y
    · exact .inl ⟨Int.mul_le_mul_of_nonneg_right h1 hy, Int.mul_le_mul_of_nonneg_right h2 hy⟩
    · exact .inr ⟨Int.mul_le_mul_of_nonpos_right h2 (by omega), Int.mul_le_mul_of_nonpos_right h1 (by omega)⟩
  have key2 : ∀ (z : Int), (z * c ≤ z * y ∧ z * y ≤ z * d) ∨ (z * d ≤ z * y ∧ z * y ≤ z * c) := by
    intro z
    by_cases hz : 0 ≤ z
    · exact .inl ⟨Int.mul_le_mul_of_nonneg_left h3 hz, Int.mul_le_mul_of_nonneg_left h4 hz⟩
    · exact .inr ⟨Int.mul_le_mul_of_nonpos_left (by omega) h4, Int.mul_le_mul_of_nonpos_left (by omega) h3⟩
  have k1 := key y
  have k2 := key2 a
  have k3 := key2 b
  unfold lo4 hi4
  omega

theorem made_cases (lo hi : Int) : (made lo hi = ⟨lo, hi, false⟩ ∧ -2147483647 ≤ lo ∧ lo ≤ hi ∧ hi ≤ 2147483647) ∨ made lo hi = whole := by
  unfold made
  rcases right_cases ⟨lo, hi, false⟩ with ⟨h, e⟩ | ⟨h, e⟩
  · exact .inl ⟨e, h.2.1, h.2.2.1, h.2.2.2⟩
  · exact .inr e

theorem made_fin {lo hi : Int} (h1 : -2147483647 ≤ lo) (h2 : lo ≤ hi) (h3 : hi ≤ 2147483647) : made lo hi = ⟨lo, hi, false⟩ := right_fin ⟨rfl, h1, h2, h3⟩

theorem right_made (lo hi : Int) : right (made lo hi) = made lo hi := right_right _

/-- Is a span right as it stands? -/
def Ok (s : Sp) : Prop := right s = s
theorem ok_made (lo hi : Int) : Ok (made lo hi) := right_made _ _
theorem ok_whole : Ok whole := right_not whole_not
theorem ok_both {x y : Sp} {f : Sp → Sp → Sp} (h : ∀ x y, Ok (f x y)) : Ok (both x y f) := by
  unfold both
  split
  · exact h _ _
  · exact ok_whole
theorem ok_add (x y : Sp) : Ok (add x y) := ok_both fun _ _ => ok_made _ _
theorem ok_sub (x y : Sp) : Ok (sub x y) := ok_both fun _ _ => ok_made _ _
theorem ok_mul (x y : Sp) : Ok (mul x y) := ok_both fun _ _ => ok_made _ _
theorem ok_div (x y : Sp) : Ok (div x y) := ok_both fun _ _ => by
  unfold divF
  split
  · exact ok_whole
  · exact ok_made _ _
theorem ok_cases {s : Sp} (h : Ok s) : Fin s ∨ s = whole := by
  rcases right_cases s with ⟨f, _⟩ | ⟨_, e⟩
  · exact .inl f
  · exact .inr (by rw [← h, e])

theorem has_fin {s : Sp} {n : Int} (hs : Fin s) : has s n = true ↔ s.lo ≤ n ∧ n ≤ s.hi := by
  unfold has
  rw [right_fin hs]
  simp [hs.1]

/-- How a span lies in another one. -/
theorem inn_iff (x y : Sp) : inn x y = true ↔ right y = whole ∨ (Fin x ∧ Fin y ∧ y.lo ≤ x.lo ∧ x.hi ≤ y.hi) := by
  unfold inn
  rcases right_cases y with ⟨fy, ey⟩ | ⟨fy, ey⟩
  · rcases right_cases x with ⟨fx, ex⟩ | ⟨fx, ex⟩
    · have h1 : right y ≠ whole := by rw [ey]; intro e; rw [e] at fy; exact whole_not fy
      have h2 : right x ≠ whole := by rw [ex]; intro e; rw [e] at fx; exact whole_not fx
      rw [ex, ey] at *
      simp [h1, h2, fx, fy]
    · have h1 : right y ≠ whole := by rw [ey]; intro e; rw [e] at fy; exact whole_not fy
      rw [ex, ey] at *
      simp [h1, fx]
  · rw [ey]
    simp

/-- Floors: where they stand. -/
theorem fl_iff {a b z : Int} (hb : 0 < b) : z ≤ fl a b ↔ z * b ≤ a := by
  unfold fl
  rw [if_pos hb]
  exact Int.le_ediv_iff_mul_le hb

theorem fl_mul_le {a b : Int} (hb : 0 < b) : fl a b * b ≤ a := (fl_iff hb).1 (Int.le_refl _)

/-- The least of the four floors, times a number of the span, is not above. -/
theorem lo_div {a c d x y : Int} (h1 : a ≤ x) (h3 : 0 < c) (h4 : c ≤ y) (h5 : y ≤ d) (b : Int) : lo4 (fl a c) (fl a d) (fl b c) (fl b d) * y ≤ x := by
  have m1 := fl_mul_le (a := a) h3
  have m2 := fl_mul_le (a := a) (show 0 < d by omega)
  generalize fl b c = p
  generalize fl b d = q
  by_cases ha : 0 ≤ a
  · -- a ≥ 0: by d
    have hq : 0 ≤ fl a d := (fl_iff (by omega)).2 (by omega)
    have hle : lo4 (fl a c) (fl a d) p q ≤ fl a d := by unfold lo4; omega
    have e1 := Int.mul_le_mul_of_nonneg_right hle (show 0 ≤ y by omega)
    have e2 := Int.mul_le_mul_of_nonneg_left h5 hq
    omega
  · have hq : fl a c ≤ 0 := by
      have : ¬ 1 ≤ fl a c := fun h => by have := (fl_iff h3).1 h; omega
      omega
    have hle : lo4 (fl a c) (fl a d) p q ≤ fl a c := by unfold lo4; omega
    have e1 := Int.mul_le_mul_of_nonneg_right hle (show 0 ≤ y by omega)
    have e2 := Int.mul_le_mul_of_nonpos_left hq h4
    omega
end Go.Proofs.Ytehjfjdopeadfaa.SpMath
