/- Vectors in plain Lean: narrower ones, sums, products; numbers with a denominator in spans. -/
import Derived.Test.YtehjfjdopeadfaaVcC
import Derived.Test.YtehjfjdopeadfaaSpN
set_option linter.unusedVariables false
set_option linter.unusedSimpArgs false
namespace Go.Proofs.Ytehjfjdopeadfaa
open SpMath

theorem vin_iff (v u : Vc) : vin v u = true ↔ inn v.x u.x = true ∧ inn v.y u.y = true ∧ inn v.z u.z = true := by
  unfold vin
  rw [Bool.and_eq_true, Bool.and_eq_true, and_assoc]

theorem narrow_dot {v w x y : Vc} (h1 : vin v x = true) (h2 : vin w y = true) : inn (dot v w) (dot x y) = true := by
  obtain ⟨a, b, c⟩ := (vin_iff _ _).1 h1
  obtain ⟨d, e, f⟩ := (vin_iff _ _).1 h2
  exact narrow_add (narrow_add (narrow_mul a d) (narrow_mul b e)) (narrow_mul c f)
theorem narrow_cross {v w x y : Vc} (h1 : vin v x = true) (h2 : vin w y = true) : vin (cross v w) (cross x y) = true := by
  obtain ⟨a, b, c⟩ := (vin_iff _ _).1 h1
  obtain ⟨d, e, f⟩ := (vin_iff _ _).1 h2
  exact (vin_iff _ _).2 ⟨narrow_sub (narrow_mul b f) (narrow_mul c e), narrow_sub (narrow_mul c d) (narrow_mul a f), narrow_sub (narrow_mul a e) (narrow_mul b d)⟩
theorem narrow_norm2 {v x : Vc} (h1 : vin v x = true) : inn (norm2 v) (norm2 x) = true := by
  obtain ⟨a, b, c⟩ := (vin_iff _ _).1 h1
  exact narrow_add (narrow_add (narrow_sqr a) (narrow_sqr b)) (narrow_sqr c)
theorem narrow_vadd {v w x y : Vc} (h1 : vin v x = true) (h2 : vin w y = true) : vin (vadd v w) (vadd x y) = true := by
  obtain ⟨a, b, c⟩ := (vin_iff _ _).1 h1
  obtain ⟨d, e, f⟩ := (vin_iff _ _).1 h2
  exact (vin_iff _ _).2 ⟨narrow_add a d, narrow_add b e, narrow_add c f⟩
theorem narrow_vsub {v w x y : Vc} (h1 : vin v x = true) (h2 : vin w y = true) : vin (vsub v w) (vsub x y) = true := by
  obtain ⟨a, b, c⟩ := (vin_iff _ _).1 h1
  obtain ⟨d, e, f⟩ := (vin_iff _ _).1 h2
  exact (vin_iff _ _).2 ⟨narrow_sub a d, narrow_sub b e, narrow_sub c f⟩

theorem both_comm {x y : Sp} {f : Sp → Sp → Sp} (h : f x y = f y x) : both x y f = both y x f := by
  unfold both
  by_cases k : Fin x ∧ Fin y
  · rw [if_pos k, if_pos ⟨k.2, k.1⟩, h]
  · rw [if_neg k, if_neg (fun j => k ⟨j.2, j.1⟩)]
theorem add_comm' (x y : Sp) : add x y = add y x := both_comm (by unfold addF; rw [Int.add_comm x.lo, Int.add_comm x.hi])
theorem mul_comm' (x y : Sp) : mul x y = mul y x := both_comm (by
  unfold mulF
  have e1 : lo4 (x.lo * y.lo) (x.lo * y.hi) (x.hi * y.lo) (x.hi * y.hi) = lo4 (y.lo * x.lo) (y.lo * x.hi) (y.hi * x.lo) (y.hi * x.hi) := by
    rw [Int.mul_comm y.lo, Int.mul_comm y.lo, Int.mul_comm y.hi, Int.mul_comm y.hi]; unfold lo4; omega
  have e2 : hi4 (x.lo * y.lo) (x.lo * y.hi) (x.hi * y.lo) (x.hi * y.hi) = hi4 (y.lo * x.lo) (y.lo * x.hi) (y.hi * x.lo) (y.hi * x.hi) := by
    rw [Int.mul_comm y.lo, Int.mul_comm y.lo, Int.mul_comm y.hi, Int.mul_comm y.hi]; unfold hi4; omega
  rw [e1, e2])
theorem vadd_comm (v w : Vc) : vadd v w = vadd w v := by
  unfold vadd veach
  rw [add_comm' v.x, add_comm' v.y, add_comm' v.z]
theorem dot_comm (v w : Vc) : dot v w = dot w v := by
  unfold dot
  rw [mul_comm' v.x, mul_comm' v.y, mul_comm' v.z]

theorem inn_refl' (x : Sp) : inn x x = true := by
  rcases right_cases x with ⟨f, _⟩ | ⟨_, e⟩
  · exact (inn_iff x x).2 (.inr ⟨f, f, Int.le_refl _, Int.le_refl _⟩)
  · exact (inn_iff x x).2 (.inl e)

theorem mul_one_in (x : Sp) : inn x (mul x (of 1048576 1048576)) = true ∧ inn (mul x (of 1048576 1048576)) x = true := by
  have e1 : of 1048576 1048576 = ⟨1048576, 1048576, false⟩ := by decide
  rw [e1]
  by_cases f : Fin x
  · have e : mul x ⟨1048576, 1048576, false⟩ = x := by
      rw [show mul x ⟨1048576, 1048576, false⟩ = mulF x ⟨1048576, 1048576, false⟩ from if_pos ⟨f, by decide⟩]
      have f0 := f.1; have f1 := f.2.1; have f2 := f.2.2.1; have f3 := f.2.2.2
      obtain ⟨lo, hi, all⟩ := x
      simp only at f0 f1 f2 f3
      subst f0
      unfold mulF
      simp only
      rw [show lo4 (lo * 1048576) (lo * 1048576) (hi * 1048576) (hi * 1048576) / 1048576 = lo by unfold lo4; omega, show -(-hi4 (lo * 1048576) (lo * 1048576) (hi * 1048576) (hi * 1048576) / 1048576) = hi by unfold hi4; omega, made_fin f1 f2 f3]
    rw [e]
    exact ⟨inn_refl' x, inn_refl' x⟩
  · rw [show mul x ⟨1048576, 1048576, false⟩ = whole from if_neg (fun k => f k.1)]
    exact ⟨inn_whole x, (inn_iff _ _).2 (.inl (right_not f))⟩

theorem scale_one (v : Vc) : vin v (vscale v (of 1048576 1048576)) = true ∧ vin (vscale v (of 1048576 1048576)) v = true :=
  ⟨(vin_iff _ _).2 ⟨(mul_one_in v.x).1, (mul_one_in v.y).1, (mul_one_in v.z).1⟩, (vin_iff _ _).2 ⟨(mul_one_in v.x).2, (mul_one_in v.y).2, (mul_one_in v.z).2⟩⟩

theorem back_in (x y : Sp) : inn x (add (sub x y) y) = true := by
  by_cases f : Fin x ∧ Fin y
  · rw [show sub x y = made (x.lo - y.hi) (x.hi - y.lo) from if_pos f]
    obtain ⟨fx, fy⟩ := f
    have x2 := fx.2.2.1; have y2 := fy.2.2.1
    rcases made_cases (x.lo - y.hi) (x.hi - y.lo) with ⟨e, k1, k2, k3⟩ | e
    · rw [e]
      rw [show add ⟨x.lo - y.hi, x.hi - y.lo, false⟩ y = made (x.lo - y.hi + y.lo) (x.hi - y.lo + y.hi) from if_pos ⟨⟨rfl, k1, k2, k3⟩, fy⟩]
      have := inn_made (a := x.lo) (b := x.hi) (c := x.lo - y.hi + y.lo) (d := x.hi - y.lo + y.hi) (by omega) x2 (by omega)
      rwa [show made x.lo x.hi = x from by rw [made_fin fx.2.1 x2 fx.2.2.2]; obtain ⟨lo, hi, all⟩ := x; have := fx.1; simp only at this; subst this; rfl] at this
    · rw [e, show add whole y = whole from both_not (f := addF) (fun k => whole_not k.1)]
      exact inn_whole x
  · rw [show sub x y = whole from if_neg f, show add whole y = whole from both_not (f := addF) (fun k => whole_not k.1)]
    exact inn_whole x
theorem vback_in (v w : Vc) : vin v (vadd (vsub v w) w) = true := (vin_iff _ _).2 ⟨back_in _ _, back_in _ _, back_in _ _⟩

/-! ### Numbers with a denominator -/

/-- n / d is a number of a span. -/
def InR (s : Sp) (n d : Int) : Prop := ¬ Fin s ∨ (s.lo * d ≤ n ∧ n ≤ s.hi * d)

theorem inr_made {lo hi n d : Int} (h1 : lo * d ≤ n) (h2 : n ≤ hi * d) : InR (made lo hi) n d := by
  rcases made_cases lo hi with ⟨e, _⟩ | e
  · rw [e]; exact .inr ⟨h1, h2⟩
  · rw [e]; exact .inl whole_not
theorem inr_both {x y : Sp} {f : Sp → Sp → Sp} {n d : Int} (h : Fin x → Fin y → InR (f x y) n d) : InR (both x y f) n d := by
  unfold both
  split
  next k => exact h k.1 k.2
  next k => exact .inl whole_not
theorem InR.fin {s : Sp} {n d : Int} (h : InR s n d) (f : Fin s) : s.lo * d ≤ n ∧ n ≤ s.hi * d := h.resolve_left (fun k => k f)

theorem inr_add {x y : Sp} {n m d : Int} (h1 : InR x n d) (h2 : InR y m d) : InR (add x y) (n + m) d := inr_both fun fx fy => by
  have a := h1.fin fx; have b := h2.fin fy
  exact inr_made (by rw [Int.add_mul]; omega) (by rw [Int.add_mul]; omega)
theorem inr_sub {x y : Sp} {n m d : Int} (h1 : InR x n d) (h2 : InR y m d) : InR (sub x y) (n - m) d := inr_both fun fx fy => by
  have a := h1.fin fx; have b := h2.fin fy
  exact inr_made (by rw [Int.sub_mul]; omega) (by rw [Int.sub_mul]; omega)

theorem lo4_mul (a b c d : Int) {k : Int} (hk : 0 ≤ k) : lo4 (a * k) (b * k) (c * k) (d * k) = lo4 a b c d * k := by
  have h : ∀ x y : Int, min (x * k) (y * k) = min x y * k := by
    intro x y
    by_cases hxy : x ≤ y
    · have := Int.mul_le_mul_of_nonneg_right hxy hk
      rw [show min x y = x by omega]; omega
    · have := Int.mul_le_mul_of_nonneg_right (show y ≤ x by omega) hk
      rw [show min x y = y by omega]; omega
  unfold lo4
  rw [h, h, h]
theorem hi4_mul (a b c d : Int) {k : Int} (hk : 0 ≤ k) : hi4 (a * k) (b * k) (c * k) (d * k) = hi4 a b c d * k := by
  have h : ∀ x y : Int, max (x * k) (y * k) = max x y * k := by
    intro x y
    by_cases hxy : x ≤ y
    · have := Int.mul_le_mul_of_nonneg_right hxy hk
      rw [show max x y = y by omega]; omega
    · have := Int.mul_le_mul_of_nonneg_right (show y ≤ x by omega) hk
      rw [show max x y = x by omega]; omega
  unfold hi4
  rw [h, h, h]

theorem floor_le {L n k : Int} (hk : 0 ≤ k) (h : L * k ≤ n) : L / 1048576 * (k * 1048576) ≤ n := by
  have h1 : L / 1048576 * 1048576 ≤ L := by omega
  have h2 := Int.mul_le_mul_of_nonneg_right h1 hk
  have e : L / 1048576 * (k * 1048576) = L / 1048576 * 1048576 * k := by rw [Int.mul_comm k, Int.mul_assoc]
  omega
theorem le_ceil {L n k : Int} (hk : 0 ≤ k) (h : n ≤ L * k) : n ≤ -(-L / 1048576) * (k * 1048576) := by
  have := floor_le (L := -L) (n := -n) hk (by rw [Int.neg_mul]; omega)
  rw [Int.neg_mul]
  omega

theorem inr_mul {x y : Sp} {n m d e : Int} (hd : 0 ≤ d) (he : 0 ≤ e) (h1 : InR x n d) (h2 : InR y m e) : InR (mul x y) (n * m) (d * e * 1048576) := inr_both fun fx fy => by
  obtain ⟨a, b⟩ := h1.fin fx
  obtain ⟨a', b'⟩ := h2.fin fy
  have hp := prod_between a b a' b'
  have hk : 0 ≤ d * e := Int.mul_nonneg hd he
  have sw : ∀ p q : Int, p * d * (q * e) = p * q * (d * e) := by intro p q; rw [Int.mul_assoc, Int.mul_assoc, ← Int.mul_assoc d, ← Int.mul_assoc q, Int.mul_comm d q]
  rw [sw, sw, sw, sw, lo4_mul _ _ _ _ hk, hi4_mul _ _ _ _ hk] at hp
  exact inr_made (floor_le hk hp.1) (le_ceil hk hp.2)

theorem inr_sqr {x : Sp} {n d : Int} (hd : 0 ≤ d) (h : InR x n d) : InR (sqr x) (n * n) (d * d * 1048576) := by
  have hm := inr_mul hd hd h h
  unfold sqr
  split
  next k =>
    by_cases fm : Fin (mul x x)
    · refine .inr ⟨?_, (hm.fin fm).2⟩
      show 0 * (d * d * 1048576) ≤ n * n
      rw [Int.zero_mul]
      exact sq_nonneg n
    · exfalso
      rcases ok_cases (ok_mul x x) with f | e
      · exact fm f
      · have := k.2.1; rw [e] at this; cases this
  · exact hm

theorem inr_of_has {x : Sp} {a : Int} (h : has x a = true) : InR x a 1 := by
  by_cases f : Fin x
  · have := (has_fin f).1 h
    exact .inr (by omega)
  · exact .inl f
theorem has_of_inr {x : Sp} (ho : Ok x) {d : Int} (hd : 0 < d) (h : InR x 0 d) : has x 0 = true := by
  by_cases f : Fin x
  · obtain ⟨a, b⟩ := h.fin f
    refine (has_fin f).2 ⟨?_, ?_⟩
    · apply Classical.byContradiction
      intro k
      have := Int.mul_le_mul_of_nonneg_right (show 1 ≤ x.lo by omega) (show 0 ≤ d by omega)
      omega
    · apply Classical.byContradiction
      intro k
      have := Int.mul_le_mul_of_nonneg_right (show x.hi ≤ -1 by omega) (show 0 ≤ d by omega)
      omega
  · unfold has
    rw [right_not f]; rfl
theorem inr_some (x : Sp) : ∃ n, InR x n 1 := ⟨x.lo, by
  by_cases f : Fin x
  · exact .inr (by have := f.2.2.1; omega)
  · exact .inl f⟩
theorem withinB_of_inr {x : Sp} (ho : Ok x) {n d : Int} (h : InR x n d) : withinB x n d = true := by
  unfold withinB
  rcases ok_fin ho with a | f
  · rw [a]; rfl
  · obtain ⟨h1, h2⟩ := h.fin f
    rw [decide_eq_true h1, decide_eq_true h2, Bool.and_self, Bool.or_true]

/-- Two spans that have one number in common meet. -/
theorem meet_of_inr {x y : Sp} {n d : Int} (hd : 0 < d) (h1 : InR x n d) (h2 : InR y n d) : (meet x y).2 = true := by
  unfold meet
  by_cases fx : Fin x
  · by_cases fy : Fin y
    · obtain ⟨a, b⟩ := h1.fin fx
      obtain ⟨a', b'⟩ := h2.fin fy
      have le : ∀ p q : Int, p * d ≤ n → n ≤ q * d → p ≤ q := by
        intro p q hp hq
        apply Classical.byContradiction
        intro k
        have := Int.mul_le_mul_of_nonneg_right (show q + 1 ≤ p by omega) (show 0 ≤ d by omega)
        rw [Int.add_mul] at this
        omega
      have k1 := le _ _ a b
      have k2 := le _ _ a b'
      have k3 := le _ _ a' b
      have k4 := le _ _ a' b'
      rw [right_fin fx, right_fin fy]
      split
      · rfl
      · split
        · rfl
        · rw [if_neg (by omega)]
    · rw [right_not fy]
      split
      · rfl
      · rw [if_pos rfl]
  · rw [right_not fx, if_pos rfl]

theorem neg_sub (a b : Sp) : sub (of 0 0) (sub b a) = sub a b := by
  have e0 : of 0 0 = ⟨0, 0, false⟩ := by decide
  rw [e0]
  by_cases f : Fin a ∧ Fin b
  · rw [show sub b a = made (b.lo - a.hi) (b.hi - a.lo) from if_pos ⟨f.2, f.1⟩, show sub a b = made (a.lo - b.hi) (a.hi - b.lo) from if_pos f]
    have a2 := f.1.2.2.1; have b2 := f.2.2.2.1
    rcases made_cases (b.lo - a.hi) (b.hi - a.lo) with ⟨e, k1, k2, k3⟩ | e
    · rw [e, show sub ⟨0, 0, false⟩ ⟨b.lo - a.hi, b.hi - a.lo, false⟩ = made (0 - (b.hi - a.lo)) (0 - (b.lo - a.hi)) from if_pos ⟨by decide, ⟨rfl, k1, k2, k3⟩⟩]
      rw [show 0 - (b.hi - a.lo) = a.lo - b.hi by omega, show 0 - (b.lo - a.hi) = a.hi - b.lo by omega]
    · rw [e, show sub ⟨0, 0, false⟩ whole = whole from both_not (f := subF) (fun k => whole_not k.2)]
      rcases made_cases (a.lo - b.hi) (a.hi - b.lo) with ⟨e2, j1, j2, j3⟩ | e2
      · rw [made_fin (by omega) (by omega) (by omega)] at e
        exact absurd e (fin_ne _ _)
      · rw [e2]
  · rw [show sub b a = whole from if_neg (fun k => f ⟨k.2, k.1⟩), show sub a b = whole from if_neg f]
    exact both_not (f := subF) (fun k => whole_not k.2)

theorem vturn (v w : Vc) : vsub (vof 0 0 0) (cross w v) = cross v w := by
  unfold vsub veach vof cross
  simp only
  rw [mul_comm' w.y v.z, mul_comm' w.z v.y, mul_comm' w.z v.x, mul_comm' w.x v.z, mul_comm' w.x v.y, mul_comm' w.y v.x, neg_sub, neg_sub, neg_sub]

theorem ok_dot (v w : Vc) : Ok (dot v w) := ok_add _ _
theorem ok_norm2 (v : Vc) : Ok (norm2 v) := ok_add _ _

theorem inr_dot {v w : Vc} {a b c p q r d e : Int} (hd : 0 ≤ d) (he : 0 ≤ e) (h1 : InR v.x a d) (h2 : InR v.y b d) (h3 : InR v.z c d) (k1 : InR w.x p e) (k2 : InR w.y q e) (k3 : InR w.z r e) :
    InR (dot v w) (a * p + b * q + c * r) (d * e * 1048576) := inr_add (inr_add (inr_mul hd he h1 k1) (inr_mul hd he h2 k2)) (inr_mul hd he h3 k3)
theorem inr_norm2 {v : Vc} {a b c d : Int} (hd : 0 ≤ d) (h1 : InR v.x a d) (h2 : InR v.y b d) (h3 : InR v.z c d) :
    InR (norm2 v) (a * a + b * b + c * c) (d * d * 1048576) := inr_add (inr_add (inr_sqr hd h1) (inr_sqr hd h2)) (inr_sqr hd h3)
theorem inr_cross {v w : Vc} {a b c p q r : Int} (h1 : InR v.x a 1) (h2 : InR v.y b 1) (h3 : InR v.z c 1) (k1 : InR w.x p 1) (k2 : InR w.y q 1) (k3 : InR w.z r 1) :
    InR (cross v w).x (b * r - c * q) 1048576 ∧ InR (cross v w).y (c * p - a * r) 1048576 ∧ InR (cross v w).z (a * q - b * p) 1048576 :=
  ⟨inr_sub (inr_mul (by decide) (by decide) h2 k3) (inr_mul (by decide) (by decide) h3 k2), inr_sub (inr_mul (by decide) (by decide) h3 k1) (inr_mul (by decide) (by decide) h1 k3), inr_sub (inr_mul (by decide) (by decide) h1 k2) (inr_mul (by decide) (by decide) h2 k1)⟩

theorem upright (v w : Vc) : has (dot v (cross v w)) 0 = true ∧ has (dot w (cross v w)) 0 = true ∧ (meet (mul (norm2 v) (norm2 w)) (add (sqr (dot v w)) (norm2 (cross v w)))).2 = true := by
  obtain ⟨a, h1⟩ := inr_some v.x
  obtain ⟨b, h2⟩ := inr_some v.y
  obtain ⟨c, h3⟩ := inr_some v.z
  obtain ⟨p, k1⟩ := inr_some w.x
  obtain ⟨q, k2⟩ := inr_some w.y
  obtain ⟨r, k3⟩ := inr_some w.z
  obtain ⟨c1, c2, c3⟩ := inr_cross h1 h2 h3 k1 k2 k3
  have d1 := inr_dot (by decide) (by decide) h1 h2 h3 c1 c2 c3
  have d2 := inr_dot (by decide) (by decide) k1 k2 k3 c1 c2 c3
  have e1 : a * (b * r - c * q) + b * (c * p - a * r) + c * (a * q - b * p) = 0 := by grind
  have e2 : p * (b * r - c * q) + q * (c * p - a * r) + r * (a * q - b * p) = 0 := by grind
  rw [e1] at d1
  rw [e2] at d2
  refine ⟨has_of_inr (ok_dot _ _) (by decide) d1, has_of_inr (ok_dot _ _) (by decide) d2, ?_⟩
  have m1 := inr_mul (by decide) (by decide) (inr_norm2 (by decide) h1 h2 h3) (inr_norm2 (by decide) k1 k2 k3)
  have m2 := inr_sqr (by decide) (inr_dot (by decide) (by decide) h1 h2 h3 k1 k2 k3)
  have m3 := inr_norm2 (by decide) c1 c2 c3
  have m4 := inr_add (x := sqr (dot v w)) (y := norm2 (cross v w)) (d := 1152921504606846976) (by simpa using m2) (by simpa using m3)
  have e3 : (a * p + b * q + c * r) * (a * p + b * q + c * r) + ((b * r - c * q) * (b * r - c * q) + (c * p - a * r) * (c * p - a * r) + (a * q - b * p) * (a * q - b * p)) = (a * a + b * b + c * c) * (p * p + q * q + r * r) := by grind
  rw [e3] at m4
  exact meet_of_inr (d := 1152921504606846976) (by decide) (by simpa using m1) m4
end Go.Proofs.Ytehjfjdopeadfaa
