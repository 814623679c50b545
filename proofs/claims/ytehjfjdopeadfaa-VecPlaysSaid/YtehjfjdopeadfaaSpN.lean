/- Spans in plain Lean: roots; of narrower spans comes what is in that of wider ones. -/
import Derived.Test.YtehjfjdopeadfaaSpRt
import Derived.Test.YtehjfjdopeadfaaSpP2
set_option linter.unusedVariables false
set_option linter.unusedSimpArgs false
namespace Go.Proofs.Ytehjfjdopeadfaa.SpMath

theorem ok_fin {s : Sp} (h : Ok s) : s.all = true ∨ Fin s := by
  rcases ok_cases h with f | e
  · exact .inr f
  · exact .inl (by rw [e]; rfl)
theorem ok_of_fin {s : Sp} (h : Fin s) : Ok s := right_fin h
theorem ok_of (a b : Int) : Ok (of a b) := ok_made _ _
theorem ok_neg (x : Sp) : Ok (neg x) := ok_sub _ _
theorem ok_join (x y : Sp) : Ok (join x y) := by
  unfold join
  split
  · exact ok_whole
  · exact ok_made _ _
theorem ok_sqrt (x : Sp) : Ok (sqrt x) := by
  unfold sqrt
  split
  · exact ok_whole
  · exact ok_made _ _
theorem ok_sqr (x : Sp) : Ok (sqr x) := by
  unfold sqr
  split
  next h =>
    obtain ⟨fx, hall, h1, h2⟩ := h
    rcases ok_cases (ok_mul x x) with f | e
    · refine ok_of_fin ⟨f.1, by show (-2147483647 : Int) ≤ 0; omega, ?_, f.2.2.2⟩
      show 0 ≤ (mul x x).hi
      have h0 : has x 0 = true := (has_fin fx).2 ⟨h1, h2⟩
      rcases holds_mul h0 h0 with hm | hm
      · rw [hm] at hall; cases hall
      · have := hm.2
        omega
    · rw [e] at hall; cases hall
  · exact ok_mul x x

theorem holds_sqrt {x : Sp} {a : Int} (ha : has x a = true) (h0 : 0 ≤ a) : (sqrt x).all = true ∨ ((sqrt x).lo * (sqrt x).lo ≤ a * 1048576 ∧ a * 1048576 ≤ (sqrt x).hi * (sqrt x).hi) := by
  unfold sqrt
  rcases right_cases x with ⟨f, e⟩ | ⟨f, e⟩
  · rw [e]
    have hb := (has_fin f).1 ha
    obtain ⟨f0, f1, f2, f3⟩ := f
    split
    · exact .inl rfl
    next hn =>
      obtain ⟨l, hl⟩ : ∃ l, rt (max x.lo 0 * 1048576) = l := ⟨_, rfl⟩
      obtain ⟨h, hh⟩ : ∃ h, rt (x.hi * 1048576) = h := ⟨_, rfl⟩
      have s1 := rt_spec (A := max x.lo 0 * 1048576) (by omega) (by omega)
      have s2 := rt_spec (A := x.hi * 1048576) (by omega) (by omega)
      rw [hl] at s1 ⊢
      rw [hh] at s2 ⊢
      split
      next hs =>
        rcases made_cases l (h + 1) with ⟨e, _⟩ | e
        · rw [e]
          refine .inr ⟨?_, ?_⟩
          · show l * l ≤ a * 1048576
            omega
          · show a * 1048576 ≤ (h + 1) * (h + 1)
            omega
        · rw [e]; exact .inl rfl
      next hs =>
        rcases made_cases l h with ⟨e, _⟩ | e
        · rw [e]
          refine .inr ⟨?_, ?_⟩
          · show l * l ≤ a * 1048576
            omega
          · show a * 1048576 ≤ h * h
            omega
        · rw [e]; exact .inl rfl
  · rw [e]
    exact .inl rfl

theorem inn_whole (x : Sp) : inn x whole = true := (inn_iff x whole).2 (.inl (right_not whole_not))
theorem fin_whole {u : Sp} (h : Fin u) : right u ≠ whole := by rw [right_fin h]; intro e; rw [e] at h; exact whole_not h
theorem inn_fin {x u : Sp} (h : inn x u = true) (f : Fin u) : Fin x ∧ u.lo ≤ x.lo ∧ x.hi ≤ u.hi := by
  rcases (inn_iff x u).1 h with e | ⟨a, b, c, d⟩
  · exact absurd e (fin_whole f)
  · exact ⟨a, c, d⟩

theorem inn_made {a b c d : Int} (h1 : c ≤ a) (h2 : a ≤ b) (h3 : b ≤ d) : inn (made a b) (made c d) = true := by
  rcases made_cases c d with ⟨e, k1, k2, k3⟩ | e
  · rw [made_fin (by omega) h2 (by omega), e]
    exact (inn_iff _ _).2 (.inr ⟨⟨rfl, by show (-2147483647 : Int) ≤ a; omega, h2, by show b ≤ 2147483647; omega⟩, ⟨rfl, k1, k2, k3⟩, h1, h3⟩)
  · rw [e]; exact inn_whole _

theorem inn_both {x y u v : Sp} {f : Sp → Sp → Sp} (h1 : inn x u = true) (h2 : inn y v = true)
    (h : Fin x → Fin y → Fin u → Fin v → u.lo ≤ x.lo → x.hi ≤ u.hi → v.lo ≤ y.lo → y.hi ≤ v.hi → inn (f x y) (f u v) = true) : inn (both x y f) (both u v f) = true := by
  by_cases hf : Fin u ∧ Fin v
  · obtain ⟨a, b, c⟩ := inn_fin h1 hf.1
    obtain ⟨d, e, g⟩ := inn_fin h2 hf.2
    unfold both
    rw [if_pos hf, if_pos ⟨a, d⟩]
    exact h a d hf.1 hf.2 b c e g
  · rw [show both u v f = whole from if_neg hf]
    exact inn_whole _

theorem narrow_add {x y u v : Sp} (h1 : inn x u = true) (h2 : inn y v = true) : inn (add x y) (add u v) = true :=
  inn_both h1 h2 fun a b _ _ h3 h4 h5 h6 => inn_made (by omega) (by have := a.2.2.1; have := b.2.2.1; omega) (by omega)
theorem narrow_sub {x y u v : Sp} (h1 : inn x u = true) (h2 : inn y v = true) : inn (sub x y) (sub u v) = true :=
  inn_both h1 h2 fun a b _ _ h3 h4 h5 h6 => inn_made (by omega) (by have := a.2.2.1; have := b.2.2.1; omega) (by omega)
theorem narrow_neg {x u : Sp} (h : inn x u = true) : inn (neg x) (neg u) = true := narrow_sub (by decide) h

theorem narrow_mul {x y u v : Sp} (h1 : inn x u = true) (h2 : inn y v = true) : inn (mul x y) (mul u v) = true :=
  inn_both h1 h2 fun a b _ _ h3 h4 h5 h6 => by
    have hx := a.2.2.1; have hy := b.2.2.1
    have p1 := prod_between (x := x.lo) (y := y.lo) h3 (by omega : x.lo ≤ u.hi) h5 (by omega : y.lo ≤ v.hi)
    have p2 := prod_between (x := x.lo) (y := y.hi) h3 (by omega : x.lo ≤ u.hi) (by omega : v.lo ≤ y.hi) h6
    have p3 := prod_between (x := x.hi) (y := y.lo) (by omega : u.lo ≤ x.hi) h4 h5 (by omega : y.lo ≤ v.hi)
    have p4 := prod_between (x := x.hi) (y := y.hi) (by omega : u.lo ≤ x.hi) h4 (by omega : v.lo ≤ y.hi) h6
    have q1 : lo4 (u.lo * v.lo) (u.lo * v.hi) (u.hi * v.lo) (u.hi * v.hi) ≤ lo4 (x.lo * y.lo) (x.lo * y.hi) (x.hi * y.lo) (x.hi * y.hi) := by
      generalize lo4 (u.lo * v.lo) (u.lo * v.hi) (u.hi * v.lo) (u.hi * v.hi) = L at *
      unfold lo4; omega
    have q2 : hi4 (x.lo * y.lo) (x.lo * y.hi) (x.hi * y.lo) (x.hi * y.hi) ≤ hi4 (u.lo * v.lo) (u.lo * v.hi) (u.hi * v.lo) (u.hi * v.hi) := by
      generalize hi4 (u.lo * v.lo) (u.lo * v.hi) (u.hi * v.lo) (u.hi * v.hi) = H at *
      unfold hi4; omega
    have q3 : lo4 (x.lo * y.lo) (x.lo * y.hi) (x.hi * y.lo) (x.hi * y.hi) ≤ hi4 (x.lo * y.lo) (x.lo * y.hi) (x.hi * y.lo) (x.hi * y.hi) := by unfold lo4 hi4; omega
    exact inn_made (by omega) (by omega) (by omega)

/-- The least of the four floors of a pair of spans, without zero below. -/
def dlo (x y : Sp) : Int := lo4 (fl (x.lo * 1048576) y.lo) (fl (x.lo * 1048576) y.hi) (fl (x.hi * 1048576) y.lo) (fl (x.hi * 1048576) y.hi)
def dhi (x y : Sp) : Int := lo4 (fl (-x.lo * 1048576) y.lo) (fl (-x.lo * 1048576) y.hi) (fl (-x.hi * 1048576) y.lo) (fl (-x.hi * 1048576) y.hi)

/-- Each floor of narrower ends is not below the least of the wider ones': whatever the sign. -/
theorem fl_above {a b c d p q : Int} (h1 : a ≤ p) (h2 : p ≤ b) (h3 : c ≤ q) (h4 : q ≤ d) (h5 : 0 < c ∨ d < 0) : lo4 (fl a c) (fl a d) (fl b c) (fl b d) ≤ fl p q := by
  rcases h5 with h5 | h5
  · exact (fl_iff (by omega)).2 (lo_div h1 h5 h3 h4 b)
  · rw [fl_neg a c (by omega), fl_neg a d (by omega), fl_neg b c (by omega), fl_neg b d (by omega), fl_neg p q (by omega)]
    have := lo_div (a := -b) (c := -d) (d := -c) (x := -p) (y := -q) (by omega) (by omega) (by omega) (by omega) (-a)
    refine (fl_iff (by omega)).2 ?_
    have e : lo4 (fl (-a) (-c)) (fl (-a) (-d)) (fl (-b) (-c)) (fl (-b) (-d)) = lo4 (fl (-b) (-d)) (fl (-b) (-c)) (fl (-a) (-d)) (fl (-a) (-c)) := by unfold lo4; omega
    rw [e]
    exact this

/-- A floor and the contrary one's contrary. -/
theorem fl_both (a b : Int) (hb : b ≠ 0) : fl a b ≤ -fl (-a) b := by
  have key : ∀ a b : Int, 0 < b → fl a b ≤ -fl (-a) b := by
    intro a b hb
    have m1 := fl_mul_le (a := a) hb
    have m2 := fl_mul_le (a := -a) hb
    have : (fl a b + fl (-a) b) * b ≤ 0 := by rw [Int.add_mul]; omega
    have h : ¬ 1 ≤ fl a b + fl (-a) b := fun h => by
      have := Int.mul_le_mul_of_nonneg_right h (show 0 ≤ b by omega)
      omega
    omega
  by_cases hp : 0 < b
  · exact key a b hp
  · rw [fl_neg a b (by omega), fl_neg (-a) b (by omega)]
    have := key (-a) (-b) (by omega)
    rwa [Int.neg_neg] at this ⊢

theorem narrow_div {x y u v : Sp} (h1 : inn x u = true) (h2 : inn y v = true) : inn (div x y) (div u v) = true :=
  inn_both h1 h2 fun a b _ _ h3 h4 h5 h6 => by
    have hx := a.2.2.1; have hy := b.2.2.1
    unfold divF
    by_cases hv : v.lo ≤ 0 ∧ 0 ≤ v.hi
    · rw [if_pos hv]; exact inn_whole _
    · rw [if_neg hv, if_neg (by omega)]
      have hs : 0 < v.lo ∨ v.hi < 0 := by omega
      have k : ∀ p q : Int, x.lo ≤ p → p ≤ x.hi → y.lo ≤ q → q ≤ y.hi → lo4 (fl (u.lo * 1048576) v.lo) (fl (u.lo * 1048576) v.hi) (fl (u.hi * 1048576) v.lo) (fl (u.hi * 1048576) v.hi) ≤ fl (p * 1048576) q :=
        fun p q a1 a2 a3 a4 => fl_above (by omega) (by omega) (by omega) (by omega) hs
      have k' : ∀ p q : Int, x.lo ≤ p → p ≤ x.hi → y.lo ≤ q → q ≤ y.hi → lo4 (fl (-u.lo * 1048576) v.lo) (fl (-u.lo * 1048576) v.hi) (fl (-u.hi * 1048576) v.lo) (fl (-u.hi * 1048576) v.hi) ≤ fl (-p * 1048576) q := by
        intro p q a1 a2 a3 a4
        have := fl_above (a := -u.hi * 1048576) (b := -u.lo * 1048576) (c := v.lo) (d := v.hi) (p := -p * 1048576) (q := q) (by omega) (by omega) (by omega) (by omega) hs
        have e : lo4 (fl (-u.lo * 1048576) v.lo) (fl (-u.lo * 1048576) v.hi) (fl (-u.hi * 1048576) v.lo) (fl (-u.hi * 1048576) v.hi) = lo4 (fl (-u.hi * 1048576) v.lo) (fl (-u.hi * 1048576) v.hi) (fl (-u.lo * 1048576) v.lo) (fl (-u.lo * 1048576) v.hi) := by unfold lo4; omega
        rw [e]; exact this
      have z := fl_both (x.lo * 1048576) y.lo (by omega)
      rw [show -(x.lo * 1048576) = -x.lo * 1048576 by omega] at z
      have k1 := k x.lo y.lo (by omega) hx (by omega) hy
      have k2 := k x.lo y.hi (by omega) hx hy (by omega)
      have k3 := k x.hi y.lo hx (by omega) (by omega) hy
      have k4 := k x.hi y.hi hx (by omega) hy (by omega)
      have g1 := k' x.lo y.lo (by omega) hx (by omega) hy
      have g2 := k' x.lo y.hi (by omega) hx hy (by omega)
      have g3 := k' x.hi y.lo hx (by omega) (by omega) hy
      have g4 := k' x.hi y.hi hx (by omega) hy (by omega)
      clear k k'
      generalize lo4 (fl (u.lo * 1048576) v.lo) (fl (u.lo * 1048576) v.hi) (fl (u.hi * 1048576) v.lo) (fl (u.hi * 1048576) v.hi) = L at *
      generalize lo4 (fl (-u.lo * 1048576) v.lo) (fl (-u.lo * 1048576) v.hi) (fl (-u.hi * 1048576) v.lo) (fl (-u.hi * 1048576) v.hi) = M at *
      exact inn_made (by unfold lo4; omega) (by unfold lo4; omega) (by unfold lo4; omega)

theorem sqr_mul_lo {x : Sp} (f : Fin (mul x x)) (fx : Fin x) (h : ¬ (x.lo ≤ 0 ∧ 0 ≤ x.hi)) : 0 ≤ (mul x x).lo := by
  have hx := fx.2.2.1
  have e : mul x x = mulF x x := if_pos ⟨fx, fx⟩
  rcases made_cases (lo4 (x.lo * x.lo) (x.lo * x.hi) (x.hi * x.lo) (x.hi * x.hi) / 1048576) (-(-(hi4 (x.lo * x.lo) (x.lo * x.hi) (x.hi * x.lo) (x.hi * x.hi)) / 1048576)) with ⟨e2, -⟩ | e2
  · rw [e]
    unfold mulF
    rw [e2]
    show 0 ≤ lo4 (x.lo * x.lo) (x.lo * x.hi) (x.hi * x.lo) (x.hi * x.hi) / 1048576
    have k : 0 ≤ x.lo * x.hi ∧ 0 ≤ x.hi * x.lo := by
      by_cases hp : 0 < x.lo
      · exact ⟨Int.mul_nonneg (by omega) (by omega), Int.mul_nonneg (by omega) (by omega)⟩
      · exact ⟨Int.mul_nonneg_of_nonpos_of_nonpos (by omega) (by omega), Int.mul_nonneg_of_nonpos_of_nonpos (by omega) (by omega)⟩
    have := sq_nonneg x.lo; have := sq_nonneg x.hi
    have : 0 ≤ lo4 (x.lo * x.lo) (x.lo * x.hi) (x.hi * x.lo) (x.hi * x.hi) := by unfold lo4; omega
    omega
  · rw [e] at f
    unfold mulF at f
    rw [e2] at f
    exact absurd f whole_not

theorem sqr_lo {x : Sp} (f : Fin (mul x x)) (fx : Fin x) : (sqr x).all = false ∧ 0 ≤ (sqr x).lo ∧ (mul x x).lo ≤ (sqr x).lo ∧ (sqr x).hi = (mul x x).hi := by
  unfold sqr
  by_cases h : x.lo ≤ 0 ∧ 0 ≤ x.hi
  · rw [if_pos ⟨fx, f.1, h⟩]
    refine ⟨f.1, Int.le_refl _, ?_, rfl⟩
    show (mul x x).lo ≤ 0
    have h0 : has x 0 = true := (has_fin fx).2 h
    rcases holds_mul h0 h0 with hm | hm
    · have := f.1; rw [hm] at this; cases this
    · have := hm.1
      omega
  · rw [if_neg (fun k => h k.2.2)]
    exact ⟨f.1, sqr_mul_lo f fx h, Int.le_refl _, rfl⟩

theorem narrow_sqr {x u : Sp} (h : inn x u = true) : inn (sqr x) (sqr u) = true := by
  have hm := narrow_mul h h
  rcases (inn_iff _ _).1 hm with e | ⟨a, b, c, d⟩
  · have e2 : mul u u = whole := by rw [← ok_mul u u]; exact e
    have e3 : sqr u = whole := by unfold sqr; rw [e2, if_neg (by rintro ⟨_, k, _⟩; cases k)]
    rw [e3]; exact inn_whole _
  · have fu : Fin u := by
      apply Classical.byContradiction
      intro hn
      have : mul u u = whole := if_neg (fun k => hn k.1)
      rw [this] at b
      exact whole_not b
    obtain ⟨fx, u1, u2⟩ := inn_fin h fu
    have sx := sqr_lo a fx
    have su := sqr_lo b fu
    have ox := (ok_fin (ok_sqr x)).resolve_left (by rw [sx.1]; exact Bool.false_ne_true)
    have ou := (ok_fin (ok_sqr u)).resolve_left (by rw [su.1]; exact Bool.false_ne_true)
    refine (inn_iff _ _).2 (.inr ⟨ox, ou, ?_, by omega⟩)
    by_cases hz : u.lo ≤ 0 ∧ 0 ≤ u.hi
    · have : (sqr u).lo = 0 := by unfold sqr; rw [if_pos ⟨fu, b.1, hz⟩]
      omega
    · have : sqr u = mul u u := if_neg (fun k => hz k.2.2)
      rw [this]
      omega

theorem narrow_join {x y u v : Sp} (h1 : inn x u = true) (h2 : inn y v = true) : inn (join x y) (join u v) = true := by
  by_cases hf : Fin u ∧ Fin v
  · obtain ⟨a, b, c⟩ := inn_fin h1 hf.1
    obtain ⟨d, e, g⟩ := inn_fin h2 hf.2
    have e1 : join u v = made (min u.lo v.lo) (max u.hi v.hi) := by
      unfold join
      rw [if_neg (by rintro (k | k); · exact fin_whole hf.1 k
                     · exact fin_whole hf.2 k), right_fin hf.1, right_fin hf.2]
    have e2 : join x y = made (min x.lo y.lo) (max x.hi y.hi) := by
      unfold join
      rw [if_neg (by rintro (k | k); · exact fin_whole a k
                     · exact fin_whole d k), right_fin a, right_fin d]
    rw [e1, e2]
    have := a.2.2.1
    exact inn_made (by omega) (by omega) (by omega)
  · have : join u v = whole := by
      unfold join
      rw [if_pos]
      by_cases hu : Fin u
      · exact .inr (right_not (fun k => hf ⟨hu, k⟩))
      · exact .inl (right_not hu)
    rw [this]; exact inn_whole _
end Go.Proofs.Ytehjfjdopeadfaa.SpMath
