/- Spans in plain Lean: what is in spans is in what comes of them. -/
import Derived.Test.YtehjfjdopeadfaaSpP
set_option linter.unusedVariables false
set_option linter.unusedSimpArgs false
namespace Go.Proofs.Ytehjfjdopeadfaa.SpMath

/-- n / by is a number of a span. -/
def Within (s : Sp) (n by' : Int) : Prop := s.all = true ∨ (s.lo * by' ≤ n ∧ n ≤ s.hi * by')

theorem within_made {lo hi n by' : Int} (h : lo * by' ≤ n ∧ n ≤ hi * by') : Within (made lo hi) n by' := by
  rcases made_cases lo hi with ⟨e, _⟩ | e
  · rw [e]; exact .inr h
  · rw [e]; exact .inl rfl

theorem within_both {x y : Sp} {f : Sp → Sp → Sp} {n by' : Int} (h : Fin x → Fin y → Within (f x y) n by') : Within (both x y f) n by' := by
  unfold both
  split
  next hf => exact h hf.1 hf.2
  · exact .inl rfl

theorem holds_add {x y : Sp} {a b : Int} (ha : has x a = true) (hb : has y b = true) : Within (add x y) (a + b) 1 :=
  within_both fun fx fy => by
    have := (has_fin fx).1 ha; have := (has_fin fy).1 hb
    exact within_made (by omega)

theorem holds_sub {x y : Sp} {a b : Int} (ha : has x a = true) (hb : has y b = true) : Within (sub x y) (a - b) 1 :=
  within_both fun fx fy => by
    have := (has_fin fx).1 ha; have := (has_fin fy).1 hb
    exact within_made (by omega)

theorem holds_mul {x y : Sp} {a b : Int} (ha : has x a = true) (hb : has y b = true) : Within (mul x y) (a * b) 1048576 :=
  within_both fun fx fy => by
    have h1 := (has_fin fx).1 ha; have h2 := (has_fin fy).1 hb
    obtain ⟨k1, k2⟩ := prod_between h1.1 h1.2 h2.1 h2.2
    exact within_made (by omega)

theorem has_of {a b n : Int} (h1 : -2147483647 ≤ min a b) (h2 : max a b ≤ 2147483647) (h : min a b ≤ n ∧ n ≤ max a b) : has (of a b) n = true := by
  unfold of
  rw [made_fin h1 (by omega) h2]
  exact (has_fin ⟨rfl, h1, by show min a b ≤ max a b; omega, h2⟩).2 h

theorem holds_neg {x : Sp} {a : Int} (ha : has x a = true) : Within (neg x) (-a) 1 := by
  have := holds_sub (x := of 0 0) (a := 0) (by decide) ha
  rwa [Int.zero_sub] at this

theorem sq_nonneg (a : Int) : 0 ≤ a * a := by
  by_cases h : 0 ≤ a
  · exact Int.mul_nonneg h h
  · exact Int.mul_nonneg_of_nonpos_of_nonpos (by omega) (by omega)

theorem holds_sqr {x : Sp} {a : Int} (ha : has x a = true) : Within (sqr x) (a * a) 1048576 := by
  unfold sqr
  have hm := holds_mul ha ha
  split
  next h =>
    obtain ⟨fx, hall, h1, h2⟩ := h
    rcases hm with hm | hm
    · rw [hm] at hall; cases hall
    · refine .inr ⟨?_, hm.2⟩
      have := sq_nonneg a
      show 0 * 1048576 ≤ a * a
      omega
  · exact hm

theorem fl_neg (a b : Int) (hb : b < 0) : fl a b = fl (-a) (-b) := by
  unfold fl
  rw [if_neg (by omega), if_pos (by omega)]

theorem lo4_perm (a b c d : Int) : lo4 a b c d = lo4 d c b a := by unfold lo4; omega

/-- The quotient of two numbers that spans have lies between the ends. -/
theorem holds_div {x y : Sp} {a b : Int} (ha : has x a = true) (hb : has y b = true) : (div x y).all = true ∨ (0 < b ∧ (div x y).lo * b ≤ a * 1048576 ∧ a * 1048576 ≤ (div x y).hi * b) ∨ (b < 0 ∧ a * 1048576 ≤ (div x y).lo * b ∧ (div x y).hi * b ≤ a * 1048576) := by
  unfold div both
  split
  next hf =>
    obtain ⟨fx, fy⟩ := hf
    have h1 := (has_fin fx).1 ha; have h2 := (has_fin fy).1 hb
    unfold divF
    split
    · exact .inl rfl
    next hz =>
      obtain ⟨l, hl⟩ : ∃ l, lo4 (fl (x.lo * 1048576) y.lo) (fl (x.lo * 1048576) y.hi) (fl (x.hi * 1048576) y.lo) (fl (x.hi * 1048576) y.hi) = l := ⟨_, rfl⟩
      obtain ⟨m, hm⟩ : ∃ m, lo4 (fl (-x.lo * 1048576) y.lo) (fl (-x.lo * 1048576) y.hi) (fl (-x.hi * 1048576) y.lo) (fl (-x.hi * 1048576) y.hi) = m := ⟨_, rfl⟩
      rw [hl, hm]
      rcases made_cases l (-m) with ⟨e, _⟩ | e
      · rw [e]
        right
        by_cases hp : 0 < y.lo
        · left
          have q1 := lo_div (a := x.lo * 1048576) (c := y.lo) (d := y.hi) (x := a * 1048576) (y := b) (by omega) hp h2.1 h2.2 (x.hi * 1048576)
          have q2 := lo_div (a := -x.hi * 1048576) (c := y.lo) (d := y.hi) (x := -a * 1048576) (y := b) (by omega) hp h2.1 h2.2 (-x.lo * 1048576)
          rw [hl] at q1
          have e2 : lo4 (fl (-x.hi * 1048576) y.lo) (fl (-x.hi * 1048576) y.hi) (fl (-x.lo * 1048576) y.lo) (fl (-x.lo * 1048576) y.hi) = m := by rw [← hm]; unfold lo4; omega
          rw [e2] at q2
          refine ⟨by omega, q1, ?_⟩
          show a * 1048576 ≤ -m * b
          rw [Int.neg_mul]
          omega
        · right
          have hn : y.hi < 0 := by omega
          have q1 := lo_div (a := -x.hi * 1048576) (c := -y.hi) (d := -y.lo) (x := -a * 1048576) (y := -b) (by omega) (by omega) (by omega) (by omega) (-x.lo * 1048576)
          have q2 := lo_div (a := x.lo * 1048576) (c := -y.hi) (d := -y.lo) (x := a * 1048576) (y := -b) (by omega) (by omega) (by omega) (by omega) (x.hi * 1048576)
          have f1 := fl_neg (x.lo * 1048576) y.lo (by omega)
          have f2 := fl_neg (x.lo * 1048576) y.hi (by omega)
          have f3 := fl_neg (x.hi * 1048576) y.lo (by omega)
          have f4 := fl_neg (x.hi * 1048576) y.hi (by omega)
          have g1 := fl_neg (-x.lo * 1048576) y.lo (by omega)
          have g2 := fl_neg (-x.lo * 1048576) y.hi (by omega)
          have g3 := fl_neg (-x.hi * 1048576) y.lo (by omega)
          have g4 := fl_neg (-x.hi * 1048576) y.hi (by omega)
          rw [show -(x.lo * 1048576) = -x.lo * 1048576 by omega] at f1 f2
          rw [show -(x.hi * 1048576) = -x.hi * 1048576 by omega] at f3 f4
          rw [show -(-x.lo * 1048576) = x.lo * 1048576 by omega] at g1 g2
          rw [show -(-x.hi * 1048576) = x.hi * 1048576 by omega] at g3 g4
          rw [← f1, ← f2, ← f3, ← f4] at q1
          rw [← g1, ← g2, ← g3, ← g4] at q2
          have e1 : lo4 (fl (x.hi * 1048576) y.hi) (fl (x.hi * 1048576) y.lo) (fl (x.lo * 1048576) y.hi) (fl (x.lo * 1048576) y.lo) = l := by rw [← hl]; unfold lo4; omega
          have e2 : lo4 (fl (-x.lo * 1048576) y.hi) (fl (-x.lo * 1048576) y.lo) (fl (-x.hi * 1048576) y.hi) (fl (-x.hi * 1048576) y.lo) = m := by rw [← hm]; unfold lo4; omega
          rw [e1, Int.mul_neg] at q1
          rw [e2, Int.mul_neg] at q2
          refine ⟨by omega, by show a * 1048576 ≤ l * b; omega, ?_⟩
          show -m * b ≤ a * 1048576
          rw [Int.neg_mul]
          omega
      · rw [e]; exact .inl rfl
  · exact .inl rfl
end Go.Proofs.Ytehjfjdopeadfaa.SpMath
