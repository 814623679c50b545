/- Walks of package span: what spans have, what both have, their middles; what comes of two of them. -/
import Derived.Test.YtehjfjdopeadfaaSpW
import Derived.Laws.ResultCell
set_option linter.unusedVariables false
set_option linter.unusedSimpArgs false
namespace Go.Proofs.Ytehjfjdopeadfaa
open Go.RowKit SpMath


theorem fin_of {s : Sp} (h : Fin s) : s = ⟨s.lo, s.hi, false⟩ := by
  obtain ⟨lo, hi, all⟩ := s
  obtain ⟨h0, _⟩ := h
  simp only at h0
  subst h0
  rfl

/-- What right gives: a span of two ends within the bounds, or the whole line. -/
theorem right_two (s : Sp) : (∃ lo hi, right s = ⟨lo, hi, false⟩ ∧ -2147483647 ≤ lo ∧ lo ≤ hi ∧ hi ≤ 2147483647 ∧ Fin s ∧ s = ⟨lo, hi, false⟩) ∨ (right s = ⟨0, 0, true⟩ ∧ ¬ Fin s) := by
  rcases right_cases s with ⟨h, e⟩ | ⟨h, e⟩
  · refine .inl ⟨s.lo, s.hi, ?_, h.2.1, h.2.2.1, h.2.2.2, h, fin_of h⟩
    rw [e]; exact fin_of h
  · exact .inr ⟨e, h⟩

theorem ret_bool {a b : Bool} (h : a = b) : Ending.returned (.bool a) = .returned (.bool b) := by rw [h]
theorem ret_int {k : IntKind} {a b : Int} (h : a = b) : Ending.returned (.int k a) = .returned (.int k b) := by rw [h]

set_option maxRecDepth 100000 in
theorem has_any (s : Sp) (n : Int) (hn : (Lit.int .i64 n).wf = true) (w : World) : Calls Try.prog 17 #[s.v, .int .i64 n] w fun e w' => e = .returned (.bool (has s n)) ∧ Below w.heap.size w w' := by
  obtain ⟨hy, hb⟩ := one_box w s
  have HY := Lib.hid hy; have HB := Lib.hid hb
  clear hy hb
  rcases right_two s with ⟨lo, hi, hr, h1, h2, h3, -, -⟩ | ⟨hr, -⟩
  · have HR := Lib.hid hr
    have hh : has s n = (decide (lo ≤ n) && decide (n ≤ hi)) := by simp [has, hr]
    rw [hh]
    by_cases d1 : lo ≤ n
    · go_enter Try.func17, Try.ntmps17
      go_wp2_with fail
      refine (right_any s _).mono ?_; rintro e w2 ⟨rfl, hb⟩
      have HB2 := Lib.hid (below_go HB.out HB.out.size hb rfl rfl rfl rfl)
      have HY2 := Lib.hid (HY.out.below hb rfl)
      (have f := (HY2).out.warm; have c0 := (HY2).out.cell0; have c1 := (HY2).out.cell1; have c2 := (HY2).out.cell2)
      clear hb
      go_wp2_with fail
      go_ret
      exact ⟨ret_bool (by first | (simp [d1]; done) | (simp [d1]; omega)), below_put HB2.out (by omega) _ _ _⟩
    · go_enter Try.func17, Try.ntmps17
      go_wp2_with fail
      refine (right_any s _).mono ?_; rintro e w2 ⟨rfl, hb⟩
      have HB2 := Lib.hid (below_go HB.out HB.out.size hb rfl rfl rfl rfl)
      have HY2 := Lib.hid (HY.out.below hb rfl)
      (have f := (HY2).out.warm; have c0 := (HY2).out.cell0; have c1 := (HY2).out.cell1; have c2 := (HY2).out.cell2)
      clear hb
      go_wp2_with fail
      go_ret
      exact ⟨ret_bool (by first | (simp [d1]; done) | (simp [d1]; omega)), below_put HB2.out (by omega) _ _ _⟩
  · have HR := Lib.hid hr
    have hh : has s n = true := by simp [has, hr]
    rw [hh]
    go_enter Try.func17, Try.ntmps17
    go_wp2_with fail
    refine (right_any s _).mono ?_; rintro e w2 ⟨rfl, hb⟩
    have HB2 := Lib.hid (below_go HB.out HB.out.size hb rfl rfl rfl rfl)
    have HY2 := Lib.hid (HY.out.below hb rfl)
    (have f := (HY2).out.warm; have c0 := (HY2).out.cell0; have c1 := (HY2).out.cell1; have c2 := (HY2).out.cell2)
    clear hb
    go_wp2_with fail
    go_ret
    exact ⟨rfl, below_put HB2.out (by omega) _ _ _⟩

set_option maxRecDepth 100000 in
theorem mid_any (s : Sp) (w : World) : Calls Try.prog 63 #[s.v] w fun e w' => e = .returned (.int .i64 (mid s)) ∧ Below w.heap.size w w' := by
  obtain ⟨hy, hb⟩ := one_box w s
  have HY := Lib.hid hy; have HB := Lib.hid hb
  clear hy hb
  rcases right_two s with ⟨lo, hi, hr, h1, h2, h3, -, -⟩ | ⟨hr, -⟩
  · have HM : Hid (mid s = (lo + hi) / 2) := by show _ = _; simp [mid, hr]
    have hsh : (lo + hi) >>> 1 = (lo + hi) / 2 := by rw [Int.shiftRight_eq_div_pow]; rfl
    go_enter Try.func63, Try.ntmps63
    go_wp2_with fail
    refine (right_any s _).mono ?_; rintro e w2 ⟨rfl, hb⟩
    have HB2 := Lib.hid (below_go HB.out HB.out.size hb rfl rfl rfl rfl)
    have HY2 := Lib.hid (HY.out.below hb rfl)
    (have f := (HY2).out.warm; have c0 := (HY2).out.cell0; have c1 := (HY2).out.cell1; have c2 := (HY2).out.cell2)
    clear hb
    go_wp2_with fail
    go_ret
    exact ⟨ret_int HM.out.symm, below_put HB2.out (by omega) _ _ _⟩
  · have HM : Hid (mid s = 0) := by show _ = _; simp [mid, hr]
    go_enter Try.func63, Try.ntmps63
    go_wp2_with fail
    refine (right_any s _).mono ?_; rintro e w2 ⟨rfl, hb⟩
    have HB2 := Lib.hid (below_go HB.out HB.out.size hb rfl rfl rfl rfl)
    have HY2 := Lib.hid (HY.out.below hb rfl)
    (have f := (HY2).out.warm; have c0 := (HY2).out.cell0; have c1 := (HY2).out.cell1; have c2 := (HY2).out.cell2)
    clear hb
    go_wp2_with fail
    go_ret
    exact ⟨ret_int HM.out.symm, below_put HB2.out (by omega) _ _ _⟩


theorem out_world (f : World → Prop) (w : World) (h : ∀ W, w = W → f W) : f w := h w rfl


/-- The two forms of what both are, at once. -/
theorem right_four (x y : Sp) : (∃ lo hi l2 h2, right x = ⟨lo, hi, false⟩ ∧ right y = ⟨l2, h2, false⟩ ∧ (-2147483647 ≤ lo ∧ lo ≤ hi ∧ hi ≤ 2147483647 ∧ -2147483647 ≤ l2 ∧ l2 ≤ h2 ∧ h2 ≤ 2147483647) ∧ Fin x ∧ Fin y) ∨ ((right x = ⟨0, 0, true⟩ ∧ ¬ Fin x) ∨ ((∃ lo hi, right x = ⟨lo, hi, false⟩ ∧ -2147483647 ≤ lo ∧ lo ≤ hi ∧ hi ≤ 2147483647 ∧ Fin x) ∧ right y = ⟨0, 0, true⟩ ∧ ¬ Fin y)) := by
  rcases right_two x with ⟨lo, hi, h1, h2, h3, h4, h5, _⟩ | h
  · rcases right_two y with ⟨l2, hh2, k1, k2, k3, k4, k5, _⟩ | k
    · exact .inl ⟨lo, hi, l2, hh2, h1, k1, ⟨h2, h3, h4, k2, k3, k4⟩, h5, k5⟩
    · exact .inr (.inr ⟨⟨lo, hi, h1, h2, h3, h4, h5⟩, k⟩)
  · exact .inr (.inl h)


theorem fin_ne (lo hi : Int) : (⟨lo, hi, false⟩ : Sp) ≠ whole := by intro h; injection h with _ _ h; cases h
theorem whole_v : whole = ⟨0, 0, true⟩ := rfl



theorem ret_sp2 {fn : Func} {p u g : Nat} {tmps : Array Value} {w : World} {s : Sp} {t : Value} {R : Ending → World → Prop} (h : fn.results = #[.cell p 23, .tmp u]) (hp : tmps.getD p undef = .pointer (some ⟨g, 0, none⟩)) (hu : tmps.getD u undef = t) (hb : BoxS w g s) (hR : R (.returned (.tuple #[s.v, t])) w) : bodyPost Try.prog fn R .ret { tmps := tmps, defers := [] } w := by
  obtain ⟨x, hx⟩ : ∃ x, Try.prog.underlying 23 = some (.struct x) := ⟨_, Try.underlying23⟩
  refine bodyPost_ret (v := .tuple #[s.v, t]) ?_ rfl hR
  rw [results_cell_tmp h, hp, hu]
  simp [asAddr, Result.andThen, run_loadVar_row w g 23 23 _ _ _ hb hx rfl (by kernel_rfl)]
end Go.Proofs.Ytehjfjdopeadfaa
