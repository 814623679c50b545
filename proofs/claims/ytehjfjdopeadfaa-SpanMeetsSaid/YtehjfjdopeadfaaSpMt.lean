/- The walk of the statement SpanMeets, and what it says in plain Lean. -/
import Derived.Test.YtehjfjdopeadfaaSpTi
import Derived.Test.YtehjfjdopeadfaaSpN
import Derived.Test.YtehjfjdopeadfaaSpIn
set_option linter.unusedVariables false
set_option linter.unusedSimpArgs false
namespace Go.Proofs.Ytehjfjdopeadfaa
open Go.RowKit SpMath

namespace SpMath
theorem inn_self {x : Sp} (h : Fin x) : inn x x = true := (inn_iff x x).2 (.inr ⟨h, h, Int.le_refl _, Int.le_refl _⟩)
theorem inn_right {x y : Sp} : inn (right x) y = inn x y := by unfold inn; rw [right_right]
theorem has_right {x : Sp} {n : Int} : has (right x) n = has x n := by unfold has; rw [right_right]
theorem right_ne {x : Sp} : right x = whole ∨ (Fin x ∧ right x = x) := by
  rcases right_cases x with h | ⟨_, e⟩
  · exact .inr h
  · exact .inl e
theorem inn_refl (x : Sp) : inn x x = true := by
  rcases right_cases x with ⟨f, _⟩ | ⟨_, e⟩
  · exact inn_self f
  · exact (inn_iff x x).2 (.inl e)

/-- What both have: it is in each, and has each number that both have. -/
theorem meet_spec (x y : Sp) : (∀ n, (has x n && has y n) = ((meet x y).2 && has (meet x y).1 n)) ∧ ((meet x y).2 = true → inn (meet x y).1 x = true ∧ inn (meet x y).1 y = true) := by
  rcases right_cases x with ⟨fx, ex⟩ | ⟨fx, ex⟩
  · have nx : x ≠ whole := by intro e; rw [e] at fx; exact whole_not fx
    rcases right_cases y with ⟨fy, ey⟩ | ⟨fy, ey⟩
    · have ny : y ≠ whole := by intro e; rw [e] at fy; exact whole_not fy
      by_cases h : max x.lo y.lo > min x.hi y.hi
      · have e : meet x y = (⟨0, 0, false⟩, false) := by unfold meet; rw [ex, ey, if_neg nx, if_neg ny, if_pos h]
        rw [e]
        refine ⟨fun n => ?_, fun h => by cases h⟩
        rw [Bool.false_and, Bool.and_eq_false_iff]
        by_cases k : has x n = true
        · right
          apply Bool.eq_false_iff.2
          intro k2
          have := (has_fin fx).1 k
          have := (has_fin fy).1 k2
          omega
        · left; exact Bool.eq_false_iff.2 k
      · have e : meet x y = (⟨max x.lo y.lo, min x.hi y.hi, false⟩, true) := by
          unfold meet
          rw [ex, ey, if_neg nx, if_neg ny, if_neg h, made_fin (by have := fx.2.1; omega) (by omega) (by have := fx.2.2.2; omega)]
        have fm : Fin ⟨max x.lo y.lo, min x.hi y.hi, false⟩ := ⟨rfl, by have := fx.2.1; show -2147483647 ≤ max x.lo y.lo; omega, by show max x.lo y.lo ≤ min x.hi y.hi; omega, by have := fx.2.2.2; show min x.hi y.hi ≤ 2147483647; omega⟩
        rw [e]
        refine ⟨fun n => ?_, fun _ => ⟨(inn_iff _ _).2 (.inr ⟨fm, fx, by show x.lo ≤ max x.lo y.lo; omega, by show min x.hi y.hi ≤ x.hi; omega⟩), (inn_iff _ _).2 (.inr ⟨fm, fy, by show y.lo ≤ max x.lo y.lo; omega, by show min x.hi y.hi ≤ y.hi; omega⟩)⟩⟩
        rw [Bool.true_and, Bool.eq_iff_iff, Bool.and_eq_true, has_fin fx, has_fin fy, has_fin fm]
        show (x.lo ≤ n ∧ n ≤ x.hi) ∧ y.lo ≤ n ∧ n ≤ y.hi ↔ max x.lo y.lo ≤ n ∧ n ≤ min x.hi y.hi
        omega
    · have e : meet x y = (x, true) := by unfold meet; rw [ex, ey, if_neg nx, if_pos rfl]
      rw [e]
      refine ⟨fun n => ?_, fun _ => ⟨inn_refl x, (inn_iff _ _).2 (.inl ey)⟩⟩
      have : has y n = true := by unfold has; rw [ey]; rfl
      rw [this, Bool.and_true, Bool.true_and]
  · have e : meet x y = (right y, true) := by unfold meet; rw [ex, if_pos rfl]
    rw [e]
    refine ⟨fun n => ?_, fun _ => ⟨(inn_iff _ _).2 (.inl ex), ?_⟩⟩
    · have : has x n = true := by unfold has; rw [ex]; rfl
      rw [this, Bool.true_and, Bool.true_and]
      exact has_right.symm
    · show inn (right y) y = true
      rw [inn_right]; exact inn_refl y

theorem inn_join (x y : Sp) : inn x (join x y) = true ∧ inn y (join x y) = true := by
  by_cases hf : Fin x ∧ Fin y
  · obtain ⟨a, d⟩ := hf
    have e2 : join x y = made (min x.lo y.lo) (max x.hi y.hi) := by
      unfold join
      rw [if_neg (by rintro (k | k); · exact fin_whole a k
                     · exact fin_whole d k), right_fin a, right_fin d]
    have := a.2.1; have := a.2.2.1; have := a.2.2.2; have := d.2.1; have := d.2.2.1; have := d.2.2.2
    have e3 := made_fin (lo := min x.lo y.lo) (hi := max x.hi y.hi) (by omega) (by omega) (by omega)
    have f3 : Fin ⟨min x.lo y.lo, max x.hi y.hi, false⟩ := ⟨rfl, by show -2147483647 ≤ min x.lo y.lo; omega, by show min x.lo y.lo ≤ max x.hi y.hi; omega, by show max x.hi y.hi ≤ 2147483647; omega⟩
    rw [e2, e3]
    exact ⟨(inn_iff _ _).2 (.inr ⟨a, f3, by show min x.lo y.lo ≤ x.lo; omega, by show x.hi ≤ max x.hi y.hi; omega⟩), (inn_iff _ _).2 (.inr ⟨d, f3, by show min x.lo y.lo ≤ y.lo; omega, by show y.hi ≤ max x.hi y.hi; omega⟩)⟩
  · have : join x y = whole := by
      unfold join
      rw [if_pos]
      by_cases hu : Fin x
      · exact .inr (right_not (fun k => hf ⟨hu, k⟩))
      · exact .inl (right_not hu)
    rw [this]; exact ⟨inn_whole _, inn_whole _⟩

theorem mid_spec (x : Sp) : has x (mid x) = true ∧ (rad x = 2147483647 ∨ inn x (of (mid x - rad x) (mid x + rad x)) = true) ∧ -2147483647 ≤ mid x ∧ mid x ≤ 2147483647 ∧ 0 ≤ rad x ∧ rad x ≤ 4294967294 := by
  rcases right_cases x with ⟨f, e⟩ | ⟨f, e⟩
  · have em : mid x = (x.lo + x.hi) / 2 := by unfold mid; rw [e]
    have er : rad x = x.hi - (x.lo + x.hi) / 2 := by unfold rad; rw [e, if_neg (by rw [f.1]; decide), em]
    have f1 := f.2.1; have f2 := f.2.2.1; have f3 := f.2.2.2
    refine ⟨(has_fin f).2 (by rw [em]; omega), .inr ?_, by rw [em]; omega, by rw [em]; omega, by rw [er]; omega, by rw [er]; omega⟩
    rw [em, er]
    unfold of
    have h1 : min ((x.lo + x.hi) / 2 - (x.hi - (x.lo + x.hi) / 2)) ((x.lo + x.hi) / 2 + (x.hi - (x.lo + x.hi) / 2)) ≤ x.lo := by omega
    have h2 : x.hi ≤ max ((x.lo + x.hi) / 2 - (x.hi - (x.lo + x.hi) / 2)) ((x.lo + x.hi) / 2 + (x.hi - (x.lo + x.hi) / 2)) := by omega
    have := inn_made h1 f2 h2
    rwa [show made x.lo x.hi = x from by rw [made_fin f1 f2 f3]; obtain ⟨lo, hi, all⟩ := x; have := f.1; simp only at this; subst this; rfl] at this
  · have em : mid x = 0 := by unfold mid; rw [e]; rfl
    have er : rad x = 2147483647 := by unfold rad; rw [e]; rfl
    rw [em, er]
    refine ⟨by unfold has; rw [e]; rfl, .inl rfl, by omega, by omega, by omega, by omega⟩
end SpMath

theorem mt_all (x : Sp) : inn x (div (of 0 0) (of 0 0)) = true := by
  rw [show div (of 0 0) (of 0 0) = whole from by decide]
  exact inn_whole x

theorem int_wf {n : Int} (h1 : -9223372036854775808 ≤ n) (h2 : n ≤ 9223372036854775807) : (Lit.int .i64 n).wf = true := by
  have e1 : IntKind.i64.min = -9223372036854775808 := by decide
  have e2 : IntKind.i64.max = 9223372036854775807 := by decide
  simp [Lit.wf]
  omega

theorem meet_five (x y : Sp) (n : Int) : ∃ m is, meet x y = (m, is) ∧ ((is = false ∧ has x n = false) ∨ (is = false ∧ has x n = true ∧ has y n = false) ∨ (is = true ∧ inn m x = true ∧ inn m y = true ∧ has x n = false ∧ has m n = false) ∨
    (is = true ∧ inn m x = true ∧ inn m y = true ∧ has x n = true ∧ has y n = false ∧ has m n = false) ∨ (is = true ∧ inn m x = true ∧ inn m y = true ∧ has x n = true ∧ has y n = true ∧ has m n = true)) := by
  obtain ⟨h1, h2⟩ := meet_spec x y
  have h := h1 n
  clear h1
  rcases hm : meet x y with ⟨m, is⟩
  rw [hm] at h h2
  refine ⟨m, is, rfl, ?_⟩
  simp only at h h2
  cases is with
  | false =>
    cases hp : has x n with
    | false => exact .inl ⟨rfl, rfl⟩
    | true =>
      rw [hp] at h
      exact .inr (.inl ⟨rfl, rfl, by simpa using h⟩)
  | true =>
    obtain ⟨a, b⟩ := h2 rfl
    cases hp : has x n with
    | false =>
      rw [hp] at h
      exact .inr (.inr (.inl ⟨rfl, a, b, rfl, by simpa using h.symm⟩))
    | true =>
      cases hq : has y n with
      | false =>
        rw [hp, hq] at h
        exact .inr (.inr (.inr (.inl ⟨rfl, a, b, rfl, rfl, by simpa using h.symm⟩)))
      | true =>
        rw [hp, hq] at h
        exact .inr (.inr (.inr (.inr ⟨rfl, a, b, rfl, rfl, by simpa using h.symm⟩)))

set_option maxHeartbeats 8000000 in
set_option maxRecDepth 100000 in
theorem SpanMeets_walk (xl xh : Int) (xa : Bool) (yl yh : Int) (ya : Bool) (n : Int) (h0 : (Lit.int .i64 xl).wf = true) (h1 : (Lit.int .i64 xh).wf = true) (h2 : (Lit.int .i64 yl).wf = true) (h3 : (Lit.int .i64 yh).wf = true) (h4 : (Lit.int .i64 n).wf = true) {w : World} :
    Calls Try.prog 15 #[.agg #[.int .i64 xl, .int .i64 xh, .bool xa], .agg #[.int .i64 yl, .int .i64 yh, .bool ya], .int .i64 n] w fun e w' => e = .returned (.bool true) ∧ Below w.heap.size w w' := by
  clear h0 h1 h2 h3
  have V := Lib.hid h4
  clear h4
  have K := Lib.hid (Keep.begin2 w (Obj.box ⟨xl, xh, xa⟩) (Obj.box ⟨yl, yh, ya⟩))
  generalize hx : (⟨xl, xh, xa⟩ : Sp) = x at K
  generalize hy : (⟨yl, yh, ya⟩ : Sp) = y at K
  have ex : (Value.agg #[.int .i64 xl, .int .i64 xh, .bool xa]) = x.v := by rw [← hx]
  have ey : (Value.agg #[.int .i64 yl, .int .i64 yh, .bool ya]) = y.v := by rw [← hy]
  rw [ex, ey]
  clear ex ey hx hy
  obtain ⟨s1, s2, s3, s4, s5, s6⟩ := mid_spec x
  have S1 := Lib.hid s1
  have S2 := Lib.hid s2
  have V2 := Lib.hid (int_wf (n := mid x) (by omega) (by omega))
  have J := Lib.hid (inn_join x y)
  clear s1 s2
  obtain ⟨m, is, hm, h5⟩ := meet_five x y n
  have HC : Hid (∀ w, Calls Try.prog 44 #[x.v, y.v] w fun e w' => e = .returned (.tuple #[m.v, .bool is]) ∧ Below w.heap.size w w') := by
    intro w
    have := meet_any x y w
    rwa [hm] at this
  clear hm
  have J1 : Hid (∀ w, Calls Try.prog 41 #[x.v, (join x y).v] w fun e w' => e = .returned (.bool true) ∧ Below w.heap.size w w') := by
    intro w; have := in_any x (join x y) w; rwa [J.out.1] at this
  have J2 : Hid (∀ w, Calls Try.prog 41 #[y.v, (join x y).v] w fun e w' => e = .returned (.bool true) ∧ Below w.heap.size w w') := by
    intro w; have := in_any y (join x y) w; rwa [J.out.2] at this
  have J3 : Hid (∀ w, Calls Try.prog 17 #[x.v, .int .i64 (mid x)] w fun e w' => e = .returned (.bool true) ∧ Below w.heap.size w w') := by
    intro w; have := has_any x (mid x) V2.out w; rwa [S1.out] at this
  have J4 : Hid (∀ w, Calls Try.prog 41 #[x.v, (div (of 0 0) (of 0 0)).v] w fun e w' => e = .returned (.bool true) ∧ Below w.heap.size w w') := by
    intro w; have := in_any x (div (of 0 0) (of 0 0)) w; rwa [mt_all x] at this
  rcases h5 with h5 | h5 | h5 | h5 | h5
  · obtain ⟨rfl, hp⟩ := h5
    go_enter Try.func15, Try.ntmps15
    (go_wp2_with fail; (refine (((awake_any _))).mono ?_; rintro e w2 ⟨rfl, hb⟩; replace K := Lib.hid (Keep.stays _ _ K.out hb); clear hb))
    (have f1 := (K.out.sp (.tail _ (.head _))).warm; have c10 := (K.out.sp (.tail _ (.head _))).cell0; have c11 := (K.out.sp (.tail _ (.head _))).cell1; have c12 := (K.out.sp (.tail _ (.head _))).cell2)
    (have f2 := (K.out.sp (.head _)).warm; have c20 := (K.out.sp (.head _)).cell0; have c21 := (K.out.sp (.head _)).cell1; have c22 := (K.out.sp (.head _)).cell2)
    go_wp2_with fail
    (refine ((HC.out _)).mono ?_; rintro e w2 ⟨rfl, hb⟩; replace K := Lib.hid (Keep.stays _ _ K.out hb); clear hb)
    clear HC
    ((try clear f1); (try clear c10 c11 c12))
    ((try clear f2); (try clear c20 c21 c22))
    (go_upto_region 3 with fail; replace K := Lib.hid (K.out.alloc (Obj.box m)); generalize w2.heap.size = gg at *; refine out_keep K.out ?_; clear K; intro W K; replace K := Lib.hid K; clear w2)
    (have f1 := (K.out.sp (.tail _ (.tail _ (.head _)))).warm; have c10 := (K.out.sp (.tail _ (.tail _ (.head _)))).cell0; have c11 := (K.out.sp (.tail _ (.tail _ (.head _)))).cell1; have c12 := (K.out.sp (.tail _ (.tail _ (.head _)))).cell2)
    (have f2 := (K.out.sp (.tail _ (.head _))).warm; have c20 := (K.out.sp (.tail _ (.head _))).cell0; have c21 := (K.out.sp (.tail _ (.head _))).cell1; have c22 := (K.out.sp (.tail _ (.head _))).cell2)
    (have f3 := (K.out.sp (.head _)).warm; have c30 := (K.out.sp (.head _)).cell0; have c31 := (K.out.sp (.head _)).cell1; have c32 := (K.out.sp (.head _)).cell2)
    go_wp2_with fail
    (refine ((in_any m x _)).mono ?_; rintro e w2 ⟨rfl, hb⟩; replace K := Lib.hid (Keep.stays _ _ K.out hb); clear hb)
    ((try clear f1); (try clear c10 c11 c12))
    ((try clear f2); (try clear c20 c21 c22))
    ((try clear f3); (try clear c30 c31 c32))
    (have f1 := (K.out.sp (.tail _ (.tail _ (.head _)))).warm; have c10 := (K.out.sp (.tail _ (.tail _ (.head _)))).cell0; have c11 := (K.out.sp (.tail _ (.tail _ (.head _)))).cell1; have c12 := (K.out.sp (.tail _ (.tail _ (.head _)))).cell2)
    (have f2 := (K.out.sp (.tail _ (.head _))).warm; have c20 := (K.out.sp (.tail _ (.head _))).cell0; have c21 := (K.out.sp (.tail _ (.head _))).cell1; have c22 := (K.out.sp (.tail _ (.head _))).cell2)
    (have f3 := (K.out.sp (.head _)).warm; have c30 := (K.out.sp (.head _)).cell0; have c31 := (K.out.sp (.head _)).cell1; have c32 := (K.out.sp (.head _)).cell2)
    go_wp2_with fail
    (refine ((in_any m y _)).mono ?_; rintro e w2 ⟨rfl, hb⟩; replace K := Lib.hid (Keep.stays _ _ K.out hb); clear hb)
    ((try clear f1); (try clear c10 c11 c12))
    ((try clear f2); (try clear c20 c21 c22))
    ((try clear f3); (try clear c30 c31 c32))
    (have f1 := (K.out.sp (.tail _ (.tail _ (.head _)))).warm; have c10 := (K.out.sp (.tail _ (.tail _ (.head _)))).cell0; have c11 := (K.out.sp (.tail _ (.tail _ (.head _)))).cell1; have c12 := (K.out.sp (.tail _ (.tail _ (.head _)))).cell2)
    (have f2 := (K.out.sp (.tail _ (.head _))).warm; have c20 := (K.out.sp (.tail _ (.head _))).cell0; have c21 := (K.out.sp (.tail _ (.head _))).cell1; have c22 := (K.out.sp (.tail _ (.head _))).cell2)
    (have f3 := (K.out.sp (.head _)).warm; have c30 := (K.out.sp (.head _)).cell0; have c31 := (K.out.sp (.head _)).cell1; have c32 := (K.out.sp (.head _)).cell2)
    go_wp2_with fail
    (refine ((has_any x n V.out _)).mono ?_; rintro e w2 ⟨rfl, hb⟩; replace K := Lib.hid (Keep.stays _ _ K.out hb); clear hb)
    ((try clear f1); (try clear c10 c11 c12))
    ((try clear f2); (try clear c20 c21 c22))
    ((try clear f3); (try clear c30 c31 c32))
    (have f1 := (K.out.sp (.tail _ (.tail _ (.head _)))).warm; have c10 := (K.out.sp (.tail _ (.tail _ (.head _)))).cell0; have c11 := (K.out.sp (.tail _ (.tail _ (.head _)))).cell1; have c12 := (K.out.sp (.tail _ (.tail _ (.head _)))).cell2)
    (have f2 := (K.out.sp (.tail _ (.head _))).warm; have c20 := (K.out.sp (.tail _ (.head _))).cell0; have c21 := (K.out.sp (.tail _ (.head _))).cell1; have c22 := (K.out.sp (.tail _ (.head _))).cell2)
    (have f3 := (K.out.sp (.head _)).warm; have c30 := (K.out.sp (.head _)).cell0; have c31 := (K.out.sp (.head _)).cell1; have c32 := (K.out.sp (.head _)).cell2)
    go_wp2_with fail
    (refine ((join_any x y _)).mono ?_; rintro e w2 ⟨rfl, hb⟩; replace K := Lib.hid (Keep.stays _ _ K.out hb); clear hb)
    ((try clear f1); (try clear c10 c11 c12))
    ((try clear f2); (try clear c20 c21 c22))
    ((try clear f3); (try clear c30 c31 c32))
    (go_upto_region 8 with fail; replace K := Lib.hid (K.out.alloc (Obj.box (join x y))); generalize w2.heap.size = gg at *; refine out_keep K.out ?_; clear K; intro W K; replace K := Lib.hid K; clear w2)
    (have f1 := (K.out.sp (.tail _ (.tail _ (.tail _ (.head _))))).warm; have c10 := (K.out.sp (.tail _ (.tail _ (.tail _ (.head _))))).cell0; have c11 := (K.out.sp (.tail _ (.tail _ (.tail _ (.head _))))).cell1; have c12 := (K.out.sp (.tail _ (.tail _ (.tail _ (.head _))))).cell2)
    (have f2 := (K.out.sp (.tail _ (.tail _ (.head _)))).warm; have c20 := (K.out.sp (.tail _ (.tail _ (.head _)))).cell0; have c21 := (K.out.sp (.tail _ (.tail _ (.head _)))).cell1; have c22 := (K.out.sp (.tail _ (.tail _ (.head _)))).cell2)
    (have f3 := (K.out.sp (.tail _ (.head _))).warm; have c30 := (K.out.sp (.tail _ (.head _))).cell0; have c31 := (K.out.sp (.tail _ (.head _))).cell1; have c32 := (K.out.sp (.tail _ (.head _))).cell2)
    (have f4 := (K.out.sp (.head _)).warm; have c40 := (K.out.sp (.head _)).cell0; have c41 := (K.out.sp (.head _)).cell1; have c42 := (K.out.sp (.head _)).cell2)
    go_wp2_with fail
    (refine ((J1.out _)).mono ?_; rintro e w2 ⟨rfl, hb⟩; replace K := Lib.hid (Keep.stays _ _ K.out hb); clear hb)
    (((try clear f1); (try clear c10 c11 c12)); ((try clear f2); (try clear c20 c21 c22)); ((try clear f3); (try clear c30 c31 c32)); ((try clear f4); (try clear c40 c41 c42)))
    (have f1 := (K.out.sp (.tail _ (.tail _ (.tail _ (.head _))))).warm; have c10 := (K.out.sp (.tail _ (.tail _ (.tail _ (.head _))))).cell0; have c11 := (K.out.sp (.tail _ (.tail _ (.tail _ (.head _))))).cell1; have c12 := (K.out.sp (.tail _ (.tail _ (.tail _ (.head _))))).cell2)
    (have f2 := (K.out.sp (.tail _ (.tail _ (.head _)))).warm; have c20 := (K.out.sp (.tail _ (.tail _ (.head _)))).cell0; have c21 := (K.out.sp (.tail _ (.tail _ (.head _)))).cell1; have c22 := (K.out.sp (.tail _ (.tail _ (.head _)))).cell2)
    (have f3 := (K.out.sp (.tail _ (.head _))).warm; have c30 := (K.out.sp (.tail _ (.head _))).cell0; have c31 := (K.out.sp (.tail _ (.head _))).cell1; have c32 := (K.out.sp (.tail _ (.head _))).cell2)
    (have f4 := (K.out.sp (.head _)).warm; have c40 := (K.out.sp (.head _)).cell0; have c41 := (K.out.sp (.head _)).cell1; have c42 := (K.out.sp (.head _)).cell2)
    go_wp2_with fail
    (refine ((J2.out _)).mono ?_; rintro e w2 ⟨rfl, hb⟩; replace K := Lib.hid (Keep.stays _ _ K.out hb); clear hb)
    (((try clear f1); (try clear c10 c11 c12)); ((try clear f2); (try clear c20 c21 c22)); ((try clear f3); (try clear c30 c31 c32)); ((try clear f4); (try clear c40 c41 c42)))
    (have f1 := (K.out.sp (.tail _ (.tail _ (.tail _ (.head _))))).warm; have c10 := (K.out.sp (.tail _ (.tail _ (.tail _ (.head _))))).cell0; have c11 := (K.out.sp (.tail _ (.tail _ (.tail _ (.head _))))).cell1; have c12 := (K.out.sp (.tail _ (.tail _ (.tail _ (.head _))))).cell2)
    (have f2 := (K.out.sp (.tail _ (.tail _ (.head _)))).warm; have c20 := (K.out.sp (.tail _ (.tail _ (.head _)))).cell0; have c21 := (K.out.sp (.tail _ (.tail _ (.head _)))).cell1; have c22 := (K.out.sp (.tail _ (.tail _ (.head _)))).cell2)
    (have f3 := (K.out.sp (.tail _ (.head _))).warm; have c30 := (K.out.sp (.tail _ (.head _))).cell0; have c31 := (K.out.sp (.tail _ (.head _))).cell1; have c32 := (K.out.sp (.tail _ (.head _))).cell2)
    (have f4 := (K.out.sp (.head _)).warm; have c40 := (K.out.sp (.head _)).cell0; have c41 := (K.out.sp (.head _)).cell1; have c42 := (K.out.sp (.head _)).cell2)
    go_wp2_with fail
    (refine ((mid_any x _)).mono ?_; rintro e w2 ⟨rfl, hb⟩; replace K := Lib.hid (Keep.stays _ _ K.out hb); clear hb)
    (((try clear f1); (try clear c10 c11 c12)); ((try clear f2); (try clear c20 c21 c22)); ((try clear f3); (try clear c30 c31 c32)); ((try clear f4); (try clear c40 c41 c42)))
    (have f1 := (K.out.sp (.tail _ (.tail _ (.tail _ (.head _))))).warm; have c10 := (K.out.sp (.tail _ (.tail _ (.tail _ (.head _))))).cell0; have c11 := (K.out.sp (.tail _ (.tail _ (.tail _ (.head _))))).cell1; have c12 := (K.out.sp (.tail _ (.tail _ (.tail _ (.head _))))).cell2)
    (have f2 := (K.out.sp (.tail _ (.tail _ (.head _)))).warm; have c20 := (K.out.sp (.tail _ (.tail _ (.head _)))).cell0; have c21 := (K.out.sp (.tail _ (.tail _ (.head _)))).cell1; have c22 := (K.out.sp (.tail _ (.tail _ (.head _)))).cell2)
    (have f3 := (K.out.sp (.tail _ (.head _))).warm; have c30 := (K.out.sp (.tail _ (.head _))).cell0; have c31 := (K.out.sp (.tail _ (.head _))).cell1; have c32 := (K.out.sp (.tail _ (.head _))).cell2)
    (have f4 := (K.out.sp (.head _)).warm; have c40 := (K.out.sp (.head _)).cell0; have c41 := (K.out.sp (.head _)).cell1; have c42 := (K.out.sp (.head _)).cell2)
    go_wp2_with fail
    (refine ((rad_any x _)).mono ?_; rintro e w2 ⟨rfl, hb⟩; replace K := Lib.hid (Keep.stays _ _ K.out hb); clear hb)
    (((try clear f1); (try clear c10 c11 c12)); ((try clear f2); (try clear c20 c21 c22)); ((try clear f3); (try clear c30 c31 c32)); ((try clear f4); (try clear c40 c41 c42)))
    (have f1 := (K.out.sp (.tail _ (.tail _ (.tail _ (.head _))))).warm; have c10 := (K.out.sp (.tail _ (.tail _ (.tail _ (.head _))))).cell0; have c11 := (K.out.sp (.tail _ (.tail _ (.tail _ (.head _))))).cell1; have c12 := (K.out.sp (.tail _ (.tail _ (.tail _ (.head _))))).cell2)
    (have f2 := (K.out.sp (.tail _ (.tail _ (.head _)))).warm; have c20 := (K.out.sp (.tail _ (.tail _ (.head _)))).cell0; have c21 := (K.out.sp (.tail _ (.tail _ (.head _)))).cell1; have c22 := (K.out.sp (.tail _ (.tail _ (.head _)))).cell2)
    (have f3 := (K.out.sp (.tail _ (.head _))).warm; have c30 := (K.out.sp (.tail _ (.head _))).cell0; have c31 := (K.out.sp (.tail _ (.head _))).cell1; have c32 := (K.out.sp (.tail _ (.head _))).cell2)
    (have f4 := (K.out.sp (.head _)).warm; have c40 := (K.out.sp (.head _)).cell0; have c41 := (K.out.sp (.head _)).cell1; have c42 := (K.out.sp (.head _)).cell2)
    go_wp2_with fail
    (refine ((J3.out _)).mono ?_; rintro e w2 ⟨rfl, hb⟩; replace K := Lib.hid (Keep.stays _ _ K.out hb); clear hb)
    (((try clear f1); (try clear c10 c11 c12)); ((try clear f2); (try clear c20 c21 c22)); ((try clear f3); (try clear c30 c31 c32)); ((try clear f4); (try clear c40 c41 c42)))
    go_wp2_with fail
    (refine region_quiet _ (by kernel_rfl) (by kernel_rfl) K.out.drew ?_; haveI ne := Keep.ne K)
    (have c10 := Keep.at0 K (.tail _ (.tail _ (.tail _ (.head _)))); have c11 := Keep.at1 K (.tail _ (.tail _ (.tail _ (.head _)))); have c12 := Keep.at2 K (.tail _ (.tail _ (.tail _ (.head _)))))
    repeat (go_big_quiet_step (first | (go_at_call 42; with_reducible exact At.call Keep.stays (of_any _ _ _)) | (go_at_call 41; with_reducible exact At.call Keep.stays (in_any x (of (mid x - rad x) (mid x + rad x)) _))))
    (refine wpQuiet_nil ?_; clear ne K; intro W K; replace K := Lib.hid K)
    go_wp2_with fail
    (refine region_quiet _ (by kernel_rfl) (by kernel_rfl) K.out.drew ?_; haveI ne := Keep.ne K)
    repeat (go_big_quiet_step (first | (go_at_call 42; with_reducible exact At.call Keep.stays (of_any _ _ _)) | (go_at_call 50; with_reducible exact At.call Keep.stays (div_any (of 0 0) (of 0 0) _)) | (go_at_call 41; with_reducible exact At.call Keep.stays (J4.out _))))
    (refine wpQuiet_nil ?_; clear ne K; intro W K; replace K := Lib.hid K)
    rcases S2.out with hr | hw
    · cases hw : inn x (of (mid x - rad x) (mid x + rad x)) <;> (go_wp2_with fail; go_ret; exact ⟨rfl, K.out.B⟩)
    · go_wp2_with fail
      go_ret
      exact ⟨rfl, K.out.B⟩
  · obtain ⟨rfl, hp, hq⟩ := h5
    go_enter Try.func15, Try.ntmps15
    (go_wp2_with fail; (refine (((awake_any _))).mono ?_; rintro e w2 ⟨rfl, hb⟩; replace K := Lib.hid (Keep.stays _ _ K.out hb); clear hb))
    (have f1 := (K.out.sp (.tail _ (.head _))).warm; have c10 := (K.out.sp (.tail _ (.head _))).cell0; have c11 := (K.out.sp (.tail _ (.head _))).cell1; have c12 := (K.out.sp (.tail _ (.head _))).cell2)
    (have f2 := (K.out.sp (.head _)).warm; have c20 := (K.out.sp (.head _)).cell0; have c21 := (K.out.sp (.head _)).cell1; have c22 := (K.out.sp (.head _)).cell2)
    go_wp2_with fail
    (refine ((HC.out _)).mono ?_; rintro e w2 ⟨rfl, hb⟩; replace K := Lib.hid (Keep.stays _ _ K.out hb); clear hb)
    clear HC
    ((try clear f1); (try clear c10 c11 c12))
    ((try clear f2); (try clear c20 c21 c22))
    (go_upto_region 3 with fail; replace K := Lib.hid (K.out.alloc (Obj.box m)); generalize w2.heap.size = gg at *; refine out_keep K.out ?_; clear K; intro W K; replace K := Lib.hid K; clear w2)
    (have f1 := (K.out.sp (.tail _ (.tail _ (.head _)))).warm; have c10 := (K.out.sp (.tail _ (.tail _ (.head _)))).cell0; have c11 := (K.out.sp (.tail _ (.tail _ (.head _)))).cell1; have c12 := (K.out.sp (.tail _ (.tail _ (.head _)))).cell2)
    (have f2 := (K.out.sp (.tail _ (.head _))).warm; have c20 := (K.out.sp (.tail _ (.head _))).cell0; have c21 := (K.out.sp (.tail _ (.head _))).cell1; have c22 := (K.out.sp (.tail _ (.head _))).cell2)
    (have f3 := (K.out.sp (.head _)).warm; have c30 := (K.out.sp (.head _)).cell0; have c31 := (K.out.sp (.head _)).cell1; have c32 := (K.out.sp (.head _)).cell2)
    go_wp2_with fail
    (refine ((in_any m x _)).mono ?_; rintro e w2 ⟨rfl, hb⟩; replace K := Lib.hid (Keep.stays _ _ K.out hb); clear hb)
    ((try clear f1); (try clear c10 c11 c12))
    ((try clear f2); (try clear c20 c21 c22))
    ((try clear f3); (try clear c30 c31 c32))
    (have f1 := (K.out.sp (.tail _ (.tail _ (.head _)))).warm; have c10 := (K.out.sp (.tail _ (.tail _ (.head _)))).cell0; have c11 := (K.out.sp (.tail _ (.tail _ (.head _)))).cell1; have c12 := (K.out.sp (.tail _ (.tail _ (.head _)))).cell2)
    (have f2 := (K.out.sp (.tail _ (.head _))).warm; have c20 := (K.out.sp (.tail _ (.head _))).cell0; have c21 := (K.out.sp (.tail _ (.head _))).cell1; have c22 := (K.out.sp (.tail _ (.head _))).cell2)
    (have f3 := (K.out.sp (.head _)).warm; have c30 := (K.out.sp (.head _)).cell0; have c31 := (K.out.sp (.head _)).cell1; have c32 := (K.out.sp (.head _)).cell2)
    go_wp2_with fail
    (refine ((in_any m y _)).mono ?_; rintro e w2 ⟨rfl, hb⟩; replace K := Lib.hid (Keep.stays _ _ K.out hb); clear hb)
    ((try clear f1); (try clear c10 c11 c12))
    ((try clear f2); (try clear c20 c21 c22))
    ((try clear f3); (try clear c30 c31 c32))
    (have f1 := (K.out.sp (.tail _ (.tail _ (.head _)))).warm; have c10 := (K.out.sp (.tail _ (.tail _ (.head _)))).cell0; have c11 := (K.out.sp (.tail _ (.tail _ (.head _)))).cell1; have c12 := (K.out.sp (.tail _ (.tail _ (.head _)))).cell2)
    (have f2 := (K.out.sp (.tail _ (.head _))).warm; have c20 := (K.out.sp (.tail _ (.head _))).cell0; have c21 := (K.out.sp (.tail _ (.head _))).cell1; have c22 := (K.out.sp (.tail _ (.head _))).cell2)
    (have f3 := (K.out.sp (.head _)).warm; have c30 := (K.out.sp (.head _)).cell0; have c31 := (K.out.sp (.head _)).cell1; have c32 := (K.out.sp (.head _)).cell2)
    go_wp2_with fail
    (refine ((has_any x n V.out _)).mono ?_; rintro e w2 ⟨rfl, hb⟩; replace K := Lib.hid (Keep.stays _ _ K.out hb); clear hb)
    ((try clear f1); (try clear c10 c11 c12))
    ((try clear f2); (try clear c20 c21 c22))
    ((try clear f3); (try clear c30 c31 c32))
    (have f1 := (K.out.sp (.tail _ (.tail _ (.head _)))).warm; have c10 := (K.out.sp (.tail _ (.tail _ (.head _)))).cell0; have c11 := (K.out.sp (.tail _ (.tail _ (.head _)))).cell1; have c12 := (K.out.sp (.tail _ (.tail _ (.head _)))).cell2)
    (have f2 := (K.out.sp (.tail _ (.head _))).warm; have c20 := (K.out.sp (.tail _ (.head _))).cell0; have c21 := (K.out.sp (.tail _ (.head _))).cell1; have c22 := (K.out.sp (.tail _ (.head _))).cell2)
    (have f3 := (K.out.sp (.head _)).warm; have c30 := (K.out.sp (.head _)).cell0; have c31 := (K.out.sp (.head _)).cell1; have c32 := (K.out.sp (.head _)).cell2)
    go_wp2_with fail
    (refine ((has_any y n V.out _)).mono ?_; rintro e w2 ⟨rfl, hb⟩; replace K := Lib.hid (Keep.stays _ _ K.out hb); clear hb)
    ((try clear f1); (try clear c10 c11 c12))
    ((try clear f2); (try clear c20 c21 c22))
    ((try clear f3); (try clear c30 c31 c32))
    (have f1 := (K.out.sp (.tail _ (.tail _ (.head _)))).warm; have c10 := (K.out.sp (.tail _ (.tail _ (.head _)))).cell0; have c11 := (K.out.sp (.tail _ (.tail _ (.head _)))).cell1; have c12 := (K.out.sp (.tail _ (.tail _ (.head _)))).cell2)
    (have f2 := (K.out.sp (.tail _ (.head _))).warm; have c20 := (K.out.sp (.tail _ (.head _))).cell0; have c21 := (K.out.sp (.tail _ (.head _))).cell1; have c22 := (K.out.sp (.tail _ (.head _))).cell2)
    (have f3 := (K.out.sp (.head _)).warm; have c30 := (K.out.sp (.head _)).cell0; have c31 := (K.out.sp (.head _)).cell1; have c32 := (K.out.sp (.head _)).cell2)
    go_wp2_with fail
    (refine ((join_any x y _)).mono ?_; rintro e w2 ⟨rfl, hb⟩; replace K := Lib.hid (Keep.stays _ _ K.out hb); clear hb)
    ((try clear f1); (try clear c10 c11 c12))
    ((try clear f2); (try clear c20 c21 c22))
    ((try clear f3); (try clear c30 c31 c32))
    (go_upto_region 8 with fail; replace K := Lib.hid (K.out.alloc (Obj.box (join x y))); generalize w2.heap.size = gg at *; refine out_keep K.out ?_; clear K; intro W K; replace K := Lib.hid K; clear w2)
    (have f1 := (K.out.sp (.tail _ (.tail _ (.tail _ (.head _))))).warm; have c10 := (K.out.sp (.tail _ (.tail _ (.tail _ (.head _))))).cell0; have c11 := (K.out.sp (.tail _ (.tail _ (.tail _ (.head _))))).cell1; have c12 := (K.out.sp (.tail _ (.tail _ (.tail _ (.head _))))).cell2)
    (have f2 := (K.out.sp (.tail _ (.tail _ (.head _)))).warm; have c20 := (K.out.sp (.tail _ (.tail _ (.head _)))).cell0; have c21 := (K.out.sp (.tail _ (.tail _ (.head _)))).cell1; have c22 := (K.out.sp (.tail _ (.tail _ (.head _)))).cell2)
    (have f3 := (K.out.sp (.tail _ (.head _))).warm; have c30 := (K.out.sp (.tail _ (.head _))).cell0; have c31 := (K.out.sp (.tail _ (.head _))).cell1; have c32 := (K.out.sp (.tail _ (.head _))).cell2)
    (have f4 := (K.out.sp (.head _)).warm; have c40 := (K.out.sp (.head _)).cell0; have c41 := (K.out.sp (.head _)).cell1; have c42 := (K.out.sp (.head _)).cell2)
    go_wp2_with fail
    (refine ((J1.out _)).mono ?_; rintro e w2 ⟨rfl, hb⟩; replace K := Lib.hid (Keep.stays _ _ K.out hb); clear hb)
    (((try clear f1); (try clear c10 c11 c12)); ((try clear f2); (try clear c20 c21 c22)); ((try clear f3); (try clear c30 c31 c32)); ((try clear f4); (try clear c40 c41 c42)))
    (have f1 := (K.out.sp (.tail _ (.tail _ (.tail _ (.head _))))).warm; have c10 := (K.out.sp (.tail _ (.tail _ (.tail _ (.head _))))).cell0; have c11 := (K.out.sp (.tail _ (.tail _ (.tail _ (.head _))))).cell1; have c12 := (K.out.sp (.tail _ (.tail _ (.tail _ (.head _))))).cell2)
    (have f2 := (K.out.sp (.tail _ (.tail _ (.head _)))).warm; have c20 := (K.out.sp (.tail _ (.tail _ (.head _)))).cell0; have c21 := (K.out.sp (.tail _ (.tail _ (.head _)))).cell1; have c22 := (K.out.sp (.tail _ (.tail _ (.head _)))).cell2)
    (have f3 := (K.out.sp (.tail _ (.head _))).warm; have c30 := (K.out.sp (.tail _ (.head _))).cell0; have c31 := (K.out.sp (.tail _ (.head _))).cell1; have c32 := (K.out.sp (.tail _ (.head _))).cell2)
    (have f4 := (K.out.sp (.head _)).warm; have c40 := (K.out.sp (.head _)).cell0; have c41 := (K.out.sp (.head _)).cell1; have c42 := (K.out.sp (.head _)).cell2)
    go_wp2_with fail
    (refine ((J2.out _)).mono ?_; rintro e w2 ⟨rfl, hb⟩; replace K := Lib.hid (Keep.stays _ _ K.out hb); clear hb)
    (((try clear f1); (try clear c10 c11 c12)); ((try clear f2); (try clear c20 c21 c22)); ((try clear f3); (try clear c30 c31 c32)); ((try clear f4); (try clear c40 c41 c42)))
    (have f1 := (K.out.sp (.tail _ (.tail _ (.tail _ (.head _))))).warm; have c10 := (K.out.sp (.tail _ (.tail _ (.tail _ (.head _))))).cell0; have c11 := (K.out.sp (.tail _ (.tail _ (.tail _ (.head _))))).cell1; have c12 := (K.out.sp (.tail _ (.tail _ (.tail _ (.head _))))).cell2)
    (have f2 := (K.out.sp (.tail _ (.tail _ (.head _)))).warm; have c20 := (K.out.sp (.tail _ (.tail _ (.head _)))).cell0; have c21 := (K.out.sp (.tail _ (.tail _ (.head _)))).cell1; have c22 := (K.out.sp (.tail _ (.tail _ (.head _)))).cell2)
    (have f3 := (K.out.sp (.tail _ (.head _))).warm; have c30 := (K.out.sp (.tail _ (.head _))).cell0; have c31 := (K.out.sp (.tail _ (.head _))).cell1; have c32 := (K.out.sp (.tail _ (.head _))).cell2)
    (have f4 := (K.out.sp (.head _)).warm; have c40 := (K.out.sp (.head _)).cell0; have c41 := (K.out.sp (.head _)).cell1; have c42 := (K.out.sp (.head _)).cell2)
    go_wp2_with fail
    (refine ((mid_any x _)).mono ?_; rintro e w2 ⟨rfl, hb⟩; replace K := Lib.hid (Keep.stays _ _ K.out hb); clear hb)
    (((try clear f1); (try clear c10 c11 c12)); ((try clear f2); (try clear c20 c21 c22)); ((try clear f3); (try clear c30 c31 c32)); ((try clear f4); (try clear c40 c41 c42)))
    (have f1 := (K.out.sp (.tail _ (.tail _ (.tail _ (.head _))))).warm; have c10 := (K.out.sp (.tail _ (.tail _ (.tail _ (.head _))))).cell0; have c11 := (K.out.sp (.tail _ (.tail _ (.tail _ (.head _))))).cell1; have c12 := (K.out.sp (.tail _ (.tail _ (.tail _ (.head _))))).cell2)
    (have f2 := (K.out.sp (.tail _ (.tail _ (.head _)))).warm; have c20 := (K.out.sp (.tail _ (.tail _ (.head _)))).cell0; have c21 := (K.out.sp (.tail _ (.tail _ (.head _)))).cell1; have c22 := (K.out.sp (.tail _ (.tail _ (.head _)))).cell2)
    (have f3 := (K.out.sp (.tail _ (.head _))).warm; have c30 := (K.out.sp (.tail _ (.head _))).cell0; have c31 := (K.out.sp (.tail _ (.head _))).cell1; have c32 := (K.out.sp (.tail _ (.head _))).cell2)
    (have f4 := (K.out.sp (.head _)).warm; have c40 := (K.out.sp (.head _)).cell0; have c41 := (K.out.sp (.head _)).cell1; have c42 := (K.out.sp (.head _)).cell2)
    go_wp2_with fail
    (refine ((rad_any x _)).mono ?_; rintro e w2 ⟨rfl, hb⟩; replace K := Lib.hid (Keep.stays _ _ K.out hb); clear hb)
    (((try clear f1); (try clear c10 c11 c12)); ((try clear f2); (try clear c20 c21 c22)); ((try clear f3); (try clear c30 c31 c32)); ((try clear f4); (try clear c40 c41 c42)))
    (have f1 := (K.out.sp (.tail _ (.tail _ (.tail _ (.head _))))).warm; have c10 := (K.out.sp (.tail _ (.tail _ (.tail _ (.head _))))).cell0; have c11 := (K.out.sp (.tail _ (.tail _ (.tail _ (.head _))))).cell1; have c12 := (K.out.sp (.tail _ (.tail _ (.tail _ (.head _))))).cell2)
    (have f2 := (K.out.sp (.tail _ (.tail _ (.head _)))).warm; have c20 := (K.out.sp (.tail _ (.tail _ (.head _)))).cell0; have c21 := (K.out.sp (.tail _ (.tail _ (.head _)))).cell1; have c22 := (K.out.sp (.tail _ (.tail _ (.head _)))).cell2)
    (have f3 := (K.out.sp (.tail _ (.head _))).warm; have c30 := (K.out.sp (.tail _ (.head _))).cell0; have c31 := (K.out.sp (.tail _ (.head _))).cell1; have c32 := (K.out.sp (.tail _ (.head _))).cell2)
    (have f4 := (K.out.sp (.head _)).warm; have c40 := (K.out.sp (.head _)).cell0; have c41 := (K.out.sp (.head _)).cell1; have c42 := (K.out.sp (.head _)).cell2)
    go_wp2_with fail
    (refine ((J3.out _)).mono ?_; rintro e w2 ⟨rfl, hb⟩; replace K := Lib.hid (Keep.stays _ _ K.out hb); clear hb)
    (((try clear f1); (try clear c10 c11 c12)); ((try clear f2); (try clear c20 c21 c22)); ((try clear f3); (try clear c30 c31 c32)); ((try clear f4); (try clear c40 c41 c42)))
    go_wp2_with fail
    (refine region_quiet _ (by kernel_rfl) (by kernel_rfl) K.out.drew ?_; haveI ne := Keep.ne K)
    (have c10 := Keep.at0 K (.tail _ (.tail _ (.tail _ (.head _)))); have c11 := Keep.at1 K (.tail _ (.tail _ (.tail _ (.head _)))); have c12 := Keep.at2 K (.tail _ (.tail _ (.tail _ (.head _)))))
    repeat (go_big_quiet_step (first | (go_at_call 42; with_reducible exact At.call Keep.stays (of_any _ _ _)) | (go_at_call 41; with_reducible exact At.call Keep.stays (in_any x (of (mid x - rad x) (mid x + rad x)) _))))
    (refine wpQuiet_nil ?_; clear ne K; intro W K; replace K := Lib.hid K)
    go_wp2_with fail
    (refine region_quiet _ (by kernel_rfl) (by kernel_rfl) K.out.drew ?_; haveI ne := Keep.ne K)
    repeat (go_big_quiet_step (first | (go_at_call 42; with_reducible exact At.call Keep.stays (of_any _ _ _)) | (go_at_call 50; with_reducible exact At.call Keep.stays (div_any (of 0 0) (of 0 0) _)) | (go_at_call 41; with_reducible exact At.call Keep.stays (J4.out _))))
    (refine wpQuiet_nil ?_; clear ne K; intro W K; replace K := Lib.hid K)
    rcases S2.out with hr | hw
    · cases hw : inn x (of (mid x - rad x) (mid x + rad x)) <;> (go_wp2_with fail; go_ret; exact ⟨rfl, K.out.B⟩)
    · go_wp2_with fail
      go_ret
      exact ⟨rfl, K.out.B⟩
  · obtain ⟨rfl, i1, i2, hp, hr⟩ := h5
    go_enter Try.func15, Try.ntmps15
    (go_wp2_with fail; (refine (((awake_any _))).mono ?_; rintro e w2 ⟨rfl, hb⟩; replace K := Lib.hid (Keep.stays _ _ K.out hb); clear hb))
    (have f1 := (K.out.sp (.tail _ (.head _))).warm; have c10 := (K.out.sp (.tail _ (.head _))).cell0; have c11 := (K.out.sp (.tail _ (.head _))).cell1; have c12 := (K.out.sp (.tail _ (.head _))).cell2)
    (have f2 := (K.out.sp (.head _)).warm; have c20 := (K.out.sp (.head _)).cell0; have c21 := (K.out.sp (.head _)).cell1; have c22 := (K.out.sp (.head _)).cell2)
    go_wp2_with fail
    (refine ((HC.out _)).mono ?_; rintro e w2 ⟨rfl, hb⟩; replace K := Lib.hid (Keep.stays _ _ K.out hb); clear hb)
    clear HC
    ((try clear f1); (try clear c10 c11 c12))
    ((try clear f2); (try clear c20 c21 c22))
    (go_upto_region 3 with fail; replace K := Lib.hid (K.out.alloc (Obj.box m)); generalize w2.heap.size = gg at *; refine out_keep K.out ?_; clear K; intro W K; replace K := Lib.hid K; clear w2)
    (have f1 := (K.out.sp (.tail _ (.tail _ (.head _)))).warm; have c10 := (K.out.sp (.tail _ (.tail _ (.head _)))).cell0; have c11 := (K.out.sp (.tail _ (.tail _ (.head _)))).cell1; have c12 := (K.out.sp (.tail _ (.tail _ (.head _)))).cell2)
    (have f2 := (K.out.sp (.tail _ (.head _))).warm; have c20 := (K.out.sp (.tail _ (.head _))).cell0; have c21 := (K.out.sp (.tail _ (.head _))).cell1; have c22 := (K.out.sp (.tail _ (.head _))).cell2)
    (have f3 := (K.out.sp (.head _)).warm; have c30 := (K.out.sp (.head _)).cell0; have c31 := (K.out.sp (.head _)).cell1; have c32 := (K.out.sp (.head _)).cell2)
    go_wp2_with fail
    (refine ((in_any m x _)).mono ?_; rintro e w2 ⟨rfl, hb⟩; replace K := Lib.hid (Keep.stays _ _ K.out hb); clear hb)
    ((try clear f1); (try clear c10 c11 c12))
    ((try clear f2); (try clear c20 c21 c22))
    ((try clear f3); (try clear c30 c31 c32))
    (have f1 := (K.out.sp (.tail _ (.tail _ (.head _)))).warm; have c10 := (K.out.sp (.tail _ (.tail _ (.head _)))).cell0; have c11 := (K.out.sp (.tail _ (.tail _ (.head _)))).cell1; have c12 := (K.out.sp (.tail _ (.tail _ (.head _)))).cell2)
    (have f2 := (K.out.sp (.tail _ (.head _))).warm; have c20 := (K.out.sp (.tail _ (.head _))).cell0; have c21 := (K.out.sp (.tail _ (.head _))).cell1; have c22 := (K.out.sp (.tail _ (.head _))).cell2)
    (have f3 := (K.out.sp (.head _)).warm; have c30 := (K.out.sp (.head _)).cell0; have c31 := (K.out.sp (.head _)).cell1; have c32 := (K.out.sp (.head _)).cell2)
    go_wp2_with fail
    (refine ((in_any m y _)).mono ?_; rintro e w2 ⟨rfl, hb⟩; replace K := Lib.hid (Keep.stays _ _ K.out hb); clear hb)
    ((try clear f1); (try clear c10 c11 c12))
    ((try clear f2); (try clear c20 c21 c22))
    ((try clear f3); (try clear c30 c31 c32))
    (have f1 := (K.out.sp (.tail _ (.tail _ (.head _)))).warm; have c10 := (K.out.sp (.tail _ (.tail _ (.head _)))).cell0; have c11 := (K.out.sp (.tail _ (.tail _ (.head _)))).cell1; have c12 := (K.out.sp (.tail _ (.tail _ (.head _)))).cell2)
    (have f2 := (K.out.sp (.tail _ (.head _))).warm; have c20 := (K.out.sp (.tail _ (.head _))).cell0; have c21 := (K.out.sp (.tail _ (.head _))).cell1; have c22 := (K.out.sp (.tail _ (.head _))).cell2)
    (have f3 := (K.out.sp (.head _)).warm; have c30 := (K.out.sp (.head _)).cell0; have c31 := (K.out.sp (.head _)).cell1; have c32 := (K.out.sp (.head _)).cell2)
    go_wp2_with fail
    (refine ((has_any x n V.out _)).mono ?_; rintro e w2 ⟨rfl, hb⟩; replace K := Lib.hid (Keep.stays _ _ K.out hb); clear hb)
    ((try clear f1); (try clear c10 c11 c12))
    ((try clear f2); (try clear c20 c21 c22))
    ((try clear f3); (try clear c30 c31 c32))
    (have f1 := (K.out.sp (.tail _ (.tail _ (.head _)))).warm; have c10 := (K.out.sp (.tail _ (.tail _ (.head _)))).cell0; have c11 := (K.out.sp (.tail _ (.tail _ (.head _)))).cell1; have c12 := (K.out.sp (.tail _ (.tail _ (.head _)))).cell2)
    (have f2 := (K.out.sp (.tail _ (.head _))).warm; have c20 := (K.out.sp (.tail _ (.head _))).cell0; have c21 := (K.out.sp (.tail _ (.head _))).cell1; have c22 := (K.out.sp (.tail _ (.head _))).cell2)
    (have f3 := (K.out.sp (.head _)).warm; have c30 := (K.out.sp (.head _)).cell0; have c31 := (K.out.sp (.head _)).cell1; have c32 := (K.out.sp (.head _)).cell2)
    go_wp2_with fail
    (refine ((has_any m n V.out _)).mono ?_; rintro e w2 ⟨rfl, hb⟩; replace K := Lib.hid (Keep.stays _ _ K.out hb); clear hb)
    ((try clear f1); (try clear c10 c11 c12))
    ((try clear f2); (try clear c20 c21 c22))
    ((try clear f3); (try clear c30 c31 c32))
    (have f1 := (K.out.sp (.tail _ (.tail _ (.head _)))).warm; have c10 := (K.out.sp (.tail _ (.tail _ (.head _)))).cell0; have c11 := (K.out.sp (.tail _ (.tail _ (.head _)))).cell1; have c12 := (K.out.sp (.tail _ (.tail _ (.head _)))).cell2)
    (have f2 := (K.out.sp (.tail _ (.head _))).warm; have c20 := (K.out.sp (.tail _ (.head _))).cell0; have c21 := (K.out.sp (.tail _ (.head _))).cell1; have c22 := (K.out.sp (.tail _ (.head _))).cell2)
    (have f3 := (K.out.sp (.head _)).warm; have c30 := (K.out.sp (.head _)).cell0; have c31 := (K.out.sp (.head _)).cell1; have c32 := (K.out.sp (.head _)).cell2)
    go_wp2_with fail
    (refine ((join_any x y _)).mono ?_; rintro e w2 ⟨rfl, hb⟩; replace K := Lib.hid (Keep.stays _ _ K.out hb); clear hb)
    ((try clear f1); (try clear c10 c11 c12))
    ((try clear f2); (try clear c20 c21 c22))
    ((try clear f3); (try clear c30 c31 c32))
    (go_upto_region 8 with fail; replace K := Lib.hid (K.out.alloc (Obj.box (join x y))); generalize w2.heap.size = gg at *; refine out_keep K.out ?_; clear K; intro W K; replace K := Lib.hid K; clear w2)
    (have f1 := (K.out.sp (.tail _ (.tail _ (.tail _ (.head _))))).warm; have c10 := (K.out.sp (.tail _ (.tail _ (.tail _ (.head _))))).cell0; have c11 := (K.out.sp (.tail _ (.tail _ (.tail _ (.head _))))).cell1; have c12 := (K.out.sp (.tail _ (.tail _ (.tail _ (.head _))))).cell2)
    (have f2 := (K.out.sp (.tail _ (.tail _ (.head _)))).warm; have c20 := (K.out.sp (.tail _ (.tail _ (.head _)))).cell0; have c21 := (K.out.sp (.tail _ (.tail _ (.head _)))).cell1; have c22 := (K.out.sp (.tail _ (.tail _ (.head _)))).cell2)
    (have f3 := (K.out.sp (.tail _ (.head _))).warm; have c30 := (K.out.sp (.tail _ (.head _))).cell0; have c31 := (K.out.sp (.tail _ (.head _))).cell1; have c32 := (K.out.sp (.tail _ (.head _))).cell2)
    (have f4 := (K.out.sp (.head _)).warm; have c40 := (K.out.sp (.head _)).cell0; have c41 := (K.out.sp (.head _)).cell1; have c42 := (K.out.sp (.head _)).cell2)
    go_wp2_with fail
    (refine ((J1.out _)).mono ?_; rintro e w2 ⟨rfl, hb⟩; replace K := Lib.hid (Keep.stays _ _ K.out hb); clear hb)
    (((try clear f1); (try clear c10 c11 c12)); ((try clear f2); (try clear c20 c21 c22)); ((try clear f3); (try clear c30 c31 c32)); ((try clear f4); (try clear c40 c41 c42)))
    (have f1 := (K.out.sp (.tail _ (.tail _ (.tail _ (.head _))))).warm; have c10 := (K.out.sp (.tail _ (.tail _ (.tail _ (.head _))))).cell0; have c11 := (K.out.sp (.tail _ (.tail _ (.tail _ (.head _))))).cell1; have c12 := (K.out.sp (.tail _ (.tail _ (.tail _ (.head _))))).cell2)
    (have f2 := (K.out.sp (.tail _ (.tail _ (.head _)))).warm; have c20 := (K.out.sp (.tail _ (.tail _ (.head _)))).cell0; have c21 := (K.out.sp (.tail _ (.tail _ (.head _)))).cell1; have c22 := (K.out.sp (.tail _ (.tail _ (.head _)))).cell2)
    (have f3 := (K.out.sp (.tail _ (.head _))).warm; have c30 := (K.out.sp (.tail _ (.head _))).cell0; have c31 := (K.out.sp (.tail _ (.head _))).cell1; have c32 := (K.out.sp (.tail _ (.head _))).cell2)
    (have f4 := (K.out.sp (.head _)).warm; have c40 := (K.out.sp (.head _)).cell0; have c41 := (K.out.sp (.head _)).cell1; have c42 := (K.out.sp (.head _)).cell2)
    go_wp2_with fail
    (refine ((J2.out _)).mono ?_; rintro e w2 ⟨rfl, hb⟩; replace K := Lib.hid (Keep.stays _ _ K.out hb); clear hb)
    (((try clear f1); (try clear c10 c11 c12)); ((try clear f2); (try clear c20 c21 c22)); ((try clear f3); (try clear c30 c31 c32)); ((try clear f4); (try clear c40 c41 c42)))
    (have f1 := (K.out.sp (.tail _ (.tail _ (.tail _ (.head _))))).warm; have c10 := (K.out.sp (.tail _ (.tail _ (.tail _ (.head _))))).cell0; have c11 := (K.out.sp (.tail _ (.tail _ (.tail _ (.head _))))).cell1; have c12 := (K.out.sp (.tail _ (.tail _ (.tail _ (.head _))))).cell2)
    (have f2 := (K.out.sp (.tail _ (.tail _ (.head _)))).warm; have c20 := (K.out.sp (.tail _ (.tail _ (.head _)))).cell0; have c21 := (K.out.sp (.tail _ (.tail _ (.head _)))).cell1; have c22 := (K.out.sp (.tail _ (.tail _ (.head _)))).cell2)
    (have f3 := (K.out.sp (.tail _ (.head _))).warm; have c30 := (K.out.sp (.tail _ (.head _))).cell0; have c31 := (K.out.sp (.tail _ (.head _))).cell1; have c32 := (K.out.sp (.tail _ (.head _))).cell2)
    (have f4 := (K.out.sp (.head _)).warm; have c40 := (K.out.sp (.head _)).cell0; have c41 := (K.out.sp (.head _)).cell1; have c42 := (K.out.sp (.head _)).cell2)
    go_wp2_with fail
    (refine ((mid_any x _)).mono ?_; rintro e w2 ⟨rfl, hb⟩; replace K := Lib.hid (Keep.stays _ _ K.out hb); clear hb)
    (((try clear f1); (try clear c10 c11 c12)); ((try clear f2); (try clear c20 c21 c22)); ((try clear f3); (try clear c30 c31 c32)); ((try clear f4); (try clear c40 c41 c42)))
    (have f1 := (K.out.sp (.tail _ (.tail _ (.tail _ (.head _))))).warm; have c10 := (K.out.sp (.tail _ (.tail _ (.tail _ (.head _))))).cell0; have c11 := (K.out.sp (.tail _ (.tail _ (.tail _ (.head _))))).cell1; have c12 := (K.out.sp (.tail _ (.tail _ (.tail _ (.head _))))).cell2)
    (have f2 := (K.out.sp (.tail _ (.tail _ (.head _)))).warm; have c20 := (K.out.sp (.tail _ (.tail _ (.head _)))).cell0; have c21 := (K.out.sp (.tail _ (.tail _ (.head _)))).cell1; have c22 := (K.out.sp (.tail _ (.tail _ (.head _)))).cell2)
    (have f3 := (K.out.sp (.tail _ (.head _))).warm; have c30 := (K.out.sp (.tail _ (.head _))).cell0; have c31 := (K.out.sp (.tail _ (.head _))).cell1; have c32 := (K.out.sp (.tail _ (.head _))).cell2)
    (have f4 := (K.out.sp (.head _)).warm; have c40 := (K.out.sp (.head _)).cell0; have c41 := (K.out.sp (.head _)).cell1; have c42 := (K.out.sp (.head _)).cell2)
    go_wp2_with fail
    (refine ((rad_any x _)).mono ?_; rintro e w2 ⟨rfl, hb⟩; replace K := Lib.hid (Keep.stays _ _ K.out hb); clear hb)
    (((try clear f1); (try clear c10 c11 c12)); ((try clear f2); (try clear c20 c21 c22)); ((try clear f3); (try clear c30 c31 c32)); ((try clear f4); (try clear c40 c41 c42)))
    (have f1 := (K.out.sp (.tail _ (.tail _ (.tail _ (.head _))))).warm; have c10 := (K.out.sp (.tail _ (.tail _ (.tail _ (.head _))))).cell0; have c11 := (K.out.sp (.tail _ (.tail _ (.tail _ (.head _))))).cell1; have c12 := (K.out.sp (.tail _ (.tail _ (.tail _ (.head _))))).cell2)
    (have f2 := (K.out.sp (.tail _ (.tail _ (.head _)))).warm; have c20 := (K.out.sp (.tail _ (.tail _ (.head _)))).cell0; have c21 := (K.out.sp (.tail _ (.tail _ (.head _)))).cell1; have c22 := (K.out.sp (.tail _ (.tail _ (.head _)))).cell2)
    (have f3 := (K.out.sp (.tail _ (.head _))).warm; have c30 := (K.out.sp (.tail _ (.head _))).cell0; have c31 := (K.out.sp (.tail _ (.head _))).cell1; have c32 := (K.out.sp (.tail _ (.head _))).cell2)
    (have f4 := (K.out.sp (.head _)).warm; have c40 := (K.out.sp (.head _)).cell0; have c41 := (K.out.sp (.head _)).cell1; have c42 := (K.out.sp (.head _)).cell2)
    go_wp2_with fail
    (refine ((J3.out _)).mono ?_; rintro e w2 ⟨rfl, hb⟩; replace K := Lib.hid (Keep.stays _ _ K.out hb); clear hb)
    (((try clear f1); (try clear c10 c11 c12)); ((try clear f2); (try clear c20 c21 c22)); ((try clear f3); (try clear c30 c31 c32)); ((try clear f4); (try clear c40 c41 c42)))
    go_wp2_with fail
    (refine region_quiet _ (by kernel_rfl) (by kernel_rfl) K.out.drew ?_; haveI ne := Keep.ne K)
    (have c10 := Keep.at0 K (.tail _ (.tail _ (.tail _ (.head _)))); have c11 := Keep.at1 K (.tail _ (.tail _ (.tail _ (.head _)))); have c12 := Keep.at2 K (.tail _ (.tail _ (.tail _ (.head _)))))
    repeat (go_big_quiet_step (first | (go_at_call 42; with_reducible exact At.call Keep.stays (of_any _ _ _)) | (go_at_call 41; with_reducible exact At.call Keep.stays (in_any x (of (mid x - rad x) (mid x + rad x)) _))))
    (refine wpQuiet_nil ?_; clear ne K; intro W K; replace K := Lib.hid K)
    go_wp2_with fail
    (refine region_quiet _ (by kernel_rfl) (by kernel_rfl) K.out.drew ?_; haveI ne := Keep.ne K)
    repeat (go_big_quiet_step (first | (go_at_call 42; with_reducible exact At.call Keep.stays (of_any _ _ _)) | (go_at_call 50; with_reducible exact At.call Keep.stays (div_any (of 0 0) (of 0 0) _)) | (go_at_call 41; with_reducible exact At.call Keep.stays (J4.out _))))
    (refine wpQuiet_nil ?_; clear ne K; intro W K; replace K := Lib.hid K)
    rcases S2.out with hr | hw
    · cases hw : inn x (of (mid x - rad x) (mid x + rad x)) <;> (go_wp2_with fail; go_ret; exact ⟨rfl, K.out.B⟩)
    · go_wp2_with fail
      go_ret
      exact ⟨rfl, K.out.B⟩
  · obtain ⟨rfl, i1, i2, hp, hq, hr⟩ := h5
    go_enter Try.func15, Try.ntmps15
    (go_wp2_with fail; (refine (((awake_any _))).mono ?_; rintro e w2 ⟨rfl, hb⟩; replace K := Lib.hid (Keep.stays _ _ K.out hb); clear hb))
    (have f1 := (K.out.sp (.tail _ (.head _))).warm; have c10 := (K.out.sp (.tail _ (.head _))).cell0; have c11 := (K.out.sp (.tail _ (.head _))).cell1; have c12 := (K.out.sp (.tail _ (.head _))).cell2)
    (have f2 := (K.out.sp (.head _)).warm; have c20 := (K.out.sp (.head _)).cell0; have c21 := (K.out.sp (.head _)).cell1; have c22 := (K.out.sp (.head _)).cell2)
    go_wp2_with fail
    (refine ((HC.out _)).mono ?_; rintro e w2 ⟨rfl, hb⟩; replace K := Lib.hid (Keep.stays _ _ K.out hb); clear hb)
    clear HC
    ((try clear f1); (try clear c10 c11 c12))
    ((try clear f2); (try clear c20 c21 c22))
    (go_upto_region 3 with fail; replace K := Lib.hid (K.out.alloc (Obj.box m)); generalize w2.heap.size = gg at *; refine out_keep K.out ?_; clear K; intro W K; replace K := Lib.hid K; clear w2)
    (have f1 := (K.out.sp (.tail _ (.tail _ (.head _)))).warm; have c10 := (K.out.sp (.tail _ (.tail _ (.head _)))).cell0; have c11 := (K.out.sp (.tail _ (.tail _ (.head _)))).cell1; have c12 := (K.out.sp (.tail _ (.tail _ (.head _)))).cell2)
    (have f2 := (K.out.sp (.tail _ (.head _))).warm; have c20 := (K.out.sp (.tail _ (.head _))).cell0; have c21 := (K.out.sp (.tail _ (.head _))).cell1; have c22 := (K.out.sp (.tail _ (.head _))).cell2)
    (have f3 := (K.out.sp (.head _)).warm; have c30 := (K.out.sp (.head _)).cell0; have c31 := (K.out.sp (.head _)).cell1; have c32 := (K.out.sp (.head _)).cell2)
    go_wp2_with fail
    (refine ((in_any m x _)).mono ?_; rintro e w2 ⟨rfl, hb⟩; replace K := Lib.hid (Keep.stays _ _ K.out hb); clear hb)
    ((try clear f1); (try clear c10 c11 c12))
    ((try clear f2); (try clear c20 c21 c22))
    ((try clear f3); (try clear c30 c31 c32))
    (have f1 := (K.out.sp (.tail _ (.tail _ (.head _)))).warm; have c10 := (K.out.sp (.tail _ (.tail _ (.head _)))).cell0; have c11 := (K.out.sp (.tail _ (.tail _ (.head _)))).cell1; have c12 := (K.out.sp (.tail _ (.tail _ (.head _)))).cell2)
    (have f2 := (K.out.sp (.tail _ (.head _))).warm; have c20 := (K.out.sp (.tail _ (.head _))).cell0; have c21 := (K.out.sp (.tail _ (.head _))).cell1; have c22 := (K.out.sp (.tail _ (.head _))).cell2)
    (have f3 := (K.out.sp (.head _)).warm; have c30 := (K.out.sp (.head _)).cell0; have c31 := (K.out.sp (.head _)).cell1; have c32 := (K.out.sp (.head _)).cell2)
    go_wp2_with fail
    (refine ((in_any m y _)).mono ?_; rintro e w2 ⟨rfl, hb⟩; replace K := Lib.hid (Keep.stays _ _ K.out hb); clear hb)
    ((try clear f1); (try clear c10 c11 c12))
    ((try clear f2); (try clear c20 c21 c22))
    ((try clear f3); (try clear c30 c31 c32))
    (have f1 := (K.out.sp (.tail _ (.tail _ (.head _)))).warm; have c10 := (K.out.sp (.tail _ (.tail _ (.head _)))).cell0; have c11 := (K.out.sp (.tail _ (.tail _ (.head _)))).cell1; have c12 := (K.out.sp (.tail _ (.tail _ (.head _)))).cell2)
    (have f2 := (K.out.sp (.tail _ (.head _))).warm; have c20 := (K.out.sp (.tail _ (.head _))).cell0; have c21 := (K.out.sp (.tail _ (.head _))).cell1; have c22 := (K.out.sp (.tail _ (.head _))).cell2)
    (have f3 := (K.out.sp (.head _)).warm; have c30 := (K.out.sp (.head _)).cell0; have c31 := (K.out.sp (.head _)).cell1; have c32 := (K.out.sp (.head _)).cell2)
    go_wp2_with fail
    (refine ((has_any x n V.out _)).mono ?_; rintro e w2 ⟨rfl, hb⟩; replace K := Lib.hid (Keep.stays _ _ K.out hb); clear hb)
    ((try clear f1); (try clear c10 c11 c12))
    ((try clear f2); (try clear c20 c21 c22))
    ((try clear f3); (try clear c30 c31 c32))
    (have f1 := (K.out.sp (.tail _ (.tail _ (.head _)))).warm; have c10 := (K.out.sp (.tail _ (.tail _ (.head _)))).cell0; have c11 := (K.out.sp (.tail _ (.tail _ (.head _)))).cell1; have c12 := (K.out.sp (.tail _ (.tail _ (.head _)))).cell2)
    (have f2 := (K.out.sp (.tail _ (.head _))).warm; have c20 := (K.out.sp (.tail _ (.head _))).cell0; have c21 := (K.out.sp (.tail _ (.head _))).cell1; have c22 := (K.out.sp (.tail _ (.head _))).cell2)
    (have f3 := (K.out.sp (.head _)).warm; have c30 := (K.out.sp (.head _)).cell0; have c31 := (K.out.sp (.head _)).cell1; have c32 := (K.out.sp (.head _)).cell2)
    go_wp2_with fail
    (refine ((has_any y n V.out _)).mono ?_; rintro e w2 ⟨rfl, hb⟩; replace K := Lib.hid (Keep.stays _ _ K.out hb); clear hb)
    ((try clear f1); (try clear c10 c11 c12))
    ((try clear f2); (try clear c20 c21 c22))
    ((try clear f3); (try clear c30 c31 c32))
    (have f1 := (K.out.sp (.tail _ (.tail _ (.head _)))).warm; have c10 := (K.out.sp (.tail _ (.tail _ (.head _)))).cell0; have c11 := (K.out.sp (.tail _ (.tail _ (.head _)))).cell1; have c12 := (K.out.sp (.tail _ (.tail _ (.head _)))).cell2)
    (have f2 := (K.out.sp (.tail _ (.head _))).warm; have c20 := (K.out.sp (.tail _ (.head _))).cell0; have c21 := (K.out.sp (.tail _ (.head _))).cell1; have c22 := (K.out.sp (.tail _ (.head _))).cell2)
    (have f3 := (K.out.sp (.head _)).warm; have c30 := (K.out.sp (.head _)).cell0; have c31 := (K.out.sp (.head _)).cell1; have c32 := (K.out.sp (.head _)).cell2)
    go_wp2_with fail
    (refine ((has_any m n V.out _)).mono ?_; rintro e w2 ⟨rfl, hb⟩; replace K := Lib.hid (Keep.stays _ _ K.out hb); clear hb)
    ((try clear f1); (try clear c10 c11 c12))
    ((try clear f2); (try clear c20 c21 c22))
    ((try clear f3); (try clear c30 c31 c32))
    (have f1 := (K.out.sp (.tail _ (.tail _ (.head _)))).warm; have c10 := (K.out.sp (.tail _ (.tail _ (.head _)))).cell0; have c11 := (K.out.sp (.tail _ (.tail _ (.head _)))).cell1; have c12 := (K.out.sp (.tail _ (.tail _ (.head _)))).cell2)
    (have f2 := (K.out.sp (.tail _ (.head _))).warm; have c20 := (K.out.sp (.tail _ (.head _))).cell0; have c21 := (K.out.sp (.tail _ (.head _))).cell1; have c22 := (K.out.sp (.tail _ (.head _))).cell2)
    (have f3 := (K.out.sp (.head _)).warm; have c30 := (K.out.sp (.head _)).cell0; have c31 := (K.out.sp (.head _)).cell1; have c32 := (K.out.sp (.head _)).cell2)
    go_wp2_with fail
    (refine ((join_any x y _)).mono ?_; rintro e w2 ⟨rfl, hb⟩; replace K := Lib.hid (Keep.stays _ _ K.out hb); clear hb)
    ((try clear f1); (try clear c10 c11 c12))
    ((try clear f2); (try clear c20 c21 c22))
    ((try clear f3); (try clear c30 c31 c32))
    (go_upto_region 8 with fail; replace K := Lib.hid (K.out.alloc (Obj.box (join x y))); generalize w2.heap.size = gg at *; refine out_keep K.out ?_; clear K; intro W K; replace K := Lib.hid K; clear w2)
    (have f1 := (K.out.sp (.tail _ (.tail _ (.tail _ (.head _))))).warm; have c10 := (K.out.sp (.tail _ (.tail _ (.tail _ (.head _))))).cell0; have c11 := (K.out.sp (.tail _ (.tail _ (.tail _ (.head _))))).cell1; have c12 := (K.out.sp (.tail _ (.tail _ (.tail _ (.head _))))).cell2)
    (have f2 := (K.out.sp (.tail _ (.tail _ (.head _)))).warm; have c20 := (K.out.sp (.tail _ (.tail _ (.head _)))).cell0; have c21 := (K.out.sp (.tail _ (.tail _ (.head _)))).cell1; have c22 := (K.out.sp (.tail _ (.tail _ (.head _)))).cell2)
    (have f3 := (K.out.sp (.tail _ (.head _))).warm; have c30 := (K.out.sp (.tail _ (.head _))).cell0; have c31 := (K.out.sp (.tail _ (.head _))).cell1; have c32 := (K.out.sp (.tail _ (.head _))).cell2)
    (have f4 := (K.out.sp (.head _)).warm; have c40 := (K.out.sp (.head _)).cell0; have c41 := (K.out.sp (.head _)).cell1; have c42 := (K.out.sp (.head _)).cell2)
    go_wp2_with fail
    (refine ((J1.out _)).mono ?_; rintro e w2 ⟨rfl, hb⟩; replace K := Lib.hid (Keep.stays _ _ K.out hb); clear hb)
    (((try clear f1); (try clear c10 c11 c12)); ((try clear f2); (try clear c20 c21 c22)); ((try clear f3); (try clear c30 c31 c32)); ((try clear f4); (try clear c40 c41 c42)))
    (have f1 := (K.out.sp (.tail _ (.tail _ (.tail _ (.head _))))).warm; have c10 := (K.out.sp (.tail _ (.tail _ (.tail _ (.head _))))).cell0; have c11 := (K.out.sp (.tail _ (.tail _ (.tail _ (.head _))))).cell1; have c12 := (K.out.sp (.tail _ (.tail _ (.tail _ (.head _))))).cell2)
    (have f2 := (K.out.sp (.tail _ (.tail _ (.head _)))).warm; have c20 := (K.out.sp (.tail _ (.tail _ (.head _)))).cell0; have c21 := (K.out.sp (.tail _ (.tail _ (.head _)))).cell1; have c22 := (K.out.sp (.tail _ (.tail _ (.head _)))).cell2)
    (have f3 := (K.out.sp (.tail _ (.head _))).warm; have c30 := (K.out.sp (.tail _ (.head _))).cell0; have c31 := (K.out.sp (.tail _ (.head _))).cell1; have c32 := (K.out.sp (.tail _ (.head _))).cell2)
    (have f4 := (K.out.sp (.head _)).warm; have c40 := (K.out.sp (.head _)).cell0; have c41 := (K.out.sp (.head _)).cell1; have c42 := (K.out.sp (.head _)).cell2)
    go_wp2_with fail
    (refine ((J2.out _)).mono ?_; rintro e w2 ⟨rfl, hb⟩; replace K := Lib.hid (Keep.stays _ _ K.out hb); clear hb)
    (((try clear f1); (try clear c10 c11 c12)); ((try clear f2); (try clear c20 c21 c22)); ((try clear f3); (try clear c30 c31 c32)); ((try clear f4); (try clear c40 c41 c42)))
    (have f1 := (K.out.sp (.tail _ (.tail _ (.tail _ (.head _))))).warm; have c10 := (K.out.sp (.tail _ (.tail _ (.tail _ (.head _))))).cell0; have c11 := (K.out.sp (.tail _ (.tail _ (.tail _ (.head _))))).cell1; have c12 := (K.out.sp (.tail _ (.tail _ (.tail _ (.head _))))).cell2)
    (have f2 := (K.out.sp (.tail _ (.tail _ (.head _)))).warm; have c20 := (K.out.sp (.tail _ (.tail _ (.head _)))).cell0; have c21 := (K.out.sp (.tail _ (.tail _ (.head _)))).cell1; have c22 := (K.out.sp (.tail _ (.tail _ (.head _)))).cell2)
    (have f3 := (K.out.sp (.tail _ (.head _))).warm; have c30 := (K.out.sp (.tail _ (.head _))).cell0; have c31 := (K.out.sp (.tail _ (.head _))).cell1; have c32 := (K.out.sp (.tail _ (.head _))).cell2)
    (have f4 := (K.out.sp (.head _)).warm; have c40 := (K.out.sp (.head _)).cell0; have c41 := (K.out.sp (.head _)).cell1; have c42 := (K.out.sp (.head _)).cell2)
    go_wp2_with fail
    (refine ((mid_any x _)).mono ?_; rintro e w2 ⟨rfl, hb⟩; replace K := Lib.hid (Keep.stays _ _ K.out hb); clear hb)
    (((try clear f1); (try clear c10 c11 c12)); ((try clear f2); (try clear c20 c21 c22)); ((try clear f3); (try clear c30 c31 c32)); ((try clear f4); (try clear c40 c41 c42)))
    (have f1 := (K.out.sp (.tail _ (.tail _ (.tail _ (.head _))))).warm; have c10 := (K.out.sp (.tail _ (.tail _ (.tail _ (.head _))))).cell0; have c11 := (K.out.sp (.tail _ (.tail _ (.tail _ (.head _))))).cell1; have c12 := (K.out.sp (.tail _ (.tail _ (.tail _ (.head _))))).cell2)
    (have f2 := (K.out.sp (.tail _ (.tail _ (.head _)))).warm; have c20 := (K.out.sp (.tail _ (.tail _ (.head _)))).cell0; have c21 := (K.out.sp (.tail _ (.tail _ (.head _)))).cell1; have c22 := (K.out.sp (.tail _ (.tail _ (.head _)))).cell2)
    (have f3 := (K.out.sp (.tail _ (.head _))).warm; have c30 := (K.out.sp (.tail _ (.head _))).cell0; have c31 := (K.out.sp (.tail _ (.head _))).cell1; have c32 := (K.out.sp (.tail _ (.head _))).cell2)
    (have f4 := (K.out.sp (.head _)).warm; have c40 := (K.out.sp (.head _)).cell0; have c41 := (K.out.sp (.head _)).cell1; have c42 := (K.out.sp (.head _)).cell2)
    go_wp2_with fail
    (refine ((rad_any x _)).mono ?_; rintro e w2 ⟨rfl, hb⟩; replace K := Lib.hid (Keep.stays _ _ K.out hb); clear hb)
    (((try clear f1); (try clear c10 c11 c12)); ((try clear f2); (try clear c20 c21 c22)); ((try clear f3); (try clear c30 c31 c32)); ((try clear f4); (try clear c40 c41 c42)))
    (have f1 := (K.out.sp (.tail _ (.tail _ (.tail _ (.head _))))).warm; have c10 := (K.out.sp (.tail _ (.tail _ (.tail _ (.head _))))).cell0; have c11 := (K.out.sp (.tail _ (.tail _ (.tail _ (.head _))))).cell1; have c12 := (K.out.sp (.tail _ (.tail _ (.tail _ (.head _))))).cell2)
    (have f2 := (K.out.sp (.tail _ (.tail _ (.head _)))).warm; have c20 := (K.out.sp (.tail _ (.tail _ (.head _)))).cell0; have c21 := (K.out.sp (.tail _ (.tail _ (.head _)))).cell1; have c22 := (K.out.sp (.tail _ (.tail _ (.head _)))).cell2)
    (have f3 := (K.out.sp (.tail _ (.head _))).warm; have c30 := (K.out.sp (.tail _ (.head _))).cell0; have c31 := (K.out.sp (.tail _ (.head _))).cell1; have c32 := (K.out.sp (.tail _ (.head _))).cell2)
    (have f4 := (K.out.sp (.head _)).warm; have c40 := (K.out.sp (.head _)).cell0; have c41 := (K.out.sp (.head _)).cell1; have c42 := (K.out.sp (.head _)).cell2)
    go_wp2_with fail
    (refine ((J3.out _)).mono ?_; rintro e w2 ⟨rfl, hb⟩; replace K := Lib.hid (Keep.stays _ _ K.out hb); clear hb)
    (((try clear f1); (try clear c10 c11 c12)); ((try clear f2); (try clear c20 c21 c22)); ((try clear f3); (try clear c30 c31 c32)); ((try clear f4); (try clear c40 c41 c42)))
    go_wp2_with fail
    (refine region_quiet _ (by kernel_rfl) (by kernel_rfl) K.out.drew ?_; haveI ne := Keep.ne K)
    (have c10 := Keep.at0 K (.tail _ (.tail _ (.tail _ (.head _)))); have c11 := Keep.at1 K (.tail _ (.tail _ (.tail _ (.head _)))); have c12 := Keep.at2 K (.tail _ (.tail _ (.tail _ (.head _)))))
    repeat (go_big_quiet_step (first | (go_at_call 42; with_reducible exact At.call Keep.stays (of_any _ _ _)) | (go_at_call 41; with_reducible exact At.call Keep.stays (in_any x (of (mid x - rad x) (mid x + rad x)) _))))
    (refine wpQuiet_nil ?_; clear ne K; intro W K; replace K := Lib.hid K)
    go_wp2_with fail
    (refine region_quiet _ (by kernel_rfl) (by kernel_rfl) K.out.drew ?_; haveI ne := Keep.ne K)
    repeat (go_big_quiet_step (first | (go_at_call 42; with_reducible exact At.call Keep.stays (of_any _ _ _)) | (go_at_call 50; with_reducible exact At.call Keep.stays (div_any (of 0 0) (of 0 0) _)) | (go_at_call 41; with_reducible exact At.call Keep.stays (J4.out _))))
    (refine wpQuiet_nil ?_; clear ne K; intro W K; replace K := Lib.hid K)
    rcases S2.out with hr | hw
    · cases hw : inn x (of (mid x - rad x) (mid x + rad x)) <;> (go_wp2_with fail; go_ret; exact ⟨rfl, K.out.B⟩)
    · go_wp2_with fail
      go_ret
      exact ⟨rfl, K.out.B⟩
  · obtain ⟨rfl, i1, i2, hp, hq, hr⟩ := h5
    go_enter Try.func15, Try.ntmps15
    (go_wp2_with fail; (refine (((awake_any _))).mono ?_; rintro e w2 ⟨rfl, hb⟩; replace K := Lib.hid (Keep.stays _ _ K.out hb); clear hb))
    (have f1 := (K.out.sp (.tail _ (.head _))).warm; have c10 := (K.out.sp (.tail _ (.head _))).cell0; have c11 := (K.out.sp (.tail _ (.head _))).cell1; have c12 := (K.out.sp (.tail _ (.head _))).cell2)
    (have f2 := (K.out.sp (.head _)).warm; have c20 := (K.out.sp (.head _)).cell0; have c21 := (K.out.sp (.head _)).cell1; have c22 := (K.out.sp (.head _)).cell2)
    go_wp2_with fail
    (refine ((HC.out _)).mono ?_; rintro e w2 ⟨rfl, hb⟩; replace K := Lib.hid (Keep.stays _ _ K.out hb); clear hb)
    clear HC
    ((try clear f1); (try clear c10 c11 c12))
    ((try clear f2); (try clear c20 c21 c22))
    (go_upto_region 3 with fail; replace K := Lib.hid (K.out.alloc (Obj.box m)); generalize w2.heap.size = gg at *; refine out_keep K.out ?_; clear K; intro W K; replace K := Lib.hid K; clear w2)
    (have f1 := (K.out.sp (.tail _ (.tail _ (.head _)))).warm; have c10 := (K.out.sp (.tail _ (.tail _ (.head _)))).cell0; have c11 := (K.out.sp (.tail _ (.tail _ (.head _)))).cell1; have c12 := (K.out.sp (.tail _ (.tail _ (.head _)))).cell2)
    (have f2 := (K.out.sp (.tail _ (.head _))).warm; have c20 := (K.out.sp (.tail _ (.head _))).cell0; have c21 := (K.out.sp (.tail _ (.head _))).cell1; have c22 := (K.out.sp (.tail _ (.head _))).cell2)
    (have f3 := (K.out.sp (.head _)).warm; have c30 := (K.out.sp (.head _)).cell0; have c31 := (K.out.sp (.head _)).cell1; have c32 := (K.out.sp (.head _)).cell2)
    go_wp2_with fail
    (refine ((in_any m x _)).mono ?_; rintro e w2 ⟨rfl, hb⟩; replace K := Lib.hid (Keep.stays _ _ K.out hb); clear hb)
    ((try clear f1); (try clear c10 c11 c12))
    ((try clear f2); (try clear c20 c21 c22))
    ((try clear f3); (try clear c30 c31 c32))
    (have f1 := (K.out.sp (.tail _ (.tail _ (.head _)))).warm; have c10 := (K.out.sp (.tail _ (.tail _ (.head _)))).cell0; have c11 := (K.out.sp (.tail _ (.tail _ (.head _)))).cell1; have c12 := (K.out.sp (.tail _ (.tail _ (.head _)))).cell2)
    (have f2 := (K.out.sp (.tail _ (.head _))).warm; have c20 := (K.out.sp (.tail _ (.head _))).cell0; have c21 := (K.out.sp (.tail _ (.head _))).cell1; have c22 := (K.out.sp (.tail _ (.head _))).cell2)
    (have f3 := (K.out.sp (.head _)).warm; have c30 := (K.out.sp (.head _)).cell0; have c31 := (K.out.sp (.head _)).cell1; have c32 := (K.out.sp (.head _)).cell2)
    go_wp2_with fail
    (refine ((in_any m y _)).mono ?_; rintro e w2 ⟨rfl, hb⟩; replace K := Lib.hid (Keep.stays _ _ K.out hb); clear hb)
    ((try clear f1); (try clear c10 c11 c12))
    ((try clear f2); (try clear c20 c21 c22))
    ((try clear f3); (try clear c30 c31 c32))
    (have f1 := (K.out.sp (.tail _ (.tail _ (.head _)))).warm; have c10 := (K.out.sp (.tail _ (.tail _ (.head _)))).cell0; have c11 := (K.out.sp (.tail _ (.tail _ (.head _)))).cell1; have c12 := (K.out.sp (.tail _ (.tail _ (.head _)))).cell2)
    (have f2 := (K.out.sp (.tail _ (.head _))).warm; have c20 := (K.out.sp (.tail _ (.head _))).cell0; have c21 := (K.out.sp (.tail _ (.head _))).cell1; have c22 := (K.out.sp (.tail _ (.head _))).cell2)
    (have f3 := (K.out.sp (.head _)).warm; have c30 := (K.out.sp (.head _)).cell0; have c31 := (K.out.sp (.head _)).cell1; have c32 := (K.out.sp (.head _)).cell2)
    go_wp2_with fail
    (refine ((has_any x n V.out _)).mono ?_; rintro e w2 ⟨rfl, hb⟩; replace K := Lib.hid (Keep.stays _ _ K.out hb); clear hb)
    ((try clear f1); (try clear c10 c11 c12))
    ((try clear f2); (try clear c20 c21 c22))
    ((try clear f3); (try clear c30 c31 c32))
    (have f1 := (K.out.sp (.tail _ (.tail _ (.head _)))).warm; have c10 := (K.out.sp (.tail _ (.tail _ (.head _)))).cell0; have c11 := (K.out.sp (.tail _ (.tail _ (.head _)))).cell1; have c12 := (K.out.sp (.tail _ (.tail _ (.head _)))).cell2)
    (have f2 := (K.out.sp (.tail _ (.head _))).warm; have c20 := (K.out.sp (.tail _ (.head _))).cell0; have c21 := (K.out.sp (.tail _ (.head _))).cell1; have c22 := (K.out.sp (.tail _ (.head _))).cell2)
    (have f3 := (K.out.sp (.head _)).warm; have c30 := (K.out.sp (.head _)).cell0; have c31 := (K.out.sp (.head _)).cell1; have c32 := (K.out.sp (.head _)).cell2)
    go_wp2_with fail
    (refine ((has_any y n V.out _)).mono ?_; rintro e w2 ⟨rfl, hb⟩; replace K := Lib.hid (Keep.stays _ _ K.out hb); clear hb)
    ((try clear f1); (try clear c10 c11 c12))
    ((try clear f2); (try clear c20 c21 c22))
    ((try clear f3); (try clear c30 c31 c32))
    (have f1 := (K.out.sp (.tail _ (.tail _ (.head _)))).warm; have c10 := (K.out.sp (.tail _ (.tail _ (.head _)))).cell0; have c11 := (K.out.sp (.tail _ (.tail _ (.head _)))).cell1; have c12 := (K.out.sp (.tail _ (.tail _ (.head _)))).cell2)
    (have f2 := (K.out.sp (.tail _ (.head _))).warm; have c20 := (K.out.sp (.tail _ (.head _))).cell0; have c21 := (K.out.sp (.tail _ (.head _))).cell1; have c22 := (K.out.sp (.tail _ (.head _))).cell2)
    (have f3 := (K.out.sp (.head _)).warm; have c30 := (K.out.sp (.head _)).cell0; have c31 := (K.out.sp (.head _)).cell1; have c32 := (K.out.sp (.head _)).cell2)
    go_wp2_with fail
    (refine ((has_any m n V.out _)).mono ?_; rintro e w2 ⟨rfl, hb⟩; replace K := Lib.hid (Keep.stays _ _ K.out hb); clear hb)
    ((try clear f1); (try clear c10 c11 c12))
    ((try clear f2); (try clear c20 c21 c22))
    ((try clear f3); (try clear c30 c31 c32))
    (have f1 := (K.out.sp (.tail _ (.tail _ (.head _)))).warm; have c10 := (K.out.sp (.tail _ (.tail _ (.head _)))).cell0; have c11 := (K.out.sp (.tail _ (.tail _ (.head _)))).cell1; have c12 := (K.out.sp (.tail _ (.tail _ (.head _)))).cell2)
    (have f2 := (K.out.sp (.tail _ (.head _))).warm; have c20 := (K.out.sp (.tail _ (.head _))).cell0; have c21 := (K.out.sp (.tail _ (.head _))).cell1; have c22 := (K.out.sp (.tail _ (.head _))).cell2)
    (have f3 := (K.out.sp (.head _)).warm; have c30 := (K.out.sp (.head _)).cell0; have c31 := (K.out.sp (.head _)).cell1; have c32 := (K.out.sp (.head _)).cell2)
    go_wp2_with fail
    (refine ((join_any x y _)).mono ?_; rintro e w2 ⟨rfl, hb⟩; replace K := Lib.hid (Keep.stays _ _ K.out hb); clear hb)
    ((try clear f1); (try clear c10 c11 c12))
    ((try clear f2); (try clear c20 c21 c22))
    ((try clear f3); (try clear c30 c31 c32))
    (go_upto_region 8 with fail; replace K := Lib.hid (K.out.alloc (Obj.box (join x y))); generalize w2.heap.size = gg at *; refine out_keep K.out ?_; clear K; intro W K; replace K := Lib.hid K; clear w2)
    (have f1 := (K.out.sp (.tail _ (.tail _ (.tail _ (.head _))))).warm; have c10 := (K.out.sp (.tail _ (.tail _ (.tail _ (.head _))))).cell0; have c11 := (K.out.sp (.tail _ (.tail _ (.tail _ (.head _))))).cell1; have c12 := (K.out.sp (.tail _ (.tail _ (.tail _ (.head _))))).cell2)
    (have f2 := (K.out.sp (.tail _ (.tail _ (.head _)))).warm; have c20 := (K.out.sp (.tail _ (.tail _ (.head _)))).cell0; have c21 := (K.out.sp (.tail _ (.tail _ (.head _)))).cell1; have c22 := (K.out.sp (.tail _ (.tail _ (.head _)))).cell2)
    (have f3 := (K.out.sp (.tail _ (.head _))).warm; have c30 := (K.out.sp (.tail _ (.head _))).cell0; have c31 := (K.out.sp (.tail _ (.head _))).cell1; have c32 := (K.out.sp (.tail _ (.head _))).cell2)
    (have f4 := (K.out.sp (.head _)).warm; have c40 := (K.out.sp (.head _)).cell0; have c41 := (K.out.sp (.head _)).cell1; have c42 := (K.out.sp (.head _)).cell2)
    go_wp2_with fail
    (refine ((J1.out _)).mono ?_; rintro e w2 ⟨rfl, hb⟩; replace K := Lib.hid (Keep.stays _ _ K.out hb); clear hb)
    (((try clear f1); (try clear c10 c11 c12)); ((try clear f2); (try clear c20 c21 c22)); ((try clear f3); (try clear c30 c31 c32)); ((try clear f4); (try clear c40 c41 c42)))
    (have f1 := (K.out.sp (.tail _ (.tail _ (.tail _ (.head _))))).warm; have c10 := (K.out.sp (.tail _ (.tail _ (.tail _ (.head _))))).cell0; have c11 := (K.out.sp (.tail _ (.tail _ (.tail _ (.head _))))).cell1; have c12 := (K.out.sp (.tail _ (.tail _ (.tail _ (.head _))))).cell2)
    (have f2 := (K.out.sp (.tail _ (.tail _ (.head _)))).warm; have c20 := (K.out.sp (.tail _ (.tail _ (.head _)))).cell0; have c21 := (K.out.sp (.tail _ (.tail _ (.head _)))).cell1; have c22 := (K.out.sp (.tail _ (.tail _ (.head _)))).cell2)
    (have f3 := (K.out.sp (.tail _ (.head _))).warm; have c30 := (K.out.sp (.tail _ (.head _))).cell0; have c31 := (K.out.sp (.tail _ (.head _))).cell1; have c32 := (K.out.sp (.tail _ (.head _))).cell2)
    (have f4 := (K.out.sp (.head _)).warm; have c40 := (K.out.sp (.head _)).cell0; have c41 := (K.out.sp (.head _)).cell1; have c42 := (K.out.sp (.head _)).cell2)
    go_wp2_with fail
    (refine ((J2.out _)).mono ?_; rintro e w2 ⟨rfl, hb⟩; replace K := Lib.hid (Keep.stays _ _ K.out hb); clear hb)
    (((try clear f1); (try clear c10 c11 c12)); ((try clear f2); (try clear c20 c21 c22)); ((try clear f3); (try clear c30 c31 c32)); ((try clear f4); (try clear c40 c41 c42)))
    (have f1 := (K.out.sp (.tail _ (.tail _ (.tail _ (.head _))))).warm; have c10 := (K.out.sp (.tail _ (.tail _ (.tail _ (.head _))))).cell0; have c11 := (K.out.sp (.tail _ (.tail _ (.tail _ (.head _))))).cell1; have c12 := (K.out.sp (.tail _ (.tail _ (.tail _ (.head _))))).cell2)
    (have f2 := (K.out.sp (.tail _ (.tail _ (.head _)))).warm; have c20 := (K.out.sp (.tail _ (.tail _ (.head _)))).cell0; have c21 := (K.out.sp (.tail _ (.tail _ (.head _)))).cell1; have c22 := (K.out.sp (.tail _ (.tail _ (.head _)))).cell2)
    (have f3 := (K.out.sp (.tail _ (.head _))).warm; have c30 := (K.out.sp (.tail _ (.head _))).cell0; have c31 := (K.out.sp (.tail _ (.head _))).cell1; have c32 := (K.out.sp (.tail _ (.head _))).cell2)
    (have f4 := (K.out.sp (.head _)).warm; have c40 := (K.out.sp (.head _)).cell0; have c41 := (K.out.sp (.head _)).cell1; have c42 := (K.out.sp (.head _)).cell2)
    go_wp2_with fail
    (refine ((mid_any x _)).mono ?_; rintro e w2 ⟨rfl, hb⟩; replace K := Lib.hid (Keep.stays _ _ K.out hb); clear hb)
    (((try clear f1); (try clear c10 c11 c12)); ((try clear f2); (try clear c20 c21 c22)); ((try clear f3); (try clear c30 c31 c32)); ((try clear f4); (try clear c40 c41 c42)))
    (have f1 := (K.out.sp (.tail _ (.tail _ (.tail _ (.head _))))).warm; have c10 := (K.out.sp (.tail _ (.tail _ (.tail _ (.head _))))).cell0; have c11 := (K.out.sp (.tail _ (.tail _ (.tail _ (.head _))))).cell1; have c12 := (K.out.sp (.tail _ (.tail _ (.tail _ (.head _))))).cell2)
    (have f2 := (K.out.sp (.tail _ (.tail _ (.head _)))).warm; have c20 := (K.out.sp (.tail _ (.tail _ (.head _)))).cell0; have c21 := (K.out.sp (.tail _ (.tail _ (.head _)))).cell1; have c22 := (K.out.sp (.tail _ (.tail _ (.head _)))).cell2)
    (have f3 := (K.out.sp (.tail _ (.head _))).warm; have c30 := (K.out.sp (.tail _ (.head _))).cell0; have c31 := (K.out.sp (.tail _ (.head _))).cell1; have c32 := (K.out.sp (.tail _ (.head _))).cell2)
    (have f4 := (K.out.sp (.head _)).warm; have c40 := (K.out.sp (.head _)).cell0; have c41 := (K.out.sp (.head _)).cell1; have c42 := (K.out.sp (.head _)).cell2)
    go_wp2_with fail
    (refine ((rad_any x _)).mono ?_; rintro e w2 ⟨rfl, hb⟩; replace K := Lib.hid (Keep.stays _ _ K.out hb); clear hb)
    (((try clear f1); (try clear c10 c11 c12)); ((try clear f2); (try clear c20 c21 c22)); ((try clear f3); (try clear c30 c31 c32)); ((try clear f4); (try clear c40 c41 c42)))
    (have f1 := (K.out.sp (.tail _ (.tail _ (.tail _ (.head _))))).warm; have c10 := (K.out.sp (.tail _ (.tail _ (.tail _ (.head _))))).cell0; have c11 := (K.out.sp (.tail _ (.tail _ (.tail _ (.head _))))).cell1; have c12 := (K.out.sp (.tail _ (.tail _ (.tail _ (.head _))))).cell2)
    (have f2 := (K.out.sp (.tail _ (.tail _ (.head _)))).warm; have c20 := (K.out.sp (.tail _ (.tail _ (.head _)))).cell0; have c21 := (K.out.sp (.tail _ (.tail _ (.head _)))).cell1; have c22 := (K.out.sp (.tail _ (.tail _ (.head _)))).cell2)
    (have f3 := (K.out.sp (.tail _ (.head _))).warm; have c30 := (K.out.sp (.tail _ (.head _))).cell0; have c31 := (K.out.sp (.tail _ (.head _))).cell1; have c32 := (K.out.sp (.tail _ (.head _))).cell2)
    (have f4 := (K.out.sp (.head _)).warm; have c40 := (K.out.sp (.head _)).cell0; have c41 := (K.out.sp (.head _)).cell1; have c42 := (K.out.sp (.head _)).cell2)
    go_wp2_with fail
    (refine ((J3.out _)).mono ?_; rintro e w2 ⟨rfl, hb⟩; replace K := Lib.hid (Keep.stays _ _ K.out hb); clear hb)
    (((try clear f1); (try clear c10 c11 c12)); ((try clear f2); (try clear c20 c21 c22)); ((try clear f3); (try clear c30 c31 c32)); ((try clear f4); (try clear c40 c41 c42)))
    go_wp2_with fail
    (refine region_quiet _ (by kernel_rfl) (by kernel_rfl) K.out.drew ?_; haveI ne := Keep.ne K)
    (have c10 := Keep.at0 K (.tail _ (.tail _ (.tail _ (.head _)))); have c11 := Keep.at1 K (.tail _ (.tail _ (.tail _ (.head _)))); have c12 := Keep.at2 K (.tail _ (.tail _ (.tail _ (.head _)))))
    repeat (go_big_quiet_step (first | (go_at_call 42; with_reducible exact At.call Keep.stays (of_any _ _ _)) | (go_at_call 41; with_reducible exact At.call Keep.stays (in_any x (of (mid x - rad x) (mid x + rad x)) _))))
    (refine wpQuiet_nil ?_; clear ne K; intro W K; replace K := Lib.hid K)
    go_wp2_with fail
    (refine region_quiet _ (by kernel_rfl) (by kernel_rfl) K.out.drew ?_; haveI ne := Keep.ne K)
    repeat (go_big_quiet_step (first | (go_at_call 42; with_reducible exact At.call Keep.stays (of_any _ _ _)) | (go_at_call 50; with_reducible exact At.call Keep.stays (div_any (of 0 0) (of 0 0) _)) | (go_at_call 41; with_reducible exact At.call Keep.stays (J4.out _))))
    (refine wpQuiet_nil ?_; clear ne K; intro W K; replace K := Lib.hid K)
    rcases S2.out with hr | hw
    · cases hw : inn x (of (mid x - rad x) (mid x + rad x)) <;> (go_wp2_with fail; go_ret; exact ⟨rfl, K.out.B⟩)
    · go_wp2_with fail
      go_ret
      exact ⟨rfl, K.out.B⟩
end Go.Proofs.Ytehjfjdopeadfaa
