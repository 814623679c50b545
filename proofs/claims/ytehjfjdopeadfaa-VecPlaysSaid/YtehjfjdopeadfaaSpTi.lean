/- The walk of the statement SpanTight. -/
import Derived.Test.YtehjfjdopeadfaaSpAw
import Derived.Test.YtehjfjdopeadfaaSpP2
set_option linter.unusedVariables false
set_option linter.unusedSimpArgs false
namespace Go.Proofs.Ytehjfjdopeadfaa
open Go.RowKit SpMath

theorem min4_all (ats : Array TypeId) (ty : TypeId) (k : IntKind) (a b c d : Int) : Builtin.min_ ats ty #[.int k a, .int k b, .int k c, .int k d] = pure (.int k (lo4 a b c d)) := by
  have h2 : ∀ x y : Int, Builtin.min2 (.int k x) (.int k y) = pure (.int k (min x y)) := by
    intro x y
    simp only [Builtin.min2]
    by_cases h : y < x
    · rw [if_pos h, show min x y = y by omega]
    · rw [if_neg h, show min x y = x by omega]
  simp only [Builtin.min_, List.foldlM_cons, List.foldlM_nil, h2, pure_bind, lo4]
theorem max4_all (ats : Array TypeId) (ty : TypeId) (k : IntKind) (a b c d : Int) : Builtin.max_ ats ty #[.int k a, .int k b, .int k c, .int k d] = pure (.int k (hi4 a b c d)) := by
  have h2 : ∀ x y : Int, Builtin.max2 (.int k x) (.int k y) = pure (.int k (max x y)) := by
    intro x y
    simp only [Builtin.max2]
    by_cases h : x < y
    · rw [if_pos h, show max x y = y by omega]
    · rw [if_neg h, show max x y = x by omega]
  simp only [Builtin.max_, List.foldlM_cons, List.foldlM_nil, h2, pure_bind, hi4]
attribute [go_sem] min4_all max4_all

theorem mul_not {x y : Sp} (h : ¬ (Fin x ∧ Fin y)) : mul x y = ⟨0, 0, true⟩ := if_neg h
theorem mul_yes {x y : Sp} (h : Fin x) (k : Fin y) : mul x y = mulF x y := if_pos ⟨h, k⟩
theorem add_yes {x y : Sp} (h : Fin x) (k : Fin y) : add x y = addF x y := if_pos ⟨h, k⟩

set_option maxHeartbeats 4000000 in
set_option maxRecDepth 100000 in
theorem SpanTight_walk (xl xh : Int) (xa : Bool) (yl yh : Int) (ya : Bool) (v0 : (Lit.int .i64 xl).wf = true) (v1 : (Lit.int .i64 xh).wf = true) (v2 : (Lit.int .i64 yl).wf = true) (v3 : (Lit.int .i64 yh).wf = true) {w : World} :
    Calls Try.prog 9 #[.agg #[.int .i64 xl, .int .i64 xh, .bool xa], .agg #[.int .i64 yl, .int .i64 yh, .bool ya]] w fun e w' => e = .returned (.bool true) ∧ Below w.heap.size w w' := by
  clear v0 v1 v2 v3
  have K := Lib.hid (Keep.begin2 w (Obj.box ⟨xl, xh, xa⟩) (Obj.box ⟨yl, yh, ya⟩))
  by_cases hf : Fin ⟨xl, xh, xa⟩ ∧ Fin ⟨yl, yh, ya⟩
  · obtain ⟨fx, fy⟩ := hf
    have HF := Lib.hid (And.intro fx fy)
    obtain ⟨a0, a1, a2, a3⟩ := fx
    obtain ⟨b0, b1, b2, b3⟩ := fy
    simp only at a0 a1 a2 a3 b0 b1 b2 b3
    subst a0; subst b0
    have HM : Hid (mul ⟨xl, xh, false⟩ ⟨yl, yh, false⟩ = made (lo4 (xl * yl) (xl * yh) (xh * yl) (xh * yh) / 1048576) (-(-(hi4 (xl * yl) (xl * yh) (xh * yl) (xh * yh)) / 1048576))) := by show _ = _; rw [mul_yes HF.out.1 HF.out.2]; rfl
    have HS : Hid (add ⟨xl, xh, false⟩ ⟨yl, yh, false⟩ = made (xl + yl) (xh + yh)) := by show _ = _; rw [add_yes HF.out.1 HF.out.2]; rfl
    obtain ⟨m1, m2⟩ := mul_bound (a := xl) (b := yl) (by omega) (by omega) (by omega) (by omega)
    obtain ⟨m3, m4⟩ := mul_bound (a := xl) (b := yh) (by omega) (by omega) (by omega) (by omega)
    obtain ⟨m5, m6⟩ := mul_bound (a := xh) (b := yl) (by omega) (by omega) (by omega) (by omega)
    obtain ⟨m7, m8⟩ := mul_bound (a := xh) (b := yh) (by omega) (by omega) (by omega) (by omega)
    have n1 : -4611686014132420609 ≤ lo4 (xl * yl) (xl * yh) (xh * yl) (xh * yh) ∧ lo4 (xl * yl) (xl * yh) (xh * yl) (xh * yh) ≤ 4611686014132420609 := by unfold lo4; omega
    have n2 : -4611686014132420609 ≤ hi4 (xl * yl) (xl * yh) (xh * yl) (xh * yh) ∧ hi4 (xl * yl) (xl * yh) (xh * yl) (xh * yh) ≤ 4611686014132420609 := by unfold hi4; omega
    obtain ⟨n1, n1'⟩ := n1
    obtain ⟨n2, n2'⟩ := n2
    have t1 : lo4 (xl * yl) (xl * yh) (xh * yl) (xh * yh) - lo4 (xl * yl) (xl * yh) (xh * yl) (xh * yh) / 1048576 * 1048576 < 1048576 := by omega
    have t2 : -(-(hi4 (xl * yl) (xl * yh) (xh * yl) (xh * yh)) / 1048576) * 1048576 - hi4 (xl * yl) (xl * yh) (xh * yl) (xh * yh) < 1048576 := by omega
    clear HF
    rcases made_cases (lo4 (xl * yl) (xl * yh) (xh * yl) (xh * yh) / 1048576) (-(-(hi4 (xl * yl) (xl * yh) (xh * yl) (xh * yh)) / 1048576)) with ⟨em, -⟩ | em
    · have EM := Lib.hid em
      clear em
      rcases made_cases (xl + yl) (xh + yh) with ⟨es, s1, s2, s3⟩ | es
      · have ES := Lib.hid es
        clear es
        go_enter Try.func9, Try.ntmps9
        (go_wp2_with fail; (refine (((awake_any _))).mono ?_; rintro e w2 ⟨rfl, hb⟩; replace K := Lib.hid (Keep.stays _ _ K.out hb); clear hb))
        (have f1 := (K.out.sp (.tail _ (.head _))).warm; have c10 := (K.out.sp (.tail _ (.head _))).cell0; have c11 := (K.out.sp (.tail _ (.head _))).cell1; have c12 := (K.out.sp (.tail _ (.head _))).cell2)
        (have f2 := (K.out.sp (.head _)).warm; have c20 := (K.out.sp (.head _)).cell0; have c21 := (K.out.sp (.head _)).cell1; have c22 := (K.out.sp (.head _)).cell2)
        (go_wp2_with fail; (refine (((mul_any ⟨xl, xh, false⟩ ⟨yl, yh, false⟩ _))).mono ?_; rintro e w2 ⟨rfl, hb⟩; replace K := Lib.hid (Keep.stays _ _ K.out hb); clear hb))
        rw [HM.out, EM.out]
        ((try clear f1); (try clear c10 c11 c12))
        ((try clear f2); (try clear c20 c21 c22))
        (go_upto_region 3 with fail; replace K := Lib.hid (K.out.alloc (Obj.box ⟨lo4 (xl * yl) (xl * yh) (xh * yl) (xh * yh) / 1048576, -(-(hi4 (xl * yl) (xl * yh) (xh * yl) (xh * yh)) / 1048576), false⟩)); generalize w2.heap.size = gg at *; refine out_keep K.out ?_; clear K; intro W K; replace K := Lib.hid K; clear w2)
        (have f1 := (K.out.sp (.tail _ (.tail _ (.head _)))).warm; have c10 := (K.out.sp (.tail _ (.tail _ (.head _)))).cell0; have c11 := (K.out.sp (.tail _ (.tail _ (.head _)))).cell1; have c12 := (K.out.sp (.tail _ (.tail _ (.head _)))).cell2)
        (have f2 := (K.out.sp (.tail _ (.head _))).warm; have c20 := (K.out.sp (.tail _ (.head _))).cell0; have c21 := (K.out.sp (.tail _ (.head _))).cell1; have c22 := (K.out.sp (.tail _ (.head _))).cell2)
        (go_wp2_with fail; (refine (((add_any ⟨xl, xh, false⟩ ⟨yl, yh, false⟩ _))).mono ?_; rintro e w2 ⟨rfl, hb⟩; replace K := Lib.hid (Keep.stays _ _ K.out hb); clear hb))
        rw [HS.out, ES.out]
        ((try clear f1); (try clear c10 c11 c12))
        ((try clear f2); (try clear c20 c21 c22))
        (go_upto_region 4 with fail; replace K := Lib.hid (K.out.alloc (Obj.box ⟨xl + yl, xh + yh, false⟩)); generalize w2.heap.size = gg at *; refine out_keep K.out ?_; clear K; intro W K; replace K := Lib.hid K; clear w2)
        (have f1 := (K.out.sp (.tail _ (.tail _ (.tail _ (.head _))))).warm; have c10 := (K.out.sp (.tail _ (.tail _ (.tail _ (.head _))))).cell0; have c11 := (K.out.sp (.tail _ (.tail _ (.tail _ (.head _))))).cell1; have c12 := (K.out.sp (.tail _ (.tail _ (.tail _ (.head _))))).cell2)
        (have f2 := (K.out.sp (.tail _ (.tail _ (.head _)))).warm; have c20 := (K.out.sp (.tail _ (.tail _ (.head _)))).cell0; have c21 := (K.out.sp (.tail _ (.tail _ (.head _)))).cell1; have c22 := (K.out.sp (.tail _ (.tail _ (.head _)))).cell2)
        (have f3 := (K.out.sp (.tail _ (.head _))).warm; have c30 := (K.out.sp (.tail _ (.head _))).cell0; have c31 := (K.out.sp (.tail _ (.head _))).cell1; have c32 := (K.out.sp (.tail _ (.head _))).cell2)
        (have f4 := (K.out.sp (.head _)).warm; have c40 := (K.out.sp (.head _)).cell0; have c41 := (K.out.sp (.head _)).cell1; have c42 := (K.out.sp (.head _)).cell2)
        go_wp2_with fail
        go_ret
        exact ⟨ret_bool (by first | rfl | (simp; done) | (simp; omega)), K.out.B⟩
      · have ES := Lib.hid es
        clear es
        go_enter Try.func9, Try.ntmps9
        (go_wp2_with fail; (refine (((awake_any _))).mono ?_; rintro e w2 ⟨rfl, hb⟩; replace K := Lib.hid (Keep.stays _ _ K.out hb); clear hb))
        (have f1 := (K.out.sp (.tail _ (.head _))).warm; have c10 := (K.out.sp (.tail _ (.head _))).cell0; have c11 := (K.out.sp (.tail _ (.head _))).cell1; have c12 := (K.out.sp (.tail _ (.head _))).cell2)
        (have f2 := (K.out.sp (.head _)).warm; have c20 := (K.out.sp (.head _)).cell0; have c21 := (K.out.sp (.head _)).cell1; have c22 := (K.out.sp (.head _)).cell2)
        (go_wp2_with fail; (refine (((mul_any ⟨xl, xh, false⟩ ⟨yl, yh, false⟩ _))).mono ?_; rintro e w2 ⟨rfl, hb⟩; replace K := Lib.hid (Keep.stays _ _ K.out hb); clear hb))
        rw [HM.out, EM.out]
        ((try clear f1); (try clear c10 c11 c12))
        ((try clear f2); (try clear c20 c21 c22))
        (go_upto_region 3 with fail; replace K := Lib.hid (K.out.alloc (Obj.box ⟨lo4 (xl * yl) (xl * yh) (xh * yl) (xh * yh) / 1048576, -(-(hi4 (xl * yl) (xl * yh) (xh * yl) (xh * yh)) / 1048576), false⟩)); generalize w2.heap.size = gg at *; refine out_keep K.out ?_; clear K; intro W K; replace K := Lib.hid K; clear w2)
        (have f1 := (K.out.sp (.tail _ (.tail _ (.head _)))).warm; have c10 := (K.out.sp (.tail _ (.tail _ (.head _)))).cell0; have c11 := (K.out.sp (.tail _ (.tail _ (.head _)))).cell1; have c12 := (K.out.sp (.tail _ (.tail _ (.head _)))).cell2)
        (have f2 := (K.out.sp (.tail _ (.head _))).warm; have c20 := (K.out.sp (.tail _ (.head _))).cell0; have c21 := (K.out.sp (.tail _ (.head _))).cell1; have c22 := (K.out.sp (.tail _ (.head _))).cell2)
        (go_wp2_with fail; (refine (((add_any ⟨xl, xh, false⟩ ⟨yl, yh, false⟩ _))).mono ?_; rintro e w2 ⟨rfl, hb⟩; replace K := Lib.hid (Keep.stays _ _ K.out hb); clear hb))
        rw [HS.out, ES.out]
        ((try clear f1); (try clear c10 c11 c12))
        ((try clear f2); (try clear c20 c21 c22))
        (go_upto_region 4 with fail; replace K := Lib.hid (K.out.alloc (Obj.box ⟨0, 0, true⟩)); generalize w2.heap.size = gg at *; refine out_keep K.out ?_; clear K; intro W K; replace K := Lib.hid K; clear w2)
        (have f1 := (K.out.sp (.tail _ (.tail _ (.tail _ (.head _))))).warm; have c10 := (K.out.sp (.tail _ (.tail _ (.tail _ (.head _))))).cell0; have c11 := (K.out.sp (.tail _ (.tail _ (.tail _ (.head _))))).cell1; have c12 := (K.out.sp (.tail _ (.tail _ (.tail _ (.head _))))).cell2)
        (have f2 := (K.out.sp (.tail _ (.tail _ (.head _)))).warm; have c20 := (K.out.sp (.tail _ (.tail _ (.head _)))).cell0; have c21 := (K.out.sp (.tail _ (.tail _ (.head _)))).cell1; have c22 := (K.out.sp (.tail _ (.tail _ (.head _)))).cell2)
        (have f3 := (K.out.sp (.tail _ (.head _))).warm; have c30 := (K.out.sp (.tail _ (.head _))).cell0; have c31 := (K.out.sp (.tail _ (.head _))).cell1; have c32 := (K.out.sp (.tail _ (.head _))).cell2)
        (have f4 := (K.out.sp (.head _)).warm; have c40 := (K.out.sp (.head _)).cell0; have c41 := (K.out.sp (.head _)).cell1; have c42 := (K.out.sp (.head _)).cell2)
        go_wp2_with fail
        go_ret
        exact ⟨rfl, K.out.B⟩
    · have EM := Lib.hid em
      clear em
      go_enter Try.func9, Try.ntmps9
      (go_wp2_with fail; (refine (((awake_any _))).mono ?_; rintro e w2 ⟨rfl, hb⟩; replace K := Lib.hid (Keep.stays _ _ K.out hb); clear hb))
      (have f1 := (K.out.sp (.tail _ (.head _))).warm; have c10 := (K.out.sp (.tail _ (.head _))).cell0; have c11 := (K.out.sp (.tail _ (.head _))).cell1; have c12 := (K.out.sp (.tail _ (.head _))).cell2)
      (have f2 := (K.out.sp (.head _)).warm; have c20 := (K.out.sp (.head _)).cell0; have c21 := (K.out.sp (.head _)).cell1; have c22 := (K.out.sp (.head _)).cell2)
      (go_wp2_with fail; (refine (((mul_any ⟨xl, xh, false⟩ ⟨yl, yh, false⟩ _))).mono ?_; rintro e w2 ⟨rfl, hb⟩; replace K := Lib.hid (Keep.stays _ _ K.out hb); clear hb))
      rw [HM.out, EM.out]
      ((try clear f1); (try clear c10 c11 c12))
      ((try clear f2); (try clear c20 c21 c22))
      (go_upto_region 3 with fail; replace K := Lib.hid (K.out.alloc (Obj.box ⟨0, 0, true⟩)); generalize w2.heap.size = gg at *; refine out_keep K.out ?_; clear K; intro W K; replace K := Lib.hid K; clear w2)
      (have f1 := (K.out.sp (.tail _ (.tail _ (.head _)))).warm; have c10 := (K.out.sp (.tail _ (.tail _ (.head _)))).cell0; have c11 := (K.out.sp (.tail _ (.tail _ (.head _)))).cell1; have c12 := (K.out.sp (.tail _ (.tail _ (.head _)))).cell2)
      (have f2 := (K.out.sp (.tail _ (.head _))).warm; have c20 := (K.out.sp (.tail _ (.head _))).cell0; have c21 := (K.out.sp (.tail _ (.head _))).cell1; have c22 := (K.out.sp (.tail _ (.head _))).cell2)
      (go_wp2_with fail; (refine (((add_any ⟨xl, xh, false⟩ ⟨yl, yh, false⟩ _))).mono ?_; rintro e w2 ⟨rfl, hb⟩; replace K := Lib.hid (Keep.stays _ _ K.out hb); clear hb))
      ((try clear f1); (try clear c10 c11 c12))
      ((try clear f2); (try clear c20 c21 c22))
      (go_upto_region 4 with fail; replace K := Lib.hid (K.out.alloc (Obj.box (add ⟨xl, xh, false⟩ ⟨yl, yh, false⟩))); generalize w2.heap.size = gg at *; refine out_keep K.out ?_; clear K; intro W K; replace K := Lib.hid K; clear w2)
      (have f1 := (K.out.sp (.tail _ (.tail _ (.tail _ (.head _))))).warm; have c10 := (K.out.sp (.tail _ (.tail _ (.tail _ (.head _))))).cell0; have c11 := (K.out.sp (.tail _ (.tail _ (.tail _ (.head _))))).cell1; have c12 := (K.out.sp (.tail _ (.tail _ (.tail _ (.head _))))).cell2)
      (have f2 := (K.out.sp (.tail _ (.tail _ (.head _)))).warm; have c20 := (K.out.sp (.tail _ (.tail _ (.head _)))).cell0; have c21 := (K.out.sp (.tail _ (.tail _ (.head _)))).cell1; have c22 := (K.out.sp (.tail _ (.tail _ (.head _)))).cell2)
      (have f3 := (K.out.sp (.tail _ (.head _))).warm; have c30 := (K.out.sp (.tail _ (.head _))).cell0; have c31 := (K.out.sp (.tail _ (.head _))).cell1; have c32 := (K.out.sp (.tail _ (.head _))).cell2)
      (have f4 := (K.out.sp (.head _)).warm; have c40 := (K.out.sp (.head _)).cell0; have c41 := (K.out.sp (.head _)).cell1; have c42 := (K.out.sp (.head _)).cell2)
      go_wp2_with fail
      go_ret
      exact ⟨rfl, K.out.B⟩
  · have HM := Lib.hid (mul_not hf)
    clear hf
    go_enter Try.func9, Try.ntmps9
    (go_wp2_with fail; (refine (((awake_any _))).mono ?_; rintro e w2 ⟨rfl, hb⟩; replace K := Lib.hid (Keep.stays _ _ K.out hb); clear hb))
    (have f1 := (K.out.sp (.tail _ (.head _))).warm; have c10 := (K.out.sp (.tail _ (.head _))).cell0; have c11 := (K.out.sp (.tail _ (.head _))).cell1; have c12 := (K.out.sp (.tail _ (.head _))).cell2)
    (have f2 := (K.out.sp (.head _)).warm; have c20 := (K.out.sp (.head _)).cell0; have c21 := (K.out.sp (.head _)).cell1; have c22 := (K.out.sp (.head _)).cell2)
    (go_wp2_with fail; (refine (((mul_any ⟨xl, xh, xa⟩ ⟨yl, yh, ya⟩ _))).mono ?_; rintro e w2 ⟨rfl, hb⟩; replace K := Lib.hid (Keep.stays _ _ K.out hb); clear hb))
    rw [HM.out]
    ((try clear f1); (try clear c10 c11 c12))
    ((try clear f2); (try clear c20 c21 c22))
    (go_upto_region 3 with fail; replace K := Lib.hid (K.out.alloc (Obj.box ⟨0, 0, true⟩)); generalize w2.heap.size = gg at *; refine out_keep K.out ?_; clear K; intro W K; replace K := Lib.hid K; clear w2)
    (have f1 := (K.out.sp (.tail _ (.tail _ (.head _)))).warm; have c10 := (K.out.sp (.tail _ (.tail _ (.head _)))).cell0; have c11 := (K.out.sp (.tail _ (.tail _ (.head _)))).cell1; have c12 := (K.out.sp (.tail _ (.tail _ (.head _)))).cell2)
    (have f2 := (K.out.sp (.tail _ (.head _))).warm; have c20 := (K.out.sp (.tail _ (.head _))).cell0; have c21 := (K.out.sp (.tail _ (.head _))).cell1; have c22 := (K.out.sp (.tail _ (.head _))).cell2)
    (go_wp2_with fail; (refine (((add_any ⟨xl, xh, xa⟩ ⟨yl, yh, ya⟩ _))).mono ?_; rintro e w2 ⟨rfl, hb⟩; replace K := Lib.hid (Keep.stays _ _ K.out hb); clear hb))
    ((try clear f1); (try clear c10 c11 c12))
    ((try clear f2); (try clear c20 c21 c22))
    (go_upto_region 4 with fail; replace K := Lib.hid (K.out.alloc (Obj.box (add ⟨xl, xh, xa⟩ ⟨yl, yh, ya⟩))); generalize w2.heap.size = gg at *; refine out_keep K.out ?_; clear K; intro W K; replace K := Lib.hid K; clear w2)
    (have f1 := (K.out.sp (.tail _ (.tail _ (.tail _ (.head _))))).warm; have c10 := (K.out.sp (.tail _ (.tail _ (.tail _ (.head _))))).cell0; have c11 := (K.out.sp (.tail _ (.tail _ (.tail _ (.head _))))).cell1; have c12 := (K.out.sp (.tail _ (.tail _ (.tail _ (.head _))))).cell2)
    (have f2 := (K.out.sp (.tail _ (.tail _ (.head _)))).warm; have c20 := (K.out.sp (.tail _ (.tail _ (.head _)))).cell0; have c21 := (K.out.sp (.tail _ (.tail _ (.head _)))).cell1; have c22 := (K.out.sp (.tail _ (.tail _ (.head _)))).cell2)
    (have f3 := (K.out.sp (.tail _ (.head _))).warm; have c30 := (K.out.sp (.tail _ (.head _))).cell0; have c31 := (K.out.sp (.tail _ (.head _))).cell1; have c32 := (K.out.sp (.tail _ (.head _))).cell2)
    (have f4 := (K.out.sp (.head _)).warm; have c40 := (K.out.sp (.head _)).cell0; have c41 := (K.out.sp (.head _)).cell1; have c42 := (K.out.sp (.head _)).cell2)
    cases xa <;> cases ya <;> (go_wp2_with fail; go_ret; exact ⟨rfl, K.out.B⟩)
end Go.Proofs.Ytehjfjdopeadfaa
