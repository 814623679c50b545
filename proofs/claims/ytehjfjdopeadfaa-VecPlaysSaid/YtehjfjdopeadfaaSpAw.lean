/- The walks of Span.Sqrt, of the law's own helpers, and of the chapter's examples. -/
import Derived.Test.YtehjfjdopeadfaaSpRt
import Derived.Test.YtehjfjdopeadfaaSpRad
set_option linter.unusedVariables false
set_option linter.unusedSimpArgs false
namespace Go.Proofs.Ytehjfjdopeadfaa
open Go.RowKit SpMath

theorem rt_bounds {n : Int} (h0 : 0 ≤ n) (h1 : n ≤ 2147483647) : 0 ≤ rt (n * 1048576) ∧ rt (n * 1048576) ≤ 134217727 ∧ 0 ≤ rt (n * 1048576) * rt (n * 1048576) ∧ rt (n * 1048576) * rt (n * 1048576) ≤ 18014398509481984 := by
  obtain ⟨a, b, c, d⟩ := rt_spec (A := n * 1048576) (by omega) (by omega)
  exact ⟨a, by omega, Int.mul_nonneg a a, by omega⟩

set_option maxHeartbeats 1000000 in
set_option maxRecDepth 100000 in
theorem sqrt_any (x : Sp) (w : World) : Calls Try.prog 56 #[x.v] w fun e w' => e = .returned (sqrt x).v ∧ Below w.heap.size w w' := by
  have K := Lib.hid (Keep.begin2 w (Obj.box x) (Obj.box ⟨0, 0, false⟩))
  go_enter Try.func56, Try.ntmps56
  go_wp2_with fail
  (refine ((right_any x _)).mono ?_; rintro e w2 ⟨rfl, hb⟩; replace K := Lib.hid (Keep.stays _ _ K.out hb); clear hb)
  (have f1 := (K.out.sp (.tail _ (.head _))).warm; have c10 := (K.out.sp (.tail _ (.head _))).cell0; have c11 := (K.out.sp (.tail _ (.head _))).cell1; have c12 := (K.out.sp (.tail _ (.head _))).cell2)
  go_upto_region 2 with fail
  replace K := Lib.hid (K.out.put_1 (right x))
  ((try clear f1); (try clear c10 c11 c12))
  (refine out_keep K.out ?_; clear K; intro W K; replace K := Lib.hid K)
  rcases right_two x with ⟨lo, hi, hr, h1, h2, h3, -, -⟩ | ⟨hr, -⟩
  · have HR := Lib.hid hr
    rw [hr] at K
    clear hr
    (have f1 := (K.out.sp (.tail _ (.head _))).warm; have c10 := (K.out.sp (.tail _ (.head _))).cell0; have c11 := (K.out.sp (.tail _ (.head _))).cell1; have c12 := (K.out.sp (.tail _ (.head _))).cell2)
    (have f2 := (K.out.sp (.head _)).warm; have c20 := (K.out.sp (.head _)).cell0; have c21 := (K.out.sp (.head _)).cell1; have c22 := (K.out.sp (.head _)).cell2)
    by_cases hn : hi < 0
    · have HM : Hid (sqrt x = whole) := by show _ = _; unfold sqrt; rw [HR.out, if_pos (.inr hn)]
      (go_wp2_with fail; (refine (((whole_any _))).mono ?_; rintro e w2 ⟨rfl, hb⟩; replace K := Lib.hid (Keep.stays _ _ K.out hb); clear hb))
      have hw := whole_v
      ((try clear f2); (try clear c20 c21 c22))
      (have f2 := (K.out.sp (.head _)).warm; have c20 := (K.out.sp (.head _)).cell0; have c21 := (K.out.sp (.head _)).cell1; have c22 := (K.out.sp (.head _)).cell2)
      go_wp2_with fail
      exact ret_sp Try.results56 rfl ((K.out.put_0 ⟨0, 0, true⟩).sp (.head _)) ⟨by rw [HM.out]; rfl, (K.out.put_0 ⟨0, 0, true⟩).B⟩
    · have HM : Hid (sqrt x = made (rt (max lo 0 * 1048576)) (if rt (hi * 1048576) * rt (hi * 1048576) < hi * 1048576 then rt (hi * 1048576) + 1 else rt (hi * 1048576))) := by
        show _ = _
        unfold sqrt
        rw [HR.out, if_neg (by rintro (h | h); · cases h
                               · exact hn h)]
      have HF1 := Lib.hid (fun w => fxsqrt_any (max lo 0) (by omega) (by omega) w)
      have HF2 := Lib.hid (fun w => fxsqrt_any hi (by omega) (by omega) w)
      obtain ⟨b1, b2, b3, b4⟩ := rt_bounds (n := hi) (by omega) (by omega)
      obtain ⟨b5, b6, -, -⟩ := rt_bounds (n := max lo 0) (by omega) (by omega)
      generalize rt (hi * 1048576) = rh at *
      generalize rt (max lo 0 * 1048576) = rl at *
      go_wp2_with fail
      refine (HF1.out _).mono ?_; rintro e w2 ⟨rfl, rfl⟩
      clear HF1
      go_wp2_with fail
      refine (HF2.out _).mono ?_; rintro e w2 ⟨rfl, rfl⟩
      clear HF2
      by_cases hs : rh * rh < hi * 1048576
      · rw [if_pos hs] at HM
        (go_wp2_with fail; (refine (((made_any rl (rh + 1) _))).mono ?_; rintro e w2 ⟨rfl, hb⟩; replace K := Lib.hid (Keep.stays _ _ K.out hb); clear hb))
        ((try clear f2); (try clear c20 c21 c22))
        (have f2 := (K.out.sp (.head _)).warm; have c20 := (K.out.sp (.head _)).cell0; have c21 := (K.out.sp (.head _)).cell1; have c22 := (K.out.sp (.head _)).cell2)
        go_wp2_with fail
        exact ret_sp Try.results56 rfl ((K.out.put_0 (made rl (rh + 1))).sp (.head _)) ⟨by rw [HM.out], (K.out.put_0 _).B⟩
      · rw [if_neg hs] at HM
        (go_wp2_with fail; (refine (((made_any rl rh _))).mono ?_; rintro e w2 ⟨rfl, hb⟩; replace K := Lib.hid (Keep.stays _ _ K.out hb); clear hb))
        ((try clear f2); (try clear c20 c21 c22))
        (have f2 := (K.out.sp (.head _)).warm; have c20 := (K.out.sp (.head _)).cell0; have c21 := (K.out.sp (.head _)).cell1; have c22 := (K.out.sp (.head _)).cell2)
        go_wp2_with fail
        exact ret_sp Try.results56 rfl ((K.out.put_0 (made rl rh)).sp (.head _)) ⟨by rw [HM.out], (K.out.put_0 _).B⟩
  · have HM : Hid (sqrt x = whole) := by show _ = _; unfold sqrt; rw [hr, if_pos (.inl rfl)]
    rw [hr] at K
    clear hr
    (have f1 := (K.out.sp (.tail _ (.head _))).warm; have c10 := (K.out.sp (.tail _ (.head _))).cell0; have c11 := (K.out.sp (.tail _ (.head _))).cell1; have c12 := (K.out.sp (.tail _ (.head _))).cell2)
    (have f2 := (K.out.sp (.head _)).warm; have c20 := (K.out.sp (.head _)).cell0; have c21 := (K.out.sp (.head _)).cell1; have c22 := (K.out.sp (.head _)).cell2)
    (go_wp2_with fail; (refine (((whole_any _))).mono ?_; rintro e w2 ⟨rfl, hb⟩; replace K := Lib.hid (Keep.stays _ _ K.out hb); clear hb))
    have hw := whole_v
    ((try clear f2); (try clear c20 c21 c22))
    (have f2 := (K.out.sp (.head _)).warm; have c20 := (K.out.sp (.head _)).cell0; have c21 := (K.out.sp (.head _)).cell1; have c22 := (K.out.sp (.head _)).cell2)
    go_wp2_with fail
    exact ret_sp Try.results56 rfl ((K.out.put_0 ⟨0, 0, true⟩).sp (.head _)) ⟨by rw [HM.out]; rfl, (K.out.put_0 ⟨0, 0, true⟩).B⟩

def withinB (x : Sp) (n b : Int) : Bool := x.all || (decide (x.lo * b ≤ n) && decide (n ≤ x.hi * b))

set_option maxRecDepth 100000 in
theorem within_any (x : Sp) (n b : Int) (w : World) (hx : x.all = true ∨ Fin x) (b0 : 0 ≤ b) (b1 : b ≤ 1048576) : Calls Try.prog 60 #[x.v, .int .i64 n, .int .i64 b] w fun e w' => e = .returned (.bool (withinB x n b)) ∧ Below w.heap.size w w' := by
  obtain ⟨lo, hi, all⟩ := x
  have HB := Lib.hid (Keep.begin1 w (Obj.box ⟨lo, hi, all⟩)).B
  cases all with
  | true =>
    clear hx
    go_enter Try.func60, Try.ntmps60
    go_wp2_with fail
    go_ret
    exact ⟨ret_bool (by simp [withinB]), HB.out⟩
  | false =>
    obtain ⟨-, h1, h2, h3⟩ : Fin ⟨lo, hi, false⟩ := hx.resolve_left (by simp)
    simp only at h1 h2 h3
    clear hx
    have m1 := mul_bound (a := lo) (b := b) (by omega) (by omega) (by omega) (by omega)
    have m2 := mul_bound (a := hi) (b := b) (by omega) (by omega) (by omega) (by omega)
    obtain ⟨m1, m1'⟩ := m1
    obtain ⟨m2, m2'⟩ := m2
    have HW : Hid (withinB ⟨lo, hi, false⟩ n b = (decide (lo * b ≤ n) && decide (n ≤ hi * b))) := by show _ = _; simp [withinB]
    by_cases d1 : lo * b ≤ n
    · go_enter Try.func60, Try.ntmps60
      go_wp2_with fail
      go_ret
      exact ⟨ret_bool (by rw [HW.out]; first | (simp [d1]; done) | (simp [d1]; omega)), HB.out⟩
    · go_enter Try.func60, Try.ntmps60
      go_wp2_with fail
      go_ret
      exact ⟨ret_bool (by rw [HW.out]; first | (simp [d1]; done) | (simp [d1]; omega)), HB.out⟩

theorem aw1 : mul (of 2 (-1)) (of 1048576 3145728) = ⟨-3, 6, false⟩ := by decide
theorem aw2 : div (of 1048576 1048576) (of 3145728 3145728) = ⟨349525, 349526, false⟩ := by decide
theorem aw3 : sqr (of (-2097152) 1048576) = ⟨0, 4194304, false⟩ := by decide
theorem aw4 : sqrt (of (-1048576) 2097152) = ⟨0, 1482911, false⟩ := by decide
theorem aw5 : div (of 1 2) (of (-1) 1) = ⟨0, 0, true⟩ := by decide
theorem aw6 : add (of 2147483647 2147483647) (of 1 1) = ⟨0, 0, true⟩ := by decide
theorem aw7 : mid (of 1 4) = 2 := by decide
theorem aw8 : rad (of 1 4) = 2 := by decide

set_option maxHeartbeats 1000000 in
set_option maxRecDepth 100000 in
theorem awake_any (w : World) : Calls Try.prog 47 #[] w fun e w' => e = .returned (.bool true) ∧ Below w.heap.size w w' := by
  have K := Lib.hid (Keep.start w)
  have A1 := Lib.hid aw1
  have A2 := Lib.hid aw2
  have A3 := Lib.hid aw3
  have A4 := Lib.hid aw4
  have A5 := Lib.hid aw5
  have A6 := Lib.hid aw6
  have A7 := Lib.hid aw7
  have A8 := Lib.hid aw8
  go_enter Try.func47, Try.ntmps47
  (go_wp2_with fail; (refine (((of_any 2 (-1) _))).mono ?_; rintro e w2 ⟨rfl, hb⟩; replace K := Lib.hid (Keep.stays _ _ K.out hb); clear hb))
  (go_wp2_with fail; (refine (((of_any 1048576 3145728 _))).mono ?_; rintro e w2 ⟨rfl, hb⟩; replace K := Lib.hid (Keep.stays _ _ K.out hb); clear hb))
  (go_wp2_with fail; (refine (((mul_any (of 2 (-1)) (of 1048576 3145728) _))).mono ?_; rintro e w2 ⟨rfl, hb⟩; replace K := Lib.hid (Keep.stays _ _ K.out hb); clear hb))
  rw [A1.out]
  (go_upto_region 2 with fail; replace K := Lib.hid (K.out.alloc (Obj.box ⟨-3, 6, false⟩)); generalize w2.heap.size = gg at *; refine out_keep K.out ?_; clear K; intro W K; replace K := Lib.hid K; clear w2)
  (go_wp2_with fail; (refine (((of_any 1048576 1048576 _))).mono ?_; rintro e w2 ⟨rfl, hb⟩; replace K := Lib.hid (Keep.stays _ _ K.out hb); clear hb))
  (go_wp2_with fail; (refine (((of_any 3145728 3145728 _))).mono ?_; rintro e w2 ⟨rfl, hb⟩; replace K := Lib.hid (Keep.stays _ _ K.out hb); clear hb))
  (go_wp2_with fail; (refine (((div_any (of 1048576 1048576) (of 3145728 3145728) _))).mono ?_; rintro e w2 ⟨rfl, hb⟩; replace K := Lib.hid (Keep.stays _ _ K.out hb); clear hb))
  rw [A2.out]
  (go_upto_region 3 with fail; replace K := Lib.hid (K.out.alloc (Obj.box ⟨349525, 349526, false⟩)); generalize w2.heap.size = gg at *; refine out_keep K.out ?_; clear K; intro W K; replace K := Lib.hid K; clear w2)
  (go_wp2_with fail; (refine (((of_any (-2097152) 1048576 _))).mono ?_; rintro e w2 ⟨rfl, hb⟩; replace K := Lib.hid (Keep.stays _ _ K.out hb); clear hb))
  (go_wp2_with fail; (refine (((sqr_any (of (-2097152) 1048576) _))).mono ?_; rintro e w2 ⟨rfl, hb⟩; replace K := Lib.hid (Keep.stays _ _ K.out hb); clear hb))
  rw [A3.out]
  (go_upto_region 4 with fail; replace K := Lib.hid (K.out.alloc (Obj.box ⟨0, 4194304, false⟩)); generalize w2.heap.size = gg at *; refine out_keep K.out ?_; clear K; intro W K; replace K := Lib.hid K; clear w2)
  (go_wp2_with fail; (refine (((of_any (-1048576) 2097152 _))).mono ?_; rintro e w2 ⟨rfl, hb⟩; replace K := Lib.hid (Keep.stays _ _ K.out hb); clear hb))
  (go_wp2_with fail; (refine (((sqrt_any (of (-1048576) 2097152) _))).mono ?_; rintro e w2 ⟨rfl, hb⟩; replace K := Lib.hid (Keep.stays _ _ K.out hb); clear hb))
  rw [A4.out]
  (go_upto_region 5 with fail; replace K := Lib.hid (K.out.alloc (Obj.box ⟨0, 1482911, false⟩)); generalize w2.heap.size = gg at *; refine out_keep K.out ?_; clear K; intro W K; replace K := Lib.hid K; clear w2)
  (go_wp2_with fail; (refine (((of_any 1 2 _))).mono ?_; rintro e w2 ⟨rfl, hb⟩; replace K := Lib.hid (Keep.stays _ _ K.out hb); clear hb))
  (go_wp2_with fail; (refine (((of_any (-1) 1 _))).mono ?_; rintro e w2 ⟨rfl, hb⟩; replace K := Lib.hid (Keep.stays _ _ K.out hb); clear hb))
  (go_wp2_with fail; (refine (((div_any (of 1 2) (of (-1) 1) _))).mono ?_; rintro e w2 ⟨rfl, hb⟩; replace K := Lib.hid (Keep.stays _ _ K.out hb); clear hb))
  rw [A5.out]
  (go_upto_region 6 with fail; replace K := Lib.hid (K.out.alloc (Obj.box ⟨0, 0, true⟩)); generalize w2.heap.size = gg at *; refine out_keep K.out ?_; clear K; intro W K; replace K := Lib.hid K; clear w2)
  (go_wp2_with fail; (refine (((of_any 2147483647 2147483647 _))).mono ?_; rintro e w2 ⟨rfl, hb⟩; replace K := Lib.hid (Keep.stays _ _ K.out hb); clear hb))
  (go_wp2_with fail; (refine (((of_any 1 1 _))).mono ?_; rintro e w2 ⟨rfl, hb⟩; replace K := Lib.hid (Keep.stays _ _ K.out hb); clear hb))
  (go_wp2_with fail; (refine (((add_any (of 2147483647 2147483647) (of 1 1) _))).mono ?_; rintro e w2 ⟨rfl, hb⟩; replace K := Lib.hid (Keep.stays _ _ K.out hb); clear hb))
  rw [A6.out]
  (go_upto_region 7 with fail; replace K := Lib.hid (K.out.alloc (Obj.box ⟨0, 0, true⟩)); generalize w2.heap.size = gg at *; refine out_keep K.out ?_; clear K; intro W K; replace K := Lib.hid K; clear w2)
  (go_wp2_with fail; (refine (((of_any 1 4 _))).mono ?_; rintro e w2 ⟨rfl, hb⟩; replace K := Lib.hid (Keep.stays _ _ K.out hb); clear hb))
  (go_wp2_with fail; (refine (((mid_any (of 1 4) _))).mono ?_; rintro e w2 ⟨rfl, hb⟩; replace K := Lib.hid (Keep.stays _ _ K.out hb); clear hb))
  rw [A7.out]
  (go_wp2_with fail; (refine (((of_any 1 4 _))).mono ?_; rintro e w2 ⟨rfl, hb⟩; replace K := Lib.hid (Keep.stays _ _ K.out hb); clear hb))
  (go_wp2_with fail; (refine (((rad_any (of 1 4) _))).mono ?_; rintro e w2 ⟨rfl, hb⟩; replace K := Lib.hid (Keep.stays _ _ K.out hb); clear hb))
  rw [A8.out]
  go_upto_region 10 with fail
  replace K := Lib.hid (K.out.alloc (Obj.box ⟨0, 0, true⟩))
  generalize w2.heap.size = gg at *
  (refine out_keep K.out ?_; clear K; intro W K; replace K := Lib.hid K)
  (have f1 := (K.out.sp (.head _)).warm; have c10 := (K.out.sp (.head _)).cell0; have c11 := (K.out.sp (.head _)).cell1; have c12 := (K.out.sp (.head _)).cell2)
  (have f2 := (K.out.sp (.tail _ (.head _))).warm; have c20 := (K.out.sp (.tail _ (.head _))).cell0; have c21 := (K.out.sp (.tail _ (.head _))).cell1; have c22 := (K.out.sp (.tail _ (.head _))).cell2)
  (have f3 := (K.out.sp (.tail _ (.tail _ (.head _)))).warm; have c30 := (K.out.sp (.tail _ (.tail _ (.head _)))).cell0; have c31 := (K.out.sp (.tail _ (.tail _ (.head _)))).cell1; have c32 := (K.out.sp (.tail _ (.tail _ (.head _)))).cell2)
  (have f4 := (K.out.sp (.tail _ (.tail _ (.tail _ (.head _))))).warm; have c40 := (K.out.sp (.tail _ (.tail _ (.tail _ (.head _))))).cell0; have c41 := (K.out.sp (.tail _ (.tail _ (.tail _ (.head _))))).cell1; have c42 := (K.out.sp (.tail _ (.tail _ (.tail _ (.head _))))).cell2)
  (have f5 := (K.out.sp (.tail _ (.tail _ (.tail _ (.tail _ (.head _)))))).warm; have c50 := (K.out.sp (.tail _ (.tail _ (.tail _ (.tail _ (.head _)))))).cell0; have c51 := (K.out.sp (.tail _ (.tail _ (.tail _ (.tail _ (.head _)))))).cell1; have c52 := (K.out.sp (.tail _ (.tail _ (.tail _ (.tail _ (.head _)))))).cell2)
  (have f6 := (K.out.sp (.tail _ (.tail _ (.tail _ (.tail _ (.tail _ (.head _))))))).warm; have c60 := (K.out.sp (.tail _ (.tail _ (.tail _ (.tail _ (.tail _ (.head _))))))).cell0; have c61 := (K.out.sp (.tail _ (.tail _ (.tail _ (.tail _ (.tail _ (.head _))))))).cell1; have c62 := (K.out.sp (.tail _ (.tail _ (.tail _ (.tail _ (.tail _ (.head _))))))).cell2)
  (have f7 := (K.out.sp (.tail _ (.tail _ (.tail _ (.tail _ (.tail _ (.tail _ (.head _)))))))).warm; have c70 := (K.out.sp (.tail _ (.tail _ (.tail _ (.tail _ (.tail _ (.tail _ (.head _)))))))).cell0; have c71 := (K.out.sp (.tail _ (.tail _ (.tail _ (.tail _ (.tail _ (.tail _ (.head _)))))))).cell1; have c72 := (K.out.sp (.tail _ (.tail _ (.tail _ (.tail _ (.tail _ (.tail _ (.head _)))))))).cell2)
  go_wp2_with fail
  go_ret
  exact ⟨rfl, K.out.B⟩
end Go.Proofs.Ytehjfjdopeadfaa
