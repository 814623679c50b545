/- The walk of the statement SpanNarrow. -/
import Derived.Test.YtehjfjdopeadfaaSpTi
import Derived.Test.YtehjfjdopeadfaaSpN
import Derived.Test.YtehjfjdopeadfaaSpIn
set_option linter.unusedVariables false
set_option linter.unusedSimpArgs false
namespace Go.Proofs.Ytehjfjdopeadfaa
open Go.RowKit SpMath

/-- A contract of In whose answer is known. -/
theorem in_yes {x y : Sp} (h : inn x y = true) (w : World) : Calls Try.prog 41 #[x.v, y.v] w fun e w' => e = .returned (.bool true) ∧ Below w.heap.size w w' := by
  have := in_any x y w
  rwa [h] at this

set_option maxHeartbeats 4000000 in
set_option maxRecDepth 100000 in
theorem SpanNarrow_walk (xl xh : Int) (xa : Bool) (yl yh : Int) (ya : Bool) (ul uh : Int) (ua : Bool) (vl vh : Int) (va : Bool) (h0 : (Lit.int .i64 xl).wf = true) (h1 : (Lit.int .i64 xh).wf = true) (h2 : (Lit.int .i64 yl).wf = true) (h3 : (Lit.int .i64 yh).wf = true)
    (h4 : (Lit.int .i64 ul).wf = true) (h5 : (Lit.int .i64 uh).wf = true) (h6 : (Lit.int .i64 vl).wf = true) (h7 : (Lit.int .i64 vh).wf = true) {w : World} :
    Calls Try.prog 13 #[.agg #[.int .i64 xl, .int .i64 xh, .bool xa], .agg #[.int .i64 yl, .int .i64 yh, .bool ya], .agg #[.int .i64 ul, .int .i64 uh, .bool ua], .agg #[.int .i64 vl, .int .i64 vh, .bool va]] w fun e w' => e = .returned (.bool true) ∧ Below w.heap.size w w' := by
  clear h0 h1 h2 h3 h4 h5 h6 h7
  have K := Lib.hid (Keep.begin4 w (Obj.box ⟨xl, xh, xa⟩) (Obj.box ⟨yl, yh, ya⟩) (Obj.box ⟨ul, uh, ua⟩) (Obj.box ⟨vl, vh, va⟩))
  generalize hx : (⟨xl, xh, xa⟩ : Sp) = x at K
  generalize hy : (⟨yl, yh, ya⟩ : Sp) = y at K
  generalize hu : (⟨ul, uh, ua⟩ : Sp) = u at K
  generalize hv : (⟨vl, vh, va⟩ : Sp) = v at K
  have ex : (Value.agg #[.int .i64 xl, .int .i64 xh, .bool xa]) = x.v := by rw [← hx]
  have ey : (Value.agg #[.int .i64 yl, .int .i64 yh, .bool ya]) = y.v := by rw [← hy]
  have eu : (Value.agg #[.int .i64 ul, .int .i64 uh, .bool ua]) = u.v := by rw [← hu]
  have ev : (Value.agg #[.int .i64 vl, .int .i64 vh, .bool va]) = v.v := by rw [← hv]
  rw [ex, ey, eu, ev]
  clear ex ey eu ev hx hy hu hv
  go_enter Try.func13, Try.ntmps13
  (go_wp2_with fail; (refine (((awake_any _))).mono ?_; rintro e w2 ⟨rfl, hb⟩; replace K := Lib.hid (Keep.stays _ _ K.out hb); clear hb))
  (have f1 := (K.out.sp (.tail _ (.tail _ (.tail _ (.head _))))).warm; have c10 := (K.out.sp (.tail _ (.tail _ (.tail _ (.head _))))).cell0; have c11 := (K.out.sp (.tail _ (.tail _ (.tail _ (.head _))))).cell1; have c12 := (K.out.sp (.tail _ (.tail _ (.tail _ (.head _))))).cell2)
  (have f2 := (K.out.sp (.tail _ (.tail _ (.head _)))).warm; have c20 := (K.out.sp (.tail _ (.tail _ (.head _)))).cell0; have c21 := (K.out.sp (.tail _ (.tail _ (.head _)))).cell1; have c22 := (K.out.sp (.tail _ (.tail _ (.head _)))).cell2)
  (have f3 := (K.out.sp (.tail _ (.head _))).warm; have c30 := (K.out.sp (.tail _ (.head _))).cell0; have c31 := (K.out.sp (.tail _ (.head _))).cell1; have c32 := (K.out.sp (.tail _ (.head _))).cell2)
  (have f4 := (K.out.sp (.head _)).warm; have c40 := (K.out.sp (.head _)).cell0; have c41 := (K.out.sp (.head _)).cell1; have c42 := (K.out.sp (.head _)).cell2)
  (go_wp2_with fail; (refine (((in_any x u _))).mono ?_; rintro e w2 ⟨rfl, hb⟩; replace K := Lib.hid (Keep.stays _ _ K.out hb); clear hb))
  (((try clear f1); (try clear c10 c11 c12)); ((try clear f2); (try clear c20 c21 c22)); ((try clear f3); (try clear c30 c31 c32)); ((try clear f4); (try clear c40 c41 c42)))
  (have f1 := (K.out.sp (.tail _ (.tail _ (.tail _ (.head _))))).warm; have c10 := (K.out.sp (.tail _ (.tail _ (.tail _ (.head _))))).cell0; have c11 := (K.out.sp (.tail _ (.tail _ (.tail _ (.head _))))).cell1; have c12 := (K.out.sp (.tail _ (.tail _ (.tail _ (.head _))))).cell2)
  (have f2 := (K.out.sp (.tail _ (.tail _ (.head _)))).warm; have c20 := (K.out.sp (.tail _ (.tail _ (.head _)))).cell0; have c21 := (K.out.sp (.tail _ (.tail _ (.head _)))).cell1; have c22 := (K.out.sp (.tail _ (.tail _ (.head _)))).cell2)
  (have f3 := (K.out.sp (.tail _ (.head _))).warm; have c30 := (K.out.sp (.tail _ (.head _))).cell0; have c31 := (K.out.sp (.tail _ (.head _))).cell1; have c32 := (K.out.sp (.tail _ (.head _))).cell2)
  (have f4 := (K.out.sp (.head _)).warm; have c40 := (K.out.sp (.head _)).cell0; have c41 := (K.out.sp (.head _)).cell1; have c42 := (K.out.sp (.head _)).cell2)
  (go_wp2_with fail; (refine (((in_any y v _))).mono ?_; rintro e w2 ⟨rfl, hb⟩; replace K := Lib.hid (Keep.stays _ _ K.out hb); clear hb))
  (((try clear f1); (try clear c10 c11 c12)); ((try clear f2); (try clear c20 c21 c22)); ((try clear f3); (try clear c30 c31 c32)); ((try clear f4); (try clear c40 c41 c42)))
  cases hp : inn x u with
  | false =>
    go_wp2_with fail
    go_ret
    exact ⟨rfl, K.out.B⟩
  | true =>
    cases hq : inn y v with
    | false =>
      go_wp2_with fail
      go_ret
      exact ⟨rfl, K.out.B⟩
    | true =>
      have N1 := Lib.hid (fun w => in_yes (narrow_add hp hq) w)
      have N2 := Lib.hid (fun w => in_yes (narrow_sub hp hq) w)
      have N3 := Lib.hid (fun w => in_yes (narrow_mul hp hq) w)
      have N4 := Lib.hid (fun w => in_yes (narrow_div hp hq) w)
      have N5 := Lib.hid (fun w => in_yes (narrow_sqr hp) w)
      have N6 := Lib.hid (fun w => in_yes (narrow_neg hp) w)
      have N7 := Lib.hid (fun w => in_yes (narrow_join hp hq) w)
      go_wp2_with fail
      (refine region_quiet _ (by kernel_rfl) (by kernel_rfl) K.out.drew ?_; haveI ne := Keep.ne K)
      ((have c10 := Keep.at0 K (.tail _ (.tail _ (.tail _ (.head _)))); have c11 := Keep.at1 K (.tail _ (.tail _ (.tail _ (.head _)))); have c12 := Keep.at2 K (.tail _ (.tail _ (.tail _ (.head _))))); (have c20 := Keep.at0 K (.tail _ (.tail _ (.head _))); have c21 := Keep.at1 K (.tail _ (.tail _ (.head _))); have c22 := Keep.at2 K (.tail _ (.tail _ (.head _)))); (have c30 := Keep.at0 K (.tail _ (.head _)); have c31 := Keep.at1 K (.tail _ (.head _)); have c32 := Keep.at2 K (.tail _ (.head _))); (have c40 := Keep.at0 K (.head _); have c41 := Keep.at1 K (.head _); have c42 := Keep.at2 K (.head _)))
      repeat (go_big_quiet_step (first | (go_at_call 46; with_reducible exact At.call Keep.stays (add_any x y _)) | (go_at_call 46; with_reducible exact At.call Keep.stays (add_any u v _)) | (go_at_call 41; with_reducible exact At.call Keep.stays (N1.out _))))
      (refine wpQuiet_nil ?_; clear ne K; intro W K; replace K := Lib.hid K)
      go_wp2_with fail
      (refine region_quiet _ (by kernel_rfl) (by kernel_rfl) K.out.drew ?_; haveI ne := Keep.ne K)
      repeat (go_big_quiet_step (first | (go_at_call 49; with_reducible exact At.call Keep.stays (sub_any x y _)) | (go_at_call 49; with_reducible exact At.call Keep.stays (sub_any u v _)) | (go_at_call 41; with_reducible exact At.call Keep.stays (N2.out _))))
      (refine wpQuiet_nil ?_; clear ne K; intro W K; replace K := Lib.hid K)
      go_wp2_with fail
      (refine region_quiet _ (by kernel_rfl) (by kernel_rfl) K.out.drew ?_; haveI ne := Keep.ne K)
      repeat (go_big_quiet_step (first | (go_at_call 43; with_reducible exact At.call Keep.stays (mul_any x y _)) | (go_at_call 43; with_reducible exact At.call Keep.stays (mul_any u v _)) | (go_at_call 41; with_reducible exact At.call Keep.stays (N3.out _))))
      (refine wpQuiet_nil ?_; clear ne K; intro W K; replace K := Lib.hid K)
      go_wp2_with fail
      (refine region_quiet _ (by kernel_rfl) (by kernel_rfl) K.out.drew ?_; haveI ne := Keep.ne K)
      repeat (go_big_quiet_step (first | (go_at_call 50; with_reducible exact At.call Keep.stays (div_any x y _)) | (go_at_call 50; with_reducible exact At.call Keep.stays (div_any u v _)) | (go_at_call 41; with_reducible exact At.call Keep.stays (N4.out _))))
      (refine wpQuiet_nil ?_; clear ne K; intro W K; replace K := Lib.hid K)
      go_wp2_with fail
      (refine region_quiet _ (by kernel_rfl) (by kernel_rfl) K.out.drew ?_; haveI ne := Keep.ne K)
      repeat (go_big_quiet_step (first | (go_at_call 45; with_reducible exact At.call Keep.stays (sqr_any x _)) | (go_at_call 45; with_reducible exact At.call Keep.stays (sqr_any u _)) | (go_at_call 41; with_reducible exact At.call Keep.stays (N5.out _))))
      (refine wpQuiet_nil ?_; clear ne K; intro W K; replace K := Lib.hid K)
      go_wp2_with fail
      (refine region_quiet _ (by kernel_rfl) (by kernel_rfl) K.out.drew ?_; haveI ne := Keep.ne K)
      repeat (go_big_quiet_step (first | (go_at_call 55; with_reducible exact At.call Keep.stays (neg_any x _)) | (go_at_call 55; with_reducible exact At.call Keep.stays (neg_any u _)) | (go_at_call 41; with_reducible exact At.call Keep.stays (N6.out _))))
      (refine wpQuiet_nil ?_; clear ne K; intro W K; replace K := Lib.hid K)
      go_wp2_with fail
      (refine region_quiet _ (by kernel_rfl) (by kernel_rfl) K.out.drew ?_; haveI ne := Keep.ne K)
      repeat (go_big_quiet_step (first | (go_at_call 61; with_reducible exact At.call Keep.stays (join_any x y _)) | (go_at_call 61; with_reducible exact At.call Keep.stays (join_any u v _)) | (go_at_call 41; with_reducible exact At.call Keep.stays (N7.out _))))
      (refine wpQuiet_nil ?_; clear ne K; intro W K; replace K := Lib.hid K)
      go_wp2_with fail
      go_ret
      exact ⟨rfl, K.out.B⟩
end Go.Proofs.Ytehjfjdopeadfaa
