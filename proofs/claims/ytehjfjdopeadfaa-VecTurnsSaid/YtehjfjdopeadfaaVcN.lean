/- The walk of the statement VecNarrow. -/
import Derived.Test.YtehjfjdopeadfaaVcP
import Derived.Test.YtehjfjdopeadfaaVcO
set_option linter.unusedVariables false
set_option linter.unusedSimpArgs false
namespace Go.Proofs.Ytehjfjdopeadfaa
open Go.RowKit SpMath

theorem in_sure {x y : Sp} (h : inn x y = true) (w : World) : Calls Try.prog 41 #[x.v, y.v] w fun e w' => e = .returned (.bool true) ∧ Below w.heap.size w w' := by
  have := in_any x y w
  rwa [h] at this
theorem vin_sure {x y : Vc} (h : vin x y = true) (w : World) : Calls Try.prog 33 #[x.v, y.v] w fun e w' => e = .returned (.bool true) ∧ Below w.heap.size w w' := by
  have := vin_any x y w
  rwa [h] at this

set_option maxHeartbeats 8000000 in
set_option maxRecDepth 100000 in
theorem VecNarrow_walk (v u x y : Vc) {w : World} :
    Calls Try.prog 6 #[v.v, u.v, x.v, y.v] w fun e w' => e = .returned (.bool true) ∧ Below w.heap.size w w' := by
  have K := Lib.hid (Keep.begin4 w (Obj.vec 25 v) (Obj.vec 25 u) (Obj.vec 25 x) (Obj.vec 25 y))
  go_enter Try.func6, Try.ntmps6
  go_upto_region 1 with fail
  (refine out_keep K.out ?_; clear K; intro W K; replace K := Lib.hid K)
  (go_wp2_with fail; (refine (((vawake_any _))).mono ?_; rintro e w2 ⟨rfl, hb⟩; replace K := Lib.hid (Keep.stays _ _ K.out hb); clear hb))
  (have f1 := (K.out.vc (.tail _ (.tail _ (.tail _ (.head _))))).warm; have c10 := (K.out.vc (.tail _ (.tail _ (.tail _ (.head _))))).cell0; have c11 := (K.out.vc (.tail _ (.tail _ (.tail _ (.head _))))).cell1; have c12 := (K.out.vc (.tail _ (.tail _ (.tail _ (.head _))))).cell2; have c13 := (K.out.vc (.tail _ (.tail _ (.tail _ (.head _))))).cell3; have c14 := (K.out.vc (.tail _ (.tail _ (.tail _ (.head _))))).cell4; have c15 := (K.out.vc (.tail _ (.tail _ (.tail _ (.head _))))).cell5; have c16 := (K.out.vc (.tail _ (.tail _ (.tail _ (.head _))))).cell6; have c17 := (K.out.vc (.tail _ (.tail _ (.tail _ (.head _))))).cell7; have c18 := (K.out.vc (.tail _ (.tail _ (.tail _ (.head _))))).cell8)
  (have f2 := (K.out.vc (.tail _ (.head _))).warm; have c20 := (K.out.vc (.tail _ (.head _))).cell0; have c21 := (K.out.vc (.tail _ (.head _))).cell1; have c22 := (K.out.vc (.tail _ (.head _))).cell2; have c23 := (K.out.vc (.tail _ (.head _))).cell3; have c24 := (K.out.vc (.tail _ (.head _))).cell4; have c25 := (K.out.vc (.tail _ (.head _))).cell5; have c26 := (K.out.vc (.tail _ (.head _))).cell6; have c27 := (K.out.vc (.tail _ (.head _))).cell7; have c28 := (K.out.vc (.tail _ (.head _))).cell8)
  go_wp2_with fail
  (refine ((vin_any v x _)).mono ?_; rintro e w2 ⟨rfl, hb⟩; replace K := Lib.hid (Keep.stays _ _ K.out hb); clear hb)
  ((try clear f1); (try clear c10 c11 c12 c13 c14 c15 c16 c17 c18))
  ((try clear f2); (try clear c20 c21 c22 c23 c24 c25 c26 c27 c28))
  (have f1 := (K.out.vc (.tail _ (.tail _ (.head _)))).warm; have c10 := (K.out.vc (.tail _ (.tail _ (.head _)))).cell0; have c11 := (K.out.vc (.tail _ (.tail _ (.head _)))).cell1; have c12 := (K.out.vc (.tail _ (.tail _ (.head _)))).cell2; have c13 := (K.out.vc (.tail _ (.tail _ (.head _)))).cell3; have c14 := (K.out.vc (.tail _ (.tail _ (.head _)))).cell4; have c15 := (K.out.vc (.tail _ (.tail _ (.head _)))).cell5; have c16 := (K.out.vc (.tail _ (.tail _ (.head _)))).cell6; have c17 := (K.out.vc (.tail _ (.tail _ (.head _)))).cell7; have c18 := (K.out.vc (.tail _ (.tail _ (.head _)))).cell8)
  (have f2 := (K.out.vc (.head _)).warm; have c20 := (K.out.vc (.head _)).cell0; have c21 := (K.out.vc (.head _)).cell1; have c22 := (K.out.vc (.head _)).cell2; have c23 := (K.out.vc (.head _)).cell3; have c24 := (K.out.vc (.head _)).cell4; have c25 := (K.out.vc (.head _)).cell5; have c26 := (K.out.vc (.head _)).cell6; have c27 := (K.out.vc (.head _)).cell7; have c28 := (K.out.vc (.head _)).cell8)
  go_wp2_with fail
  (refine ((vin_any u y _)).mono ?_; rintro e w2 ⟨rfl, hb⟩; replace K := Lib.hid (Keep.stays _ _ K.out hb); clear hb)
  ((try clear f1); (try clear c10 c11 c12 c13 c14 c15 c16 c17 c18))
  ((try clear f2); (try clear c20 c21 c22 c23 c24 c25 c26 c27 c28))
  cases hp : vin v x with
  | false =>
    go_wp2_with fail
    go_ret
    exact ⟨rfl, K.out.B⟩
  | true =>
    cases hq : vin u y with
    | false =>
      go_wp2_with fail
      go_ret
      exact ⟨rfl, K.out.B⟩
    | true =>
      have N1 := Lib.hid (fun w => in_sure (narrow_dot hp hq) w)
      have N2 := Lib.hid (fun w => vin_sure (narrow_cross hp hq) w)
      have N3 := Lib.hid (fun w => in_sure (narrow_norm2 hp) w)
      have N4 := Lib.hid (fun w => vin_sure (narrow_vadd hp hq) w)
      have N5 := Lib.hid (fun w => vin_sure (narrow_vsub hp hq) w)
      go_wp2_with fail
      (refine region_quiet _ (by kernel_rfl) (by kernel_rfl) K.out.drew ?_; haveI ne := Keep.ne K)
      (have c10 := Keep.av0 K (.tail _ (.tail _ (.tail _ (.head _)))); have c11 := Keep.av1 K (.tail _ (.tail _ (.tail _ (.head _)))); have c12 := Keep.av2 K (.tail _ (.tail _ (.tail _ (.head _)))); have c13 := Keep.av3 K (.tail _ (.tail _ (.tail _ (.head _)))); have c14 := Keep.av4 K (.tail _ (.tail _ (.tail _ (.head _)))); have c15 := Keep.av5 K (.tail _ (.tail _ (.tail _ (.head _)))); have c16 := Keep.av6 K (.tail _ (.tail _ (.tail _ (.head _)))); have c17 := Keep.av7 K (.tail _ (.tail _ (.tail _ (.head _)))); have c18 := Keep.av8 K (.tail _ (.tail _ (.tail _ (.head _)))))
      (have c20 := Keep.av0 K (.tail _ (.tail _ (.head _))); have c21 := Keep.av1 K (.tail _ (.tail _ (.head _))); have c22 := Keep.av2 K (.tail _ (.tail _ (.head _))); have c23 := Keep.av3 K (.tail _ (.tail _ (.head _))); have c24 := Keep.av4 K (.tail _ (.tail _ (.head _))); have c25 := Keep.av5 K (.tail _ (.tail _ (.head _))); have c26 := Keep.av6 K (.tail _ (.tail _ (.head _))); have c27 := Keep.av7 K (.tail _ (.tail _ (.head _))); have c28 := Keep.av8 K (.tail _ (.tail _ (.head _))))
      (have c30 := Keep.av0 K (.tail _ (.head _)); have c31 := Keep.av1 K (.tail _ (.head _)); have c32 := Keep.av2 K (.tail _ (.head _)); have c33 := Keep.av3 K (.tail _ (.head _)); have c34 := Keep.av4 K (.tail _ (.head _)); have c35 := Keep.av5 K (.tail _ (.head _)); have c36 := Keep.av6 K (.tail _ (.head _)); have c37 := Keep.av7 K (.tail _ (.head _)); have c38 := Keep.av8 K (.tail _ (.head _)))
      (have c40 := Keep.av0 K (.head _); have c41 := Keep.av1 K (.head _); have c42 := Keep.av2 K (.head _); have c43 := Keep.av3 K (.head _); have c44 := Keep.av4 K (.head _); have c45 := Keep.av5 K (.head _); have c46 := Keep.av6 K (.head _); have c47 := Keep.av7 K (.head _); have c48 := Keep.av8 K (.head _))
      repeat (go_big_quiet_step (first | (go_at_call 19; with_reducible exact At.call Keep.stays (dot_any v u _)) | (go_at_call 19; with_reducible exact At.call Keep.stays (dot_any x y _)) | (go_at_call 41; with_reducible exact At.call Keep.stays (N1.out _))))
      (refine wpQuiet_nil ?_; clear ne K; intro W K; replace K := Lib.hid K)
      go_wp2_with fail
      (refine region_quiet _ (by kernel_rfl) (by kernel_rfl) K.out.drew ?_; haveI ne := Keep.ne K)
      repeat (go_big_quiet_step (first | (go_at_call 21; with_reducible exact At.call Keep.stays (cross_any v u _)) | (go_at_call 21; with_reducible exact At.call Keep.stays (cross_any x y _)) | (go_at_call 33; with_reducible exact At.call Keep.stays (N2.out _))))
      (refine wpQuiet_nil ?_; clear ne K; intro W K; replace K := Lib.hid K)
      go_wp2_with fail
      (refine region_quiet _ (by kernel_rfl) (by kernel_rfl) K.out.drew ?_; haveI ne := Keep.ne K)
      repeat (go_big_quiet_step (first | (go_at_call 20; with_reducible exact At.call Keep.stays (norm2_any v _)) | (go_at_call 20; with_reducible exact At.call Keep.stays (norm2_any x _)) | (go_at_call 41; with_reducible exact At.call Keep.stays (N3.out _))))
      (refine wpQuiet_nil ?_; clear ne K; intro W K; replace K := Lib.hid K)
      go_wp2_with fail
      (refine region_quiet _ (by kernel_rfl) (by kernel_rfl) K.out.drew ?_; haveI ne := Keep.ne K)
      repeat (go_big_quiet_step (first | (go_at_call 23; with_reducible exact At.call Keep.stays (vadd_any v u _)) | (go_at_call 23; with_reducible exact At.call Keep.stays (vadd_any x y _)) | (go_at_call 33; with_reducible exact At.call Keep.stays (N4.out _))))
      (refine wpQuiet_nil ?_; clear ne K; intro W K; replace K := Lib.hid K)
      go_wp2_with fail
      (refine region_quiet _ (by kernel_rfl) (by kernel_rfl) K.out.drew ?_; haveI ne := Keep.ne K)
      repeat (go_big_quiet_step (first | (go_at_call 24; with_reducible exact At.call Keep.stays (vsub_any v u _)) | (go_at_call 24; with_reducible exact At.call Keep.stays (vsub_any x y _)) | (go_at_call 33; with_reducible exact At.call Keep.stays (N5.out _))))
      (refine wpQuiet_nil ?_; clear ne K; intro W K; replace K := Lib.hid K)
      go_wp2_with fail
      go_ret
      exact ⟨rfl, K.out.B⟩

end Go.Proofs.Ytehjfjdopeadfaa
