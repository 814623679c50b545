/- The walk of the statement VecPlays, and the document's own functions that it asks. -/
import Derived.Test.YtehjfjdopeadfaaRe
import Derived.Test.YtehjfjdopeadfaaRi
import Derived.Test.YtehjfjdopeadfaaVcC
import Derived.Test.YtehjfjdopeadfaaVcO
set_option linter.unusedVariables false
set_option linter.unusedSimpArgs false
namespace Go.Proofs.Ytehjfjdopeadfaa
open Go.RowKit SpMath

set_option maxHeartbeats 8000000 in
set_option maxRecDepth 100000 in
theorem vadd_ref (v u : Vc) (w : World) : Calls Try.prog 27 #[v.v, u.v] w fun e w' => e = .returned (vadd v u).v ∧ Below w.heap.size w w' := by
  have K := Lib.hid (Keep.begin3 w (Obj.vec 36 v) (Obj.vec 36 u) (Obj.vec 36 ⟨vz, vz, vz⟩))
  go_enter Try.func27, Try.ntmps27
  go_wp2_with fail
  (refine region_tail _ 16 (by kernel_rfl) (by kernel_rfl) K.out.drew ?_; haveI ne := Keep.ne K)
  (have c10 := Keep.av0 K (.tail _ (.tail _ (.head _))); have c11 := Keep.av1 K (.tail _ (.tail _ (.head _))); have c12 := Keep.av2 K (.tail _ (.tail _ (.head _))); have c13 := Keep.av3 K (.tail _ (.tail _ (.head _))); have c14 := Keep.av4 K (.tail _ (.tail _ (.head _))); have c15 := Keep.av5 K (.tail _ (.tail _ (.head _))); have c16 := Keep.av6 K (.tail _ (.tail _ (.head _))); have c17 := Keep.av7 K (.tail _ (.tail _ (.head _))); have c18 := Keep.av8 K (.tail _ (.tail _ (.head _))))
  (have c20 := Keep.av0 K (.tail _ (.head _)); have c21 := Keep.av1 K (.tail _ (.head _)); have c22 := Keep.av2 K (.tail _ (.head _)); have c23 := Keep.av3 K (.tail _ (.head _)); have c24 := Keep.av4 K (.tail _ (.head _)); have c25 := Keep.av5 K (.tail _ (.head _)); have c26 := Keep.av6 K (.tail _ (.head _)); have c27 := Keep.av7 K (.tail _ (.head _)); have c28 := Keep.av8 K (.tail _ (.head _)))
  (simp only [List.take_succ_cons, List.take_zero, List.drop_succ_cons, List.drop_zero])
  repeat (go_big_quiet_step ((go_at_call 51; with_reducible exact At.call Keep.stays (add_ref _ _ _))))
  (refine wpQuiet_nil ?_; clear ne K; intro W K; replace K := Lib.hid K)
  ((try clear f1); (try clear c10 c11 c12 c13 c14 c15 c16 c17 c18))
  ((try clear f2); (try clear c20 c21 c22 c23 c24 c25 c26 c27 c28))
  (have f3 := (K.out.vc (.head _)).warm; have c30 := (K.out.vc (.head _)).cell0; have c31 := (K.out.vc (.head _)).cell1; have c32 := (K.out.vc (.head _)).cell2; have c33 := (K.out.vc (.head _)).cell3; have c34 := (K.out.vc (.head _)).cell4; have c35 := (K.out.vc (.head _)).cell5; have c36 := (K.out.vc (.head _)).cell6; have c37 := (K.out.vc (.head _)).cell7; have c38 := (K.out.vc (.head _)).cell8)
  go_wp2_with fail
  exact ret_rv Try.results27 rfl ((K.out.putv_0 (vadd v u)).vc (.head _)) ⟨rfl, (K.out.putv_0 (vadd v u)).B⟩

set_option maxHeartbeats 8000000 in
set_option maxRecDepth 100000 in
theorem vsub_ref (v u : Vc) (w : World) : Calls Try.prog 28 #[v.v, u.v] w fun e w' => e = .returned (vsub v u).v ∧ Below w.heap.size w w' := by
  have K := Lib.hid (Keep.begin3 w (Obj.vec 36 v) (Obj.vec 36 u) (Obj.vec 36 ⟨vz, vz, vz⟩))
  go_enter Try.func28, Try.ntmps28
  go_wp2_with fail
  (refine region_tail _ 16 (by kernel_rfl) (by kernel_rfl) K.out.drew ?_; haveI ne := Keep.ne K)
  (have c10 := Keep.av0 K (.tail _ (.tail _ (.head _))); have c11 := Keep.av1 K (.tail _ (.tail _ (.head _))); have c12 := Keep.av2 K (.tail _ (.tail _ (.head _))); have c13 := Keep.av3 K (.tail _ (.tail _ (.head _))); have c14 := Keep.av4 K (.tail _ (.tail _ (.head _))); have c15 := Keep.av5 K (.tail _ (.tail _ (.head _))); have c16 := Keep.av6 K (.tail _ (.tail _ (.head _))); have c17 := Keep.av7 K (.tail _ (.tail _ (.head _))); have c18 := Keep.av8 K (.tail _ (.tail _ (.head _))))
  (have c20 := Keep.av0 K (.tail _ (.head _)); have c21 := Keep.av1 K (.tail _ (.head _)); have c22 := Keep.av2 K (.tail _ (.head _)); have c23 := Keep.av3 K (.tail _ (.head _)); have c24 := Keep.av4 K (.tail _ (.head _)); have c25 := Keep.av5 K (.tail _ (.head _)); have c26 := Keep.av6 K (.tail _ (.head _)); have c27 := Keep.av7 K (.tail _ (.head _)); have c28 := Keep.av8 K (.tail _ (.head _)))
  (simp only [List.take_succ_cons, List.take_zero, List.drop_succ_cons, List.drop_zero])
  repeat (go_big_quiet_step ((go_at_call 52; with_reducible exact At.call Keep.stays (sub_ref _ _ _))))
  (refine wpQuiet_nil ?_; clear ne K; intro W K; replace K := Lib.hid K)
  ((try clear f1); (try clear c10 c11 c12 c13 c14 c15 c16 c17 c18))
  ((try clear f2); (try clear c20 c21 c22 c23 c24 c25 c26 c27 c28))
  (have f3 := (K.out.vc (.head _)).warm; have c30 := (K.out.vc (.head _)).cell0; have c31 := (K.out.vc (.head _)).cell1; have c32 := (K.out.vc (.head _)).cell2; have c33 := (K.out.vc (.head _)).cell3; have c34 := (K.out.vc (.head _)).cell4; have c35 := (K.out.vc (.head _)).cell5; have c36 := (K.out.vc (.head _)).cell6; have c37 := (K.out.vc (.head _)).cell7; have c38 := (K.out.vc (.head _)).cell8)
  go_wp2_with fail
  exact ret_rv Try.results28 rfl ((K.out.putv_0 (vsub v u)).vc (.head _)) ⟨rfl, (K.out.putv_0 (vsub v u)).B⟩

set_option maxHeartbeats 8000000 in
set_option maxRecDepth 100000 in
theorem vscale_ref (v : Vc) (s : Sp) (w : World) : Calls Try.prog 29 #[v.v, s.v] w fun e w' => e = .returned (vscale v s).v ∧ Below w.heap.size w w' := by
  have K := Lib.hid (Keep.begin3 w (Obj.vec 36 v) (Obj.ref s) (Obj.vec 36 ⟨vz, vz, vz⟩))
  go_enter Try.func29, Try.ntmps29
  go_wp2_with fail
  (refine region_tail _ 13 (by kernel_rfl) (by kernel_rfl) K.out.drew ?_; haveI ne := Keep.ne K)
  (have c10 := Keep.av0 K (.tail _ (.tail _ (.head _))); have c11 := Keep.av1 K (.tail _ (.tail _ (.head _))); have c12 := Keep.av2 K (.tail _ (.tail _ (.head _))); have c13 := Keep.av3 K (.tail _ (.tail _ (.head _))); have c14 := Keep.av4 K (.tail _ (.tail _ (.head _))); have c15 := Keep.av5 K (.tail _ (.tail _ (.head _))); have c16 := Keep.av6 K (.tail _ (.tail _ (.head _))); have c17 := Keep.av7 K (.tail _ (.tail _ (.head _))); have c18 := Keep.av8 K (.tail _ (.tail _ (.head _))))
  (have c20 := Keep.ar0 K (.tail _ (.head _)); have c21 := Keep.ar1 K (.tail _ (.head _)); have c22 := Keep.ar2 K (.tail _ (.head _)))
  (simp only [List.take_succ_cons, List.take_zero, List.drop_succ_cons, List.drop_zero])
  repeat (go_big_quiet_step ((go_at_call 53; with_reducible exact At.call Keep.stays (mul_ref _ _ _))))
  (refine wpQuiet_nil ?_; clear ne K; intro W K; replace K := Lib.hid K)
  ((try clear f1); (try clear c10 c11 c12 c13 c14 c15 c16 c17 c18))
  ((try clear f2); (try clear c20 c21 c22))
  (have f3 := (K.out.vc (.head _)).warm; have c30 := (K.out.vc (.head _)).cell0; have c31 := (K.out.vc (.head _)).cell1; have c32 := (K.out.vc (.head _)).cell2; have c33 := (K.out.vc (.head _)).cell3; have c34 := (K.out.vc (.head _)).cell4; have c35 := (K.out.vc (.head _)).cell5; have c36 := (K.out.vc (.head _)).cell6; have c37 := (K.out.vc (.head _)).cell7; have c38 := (K.out.vc (.head _)).cell8)
  go_wp2_with fail
  exact ret_rv Try.results29 rfl ((K.out.putv_0 (vscale v s)).vc (.head _)) ⟨rfl, (K.out.putv_0 (vscale v s)).B⟩

set_option maxHeartbeats 8000000 in
set_option maxRecDepth 100000 in
theorem dot_ref (v u : Vc) (w : World) : Calls Try.prog 30 #[v.v, u.v] w fun e w' => e = .returned (dot v u).v ∧ Below w.heap.size w w' := by
  have K := Lib.hid (Keep.begin3 w (Obj.vec 36 v) (Obj.vec 36 u) (Obj.ref ⟨0, 0, false⟩))
  go_enter Try.func30, Try.ntmps30
  go_wp2_with fail
  (refine region_tail _ 17 (by kernel_rfl) (by kernel_rfl) K.out.drew ?_; haveI ne := Keep.ne K)
  (have c10 := Keep.av0 K (.tail _ (.tail _ (.head _))); have c11 := Keep.av1 K (.tail _ (.tail _ (.head _))); have c12 := Keep.av2 K (.tail _ (.tail _ (.head _))); have c13 := Keep.av3 K (.tail _ (.tail _ (.head _))); have c14 := Keep.av4 K (.tail _ (.tail _ (.head _))); have c15 := Keep.av5 K (.tail _ (.tail _ (.head _))); have c16 := Keep.av6 K (.tail _ (.tail _ (.head _))); have c17 := Keep.av7 K (.tail _ (.tail _ (.head _))); have c18 := Keep.av8 K (.tail _ (.tail _ (.head _))))
  (have c20 := Keep.av0 K (.tail _ (.head _)); have c21 := Keep.av1 K (.tail _ (.head _)); have c22 := Keep.av2 K (.tail _ (.head _)); have c23 := Keep.av3 K (.tail _ (.head _)); have c24 := Keep.av4 K (.tail _ (.head _)); have c25 := Keep.av5 K (.tail _ (.head _)); have c26 := Keep.av6 K (.tail _ (.head _)); have c27 := Keep.av7 K (.tail _ (.head _)); have c28 := Keep.av8 K (.tail _ (.head _)))
  (simp only [List.take_succ_cons, List.take_zero, List.drop_succ_cons, List.drop_zero])
  repeat (go_big_quiet_step (first | (go_at_call 53; with_reducible exact At.call Keep.stays (mul_ref _ _ _)) | (go_at_call 51; with_reducible exact At.call Keep.stays (add_ref _ _ _))))
  (refine wpQuiet_nil ?_; clear ne K; intro W K; replace K := Lib.hid K)
  ((try clear f1); (try clear c10 c11 c12 c13 c14 c15 c16 c17 c18))
  ((try clear f2); (try clear c20 c21 c22 c23 c24 c25 c26 c27 c28))
  (have f3 := (K.out.rf (.head _)).warm; have c30 := (K.out.rf (.head _)).cell0; have c31 := (K.out.rf (.head _)).cell1; have c32 := (K.out.rf (.head _)).cell2)
  go_wp2_with fail
  exact ret_rf Try.results30 rfl ((K.out.putr_0 (dot v u)).rf (.head _)) ⟨rfl, (K.out.putr_0 (dot v u)).B⟩

set_option maxHeartbeats 8000000 in
set_option maxRecDepth 100000 in
theorem cross_ref (v u : Vc) (w : World) : Calls Try.prog 31 #[v.v, u.v] w fun e w' => e = .returned (cross v u).v ∧ Below w.heap.size w w' := by
  have K := Lib.hid (Keep.begin3 w (Obj.vec 36 v) (Obj.vec 36 u) (Obj.vec 36 ⟨vz, vz, vz⟩))
  go_enter Try.func31, Try.ntmps31
  go_wp2_with fail
  (refine region_tail _ 34 (by kernel_rfl) (by kernel_rfl) K.out.drew ?_; haveI ne := Keep.ne K)
  (have c10 := Keep.av0 K (.tail _ (.tail _ (.head _))); have c11 := Keep.av1 K (.tail _ (.tail _ (.head _))); have c12 := Keep.av2 K (.tail _ (.tail _ (.head _))); have c13 := Keep.av3 K (.tail _ (.tail _ (.head _))); have c14 := Keep.av4 K (.tail _ (.tail _ (.head _))); have c15 := Keep.av5 K (.tail _ (.tail _ (.head _))); have c16 := Keep.av6 K (.tail _ (.tail _ (.head _))); have c17 := Keep.av7 K (.tail _ (.tail _ (.head _))); have c18 := Keep.av8 K (.tail _ (.tail _ (.head _))))
  (have c20 := Keep.av0 K (.tail _ (.head _)); have c21 := Keep.av1 K (.tail _ (.head _)); have c22 := Keep.av2 K (.tail _ (.head _)); have c23 := Keep.av3 K (.tail _ (.head _)); have c24 := Keep.av4 K (.tail _ (.head _)); have c25 := Keep.av5 K (.tail _ (.head _)); have c26 := Keep.av6 K (.tail _ (.head _)); have c27 := Keep.av7 K (.tail _ (.head _)); have c28 := Keep.av8 K (.tail _ (.head _)))
  (simp only [List.take_succ_cons, List.take_zero, List.drop_succ_cons, List.drop_zero])
  repeat (go_big_quiet_step (first | (go_at_call 53; with_reducible exact At.call Keep.stays (mul_ref _ _ _)) | (go_at_call 52; with_reducible exact At.call Keep.stays (sub_ref _ _ _))))
  (refine wpQuiet_nil ?_; clear ne K; intro W K; replace K := Lib.hid K)
  ((try clear f1); (try clear c10 c11 c12 c13 c14 c15 c16 c17 c18))
  ((try clear f2); (try clear c20 c21 c22 c23 c24 c25 c26 c27 c28))
  (have f3 := (K.out.vc (.head _)).warm; have c30 := (K.out.vc (.head _)).cell0; have c31 := (K.out.vc (.head _)).cell1; have c32 := (K.out.vc (.head _)).cell2; have c33 := (K.out.vc (.head _)).cell3; have c34 := (K.out.vc (.head _)).cell4; have c35 := (K.out.vc (.head _)).cell5; have c36 := (K.out.vc (.head _)).cell6; have c37 := (K.out.vc (.head _)).cell7; have c38 := (K.out.vc (.head _)).cell8)
  go_wp2_with fail
  exact ret_rv Try.results31 rfl ((K.out.putv_0 (cross v u)).vc (.head _)) ⟨rfl, (K.out.putv_0 (cross v u)).B⟩

set_option maxHeartbeats 8000000 in
set_option maxRecDepth 100000 in
theorem norm2_ref (v : Vc) (w : World) : Calls Try.prog 32 #[v.v] w fun e w' => e = .returned (norm2 v).v ∧ Below w.heap.size w w' := by
  have K := Lib.hid (Keep.begin2 w (Obj.vec 36 v) (Obj.ref ⟨0, 0, false⟩))
  go_enter Try.func32, Try.ntmps32
  go_wp2_with fail
  (refine region_tail _ 11 (by kernel_rfl) (by kernel_rfl) K.out.drew ?_; haveI ne := Keep.ne K)
  (have c10 := Keep.av0 K (.tail _ (.head _)); have c11 := Keep.av1 K (.tail _ (.head _)); have c12 := Keep.av2 K (.tail _ (.head _)); have c13 := Keep.av3 K (.tail _ (.head _)); have c14 := Keep.av4 K (.tail _ (.head _)); have c15 := Keep.av5 K (.tail _ (.head _)); have c16 := Keep.av6 K (.tail _ (.head _)); have c17 := Keep.av7 K (.tail _ (.head _)); have c18 := Keep.av8 K (.tail _ (.head _)))
  (simp only [List.take_succ_cons, List.take_zero, List.drop_succ_cons, List.drop_zero])
  repeat (go_big_quiet_step (first | (go_at_call 58; with_reducible exact At.call Keep.stays (sqr_ref _ _)) | (go_at_call 51; with_reducible exact At.call Keep.stays (add_ref _ _ _))))
  (refine wpQuiet_nil ?_; clear ne K; intro W K; replace K := Lib.hid K)
  ((try clear f1); (try clear c10 c11 c12 c13 c14 c15 c16 c17 c18))
  (have f3 := (K.out.rf (.head _)).warm; have c30 := (K.out.rf (.head _)).cell0; have c31 := (K.out.rf (.head _)).cell1; have c32 := (K.out.rf (.head _)).cell2)
  go_wp2_with fail
  exact ret_rf Try.results32 rfl ((K.out.putr_0 (norm2 v)).rf (.head _)) ⟨rfl, (K.out.putr_0 (norm2 v)).B⟩
end Go.Proofs.Ytehjfjdopeadfaa
