/- The walk of the statement VecPlain. -/
import Derived.Test.YtehjfjdopeadfaaVcN
import Derived.Test.YtehjfjdopeadfaaSpA
set_option linter.unusedVariables false
set_option linter.unusedSimpArgs false
namespace Go.Proofs.Ytehjfjdopeadfaa
open Go.RowKit SpMath

set_option maxHeartbeats 8000000 in
set_option maxRecDepth 100000 in
theorem VecPlain_walk (v u : Vc) {w : World} :
    Calls Try.prog 7 #[v.v, u.v] w fun e w' => e = .returned (.bool true) ∧ Below w.heap.size w w' := by
  have K := Lib.hid (Keep.begin2 w (Obj.vec 25 v) (Obj.vec 25 u))
  have C1 : Hid (∀ w, Calls Try.prog 23 #[u.v, v.v] w fun e w' => e = .returned (vadd v u).v ∧ Below w.heap.size w w') := by
    intro w; have := vadd_any u v w; rwa [vadd_comm u v] at this
  have C2 : Hid (∀ w, Calls Try.prog 19 #[u.v, v.v] w fun e w' => e = .returned (dot v u).v ∧ Below w.heap.size w w') := by
    intro w; have := dot_any u v w; rwa [dot_comm u v] at this
  have S1 := Lib.hid (fun w => vin_sure (scale_one v).1 w)
  have S2 := Lib.hid (fun w => vin_sure (scale_one v).2 w)
  have F1 := Lib.hid (fun w => vin_sure (vback_in v u) w)
  go_enter Try.func7, Try.ntmps7
  go_upto_region 1 with fail
  (refine out_keep K.out ?_; clear K; intro W K; replace K := Lib.hid K)
  (go_wp2_with fail; (refine (((vawake_any _))).mono ?_; rintro e w2 ⟨rfl, hb⟩; replace K := Lib.hid (Keep.stays _ _ K.out hb); clear hb))
  (have f1 := (K.out.vc (.tail _ (.head _))).warm; have c10 := (K.out.vc (.tail _ (.head _))).cell0; have c11 := (K.out.vc (.tail _ (.head _))).cell1; have c12 := (K.out.vc (.tail _ (.head _))).cell2; have c13 := (K.out.vc (.tail _ (.head _))).cell3; have c14 := (K.out.vc (.tail _ (.head _))).cell4; have c15 := (K.out.vc (.tail _ (.head _))).cell5; have c16 := (K.out.vc (.tail _ (.head _))).cell6; have c17 := (K.out.vc (.tail _ (.head _))).cell7; have c18 := (K.out.vc (.tail _ (.head _))).cell8)
  (have f2 := (K.out.vc (.head _)).warm; have c20 := (K.out.vc (.head _)).cell0; have c21 := (K.out.vc (.head _)).cell1; have c22 := (K.out.vc (.head _)).cell2; have c23 := (K.out.vc (.head _)).cell3; have c24 := (K.out.vc (.head _)).cell4; have c25 := (K.out.vc (.head _)).cell5; have c26 := (K.out.vc (.head _)).cell6; have c27 := (K.out.vc (.head _)).cell7; have c28 := (K.out.vc (.head _)).cell8)
  go_wp2_with fail
  (refine ((vadd_any v u _)).mono ?_; rintro e w2 ⟨rfl, hb⟩; replace K := Lib.hid (Keep.stays _ _ K.out hb); clear hb)
  ((try clear f1); (try clear c10 c11 c12 c13 c14 c15 c16 c17 c18))
  ((try clear f2); (try clear c20 c21 c22 c23 c24 c25 c26 c27 c28))
  (go_upto_region 3 with fail; replace K := Lib.hid (K.out.alloc (Obj.vec 25 (vadd v u))); generalize w2.heap.size = gg at *; refine out_keep K.out ?_; clear K; intro W K; replace K := Lib.hid K; clear w2)
  (have f1 := (K.out.vc (.tail _ (.tail _ (.head _)))).warm; have c10 := (K.out.vc (.tail _ (.tail _ (.head _)))).cell0; have c11 := (K.out.vc (.tail _ (.tail _ (.head _)))).cell1; have c12 := (K.out.vc (.tail _ (.tail _ (.head _)))).cell2; have c13 := (K.out.vc (.tail _ (.tail _ (.head _)))).cell3; have c14 := (K.out.vc (.tail _ (.tail _ (.head _)))).cell4; have c15 := (K.out.vc (.tail _ (.tail _ (.head _)))).cell5; have c16 := (K.out.vc (.tail _ (.tail _ (.head _)))).cell6; have c17 := (K.out.vc (.tail _ (.tail _ (.head _)))).cell7; have c18 := (K.out.vc (.tail _ (.tail _ (.head _)))).cell8)
  (have f2 := (K.out.vc (.tail _ (.head _))).warm; have c20 := (K.out.vc (.tail _ (.head _))).cell0; have c21 := (K.out.vc (.tail _ (.head _))).cell1; have c22 := (K.out.vc (.tail _ (.head _))).cell2; have c23 := (K.out.vc (.tail _ (.head _))).cell3; have c24 := (K.out.vc (.tail _ (.head _))).cell4; have c25 := (K.out.vc (.tail _ (.head _))).cell5; have c26 := (K.out.vc (.tail _ (.head _))).cell6; have c27 := (K.out.vc (.tail _ (.head _))).cell7; have c28 := (K.out.vc (.tail _ (.head _))).cell8)
  go_wp2_with fail
  (refine ((C1.out _)).mono ?_; rintro e w2 ⟨rfl, hb⟩; replace K := Lib.hid (Keep.stays _ _ K.out hb); clear hb)
  ((try clear f1); (try clear c10 c11 c12 c13 c14 c15 c16 c17 c18))
  ((try clear f2); (try clear c20 c21 c22 c23 c24 c25 c26 c27 c28))
  (go_upto_region 4 with fail; replace K := Lib.hid (K.out.alloc (Obj.vec 25 (vadd v u))); generalize w2.heap.size = gg at *; refine out_keep K.out ?_; clear K; intro W K; replace K := Lib.hid K; clear w2)
  (have f1 := (K.out.vc (.tail _ (.tail _ (.tail _ (.head _))))).warm; have c10 := (K.out.vc (.tail _ (.tail _ (.tail _ (.head _))))).cell0; have c11 := (K.out.vc (.tail _ (.tail _ (.tail _ (.head _))))).cell1; have c12 := (K.out.vc (.tail _ (.tail _ (.tail _ (.head _))))).cell2; have c13 := (K.out.vc (.tail _ (.tail _ (.tail _ (.head _))))).cell3; have c14 := (K.out.vc (.tail _ (.tail _ (.tail _ (.head _))))).cell4; have c15 := (K.out.vc (.tail _ (.tail _ (.tail _ (.head _))))).cell5; have c16 := (K.out.vc (.tail _ (.tail _ (.tail _ (.head _))))).cell6; have c17 := (K.out.vc (.tail _ (.tail _ (.tail _ (.head _))))).cell7; have c18 := (K.out.vc (.tail _ (.tail _ (.tail _ (.head _))))).cell8)
  (have f2 := (K.out.vc (.tail _ (.tail _ (.head _)))).warm; have c20 := (K.out.vc (.tail _ (.tail _ (.head _)))).cell0; have c21 := (K.out.vc (.tail _ (.tail _ (.head _)))).cell1; have c22 := (K.out.vc (.tail _ (.tail _ (.head _)))).cell2; have c23 := (K.out.vc (.tail _ (.tail _ (.head _)))).cell3; have c24 := (K.out.vc (.tail _ (.tail _ (.head _)))).cell4; have c25 := (K.out.vc (.tail _ (.tail _ (.head _)))).cell5; have c26 := (K.out.vc (.tail _ (.tail _ (.head _)))).cell6; have c27 := (K.out.vc (.tail _ (.tail _ (.head _)))).cell7; have c28 := (K.out.vc (.tail _ (.tail _ (.head _)))).cell8)
  go_wp2_with fail
  (refine ((dot_any v u _)).mono ?_; rintro e w2 ⟨rfl, hb⟩; replace K := Lib.hid (Keep.stays _ _ K.out hb); clear hb)
  ((try clear f1); (try clear c10 c11 c12 c13 c14 c15 c16 c17 c18))
  ((try clear f2); (try clear c20 c21 c22 c23 c24 c25 c26 c27 c28))
  (go_upto_region 5 with fail; replace K := Lib.hid (K.out.alloc (Obj.box (dot v u))); generalize w2.heap.size = gg at *; refine out_keep K.out ?_; clear K; intro W K; replace K := Lib.hid K; clear w2)
  (have f1 := (K.out.vc (.tail _ (.tail _ (.tail _ (.tail _ (.head _)))))).warm; have c10 := (K.out.vc (.tail _ (.tail _ (.tail _ (.tail _ (.head _)))))).cell0; have c11 := (K.out.vc (.tail _ (.tail _ (.tail _ (.tail _ (.head _)))))).cell1; have c12 := (K.out.vc (.tail _ (.tail _ (.tail _ (.tail _ (.head _)))))).cell2; have c13 := (K.out.vc (.tail _ (.tail _ (.tail _ (.tail _ (.head _)))))).cell3; have c14 := (K.out.vc (.tail _ (.tail _ (.tail _ (.tail _ (.head _)))))).cell4; have c15 := (K.out.vc (.tail _ (.tail _ (.tail _ (.tail _ (.head _)))))).cell5; have c16 := (K.out.vc (.tail _ (.tail _ (.tail _ (.tail _ (.head _)))))).cell6; have c17 := (K.out.vc (.tail _ (.tail _ (.tail _ (.tail _ (.head _)))))).cell7; have c18 := (K.out.vc (.tail _ (.tail _ (.tail _ (.tail _ (.head _)))))).cell8)
  (have f2 := (K.out.vc (.tail _ (.tail _ (.tail _ (.head _))))).warm; have c20 := (K.out.vc (.tail _ (.tail _ (.tail _ (.head _))))).cell0; have c21 := (K.out.vc (.tail _ (.tail _ (.tail _ (.head _))))).cell1; have c22 := (K.out.vc (.tail _ (.tail _ (.tail _ (.head _))))).cell2; have c23 := (K.out.vc (.tail _ (.tail _ (.tail _ (.head _))))).cell3; have c24 := (K.out.vc (.tail _ (.tail _ (.tail _ (.head _))))).cell4; have c25 := (K.out.vc (.tail _ (.tail _ (.tail _ (.head _))))).cell5; have c26 := (K.out.vc (.tail _ (.tail _ (.tail _ (.head _))))).cell6; have c27 := (K.out.vc (.tail _ (.tail _ (.tail _ (.head _))))).cell7; have c28 := (K.out.vc (.tail _ (.tail _ (.tail _ (.head _))))).cell8)
  go_wp2_with fail
  (refine ((C2.out _)).mono ?_; rintro e w2 ⟨rfl, hb⟩; replace K := Lib.hid (Keep.stays _ _ K.out hb); clear hb)
  ((try clear f1); (try clear c10 c11 c12 c13 c14 c15 c16 c17 c18))
  ((try clear f2); (try clear c20 c21 c22 c23 c24 c25 c26 c27 c28))
  (go_upto_region 6 with fail; replace K := Lib.hid (K.out.alloc (Obj.box (dot v u))); generalize w2.heap.size = gg at *; refine out_keep K.out ?_; clear K; intro W K; replace K := Lib.hid K; clear w2)
  go_wp2_with fail
  refine region_alloc _ (fun g => Keep w ((g, Obj.vec 25 ⟨vz, vz, vz⟩) :: _)) 3 _ (by kernel_rfl) rfl rfl rfl (by kernel_rfl) (by kernel_rfl) Keep.stays (fun g => Keep.more _ (fun g => (g, Obj.vec 25 ⟨vz, vz, vz⟩)) _ g) K.out.drew ?hA ?hE
  case hA =>
    intro a wa hw C hC
    go_simp
    exact hC _ _ (hw.alloc (Obj.vec 25 ⟨vz, vz, vz⟩))
  apply Exists.intro
  refine ⟨?hq, ?hQ⟩
  case hq =>
    intro S hS
    have HT := Lib.hid hS.1
    haveI ne := hS.ne
    (have c10 : ∀ p : At S, _ := fun p => ((hS.2.1 _ p.h).vc (.tail _ (.tail _ (.tail _ (.tail _ (.tail _ (.head _))))))).cell0; have c11 : ∀ p : At S, _ := fun p => ((hS.2.1 _ p.h).vc (.tail _ (.tail _ (.tail _ (.tail _ (.tail _ (.head _))))))).cell1; have c12 : ∀ p : At S, _ := fun p => ((hS.2.1 _ p.h).vc (.tail _ (.tail _ (.tail _ (.tail _ (.tail _ (.head _))))))).cell2; have c13 : ∀ p : At S, _ := fun p => ((hS.2.1 _ p.h).vc (.tail _ (.tail _ (.tail _ (.tail _ (.tail _ (.head _))))))).cell3; have c14 : ∀ p : At S, _ := fun p => ((hS.2.1 _ p.h).vc (.tail _ (.tail _ (.tail _ (.tail _ (.tail _ (.head _))))))).cell4; have c15 : ∀ p : At S, _ := fun p => ((hS.2.1 _ p.h).vc (.tail _ (.tail _ (.tail _ (.tail _ (.tail _ (.head _))))))).cell5; have c16 : ∀ p : At S, _ := fun p => ((hS.2.1 _ p.h).vc (.tail _ (.tail _ (.tail _ (.tail _ (.tail _ (.head _))))))).cell6; have c17 : ∀ p : At S, _ := fun p => ((hS.2.1 _ p.h).vc (.tail _ (.tail _ (.tail _ (.tail _ (.tail _ (.head _))))))).cell7; have c18 : ∀ p : At S, _ := fun p => ((hS.2.1 _ p.h).vc (.tail _ (.tail _ (.tail _ (.tail _ (.tail _ (.head _))))))).cell8)
    clear hS
    (simp only [List.take_succ_cons, List.take_zero, List.drop_succ_cons, List.drop_zero])
    repeat (go_big_quiet_step (first | (go_at_call 42; with_reducible exact At.call HT.out (of_any _ _ _)) | (go_at_call 25; with_reducible exact At.call HT.out (vscale_any v (of 1048576 1048576) _))))
    exact wpQuiet_nil rfl
  clear K
  intro g W K
  replace K := Lib.hid K
  (simp only [List.take_succ_cons, List.take_zero, List.drop_succ_cons, List.drop_zero])
  (have f1 := (K.out.vc (.head _)).warm; have c10 := (K.out.vc (.head _)).cell0; have c11 := (K.out.vc (.head _)).cell1; have c12 := (K.out.vc (.head _)).cell2; have c13 := (K.out.vc (.head _)).cell3; have c14 := (K.out.vc (.head _)).cell4; have c15 := (K.out.vc (.head _)).cell5; have c16 := (K.out.vc (.head _)).cell6; have c17 := (K.out.vc (.head _)).cell7; have c18 := (K.out.vc (.head _)).cell8)
  go_upto_region 7 with fail
  replace K := Lib.hid (K.out.putv_0 (vscale v (of 1048576 1048576)))
  ((try clear f1); (try clear c10 c11 c12 c13 c14 c15 c16 c17 c18))
  (refine out_keep K.out ?_; clear K; intro W K; replace K := Lib.hid K)
  go_wp2_with fail
  (refine region_quiet _ (by kernel_rfl) (by kernel_rfl) K.out.drew ?_; haveI ne := Keep.ne K)
  (have c10 := Keep.av0 K (.tail _ (.tail _ (.tail _ (.tail _ (.tail _ (.tail _ (.head _))))))); have c11 := Keep.av1 K (.tail _ (.tail _ (.tail _ (.tail _ (.tail _ (.tail _ (.head _))))))); have c12 := Keep.av2 K (.tail _ (.tail _ (.tail _ (.tail _ (.tail _ (.tail _ (.head _))))))); have c13 := Keep.av3 K (.tail _ (.tail _ (.tail _ (.tail _ (.tail _ (.tail _ (.head _))))))); have c14 := Keep.av4 K (.tail _ (.tail _ (.tail _ (.tail _ (.tail _ (.tail _ (.head _))))))); have c15 := Keep.av5 K (.tail _ (.tail _ (.tail _ (.tail _ (.tail _ (.tail _ (.head _))))))); have c16 := Keep.av6 K (.tail _ (.tail _ (.tail _ (.tail _ (.tail _ (.tail _ (.head _))))))); have c17 := Keep.av7 K (.tail _ (.tail _ (.tail _ (.tail _ (.tail _ (.tail _ (.head _))))))); have c18 := Keep.av8 K (.tail _ (.tail _ (.tail _ (.tail _ (.tail _ (.tail _ (.head _))))))))
  (have c20 := Keep.av0 K (.tail _ (.tail _ (.tail _ (.tail _ (.tail _ (.head _)))))); have c21 := Keep.av1 K (.tail _ (.tail _ (.tail _ (.tail _ (.tail _ (.head _)))))); have c22 := Keep.av2 K (.tail _ (.tail _ (.tail _ (.tail _ (.tail _ (.head _)))))); have c23 := Keep.av3 K (.tail _ (.tail _ (.tail _ (.tail _ (.tail _ (.head _)))))); have c24 := Keep.av4 K (.tail _ (.tail _ (.tail _ (.tail _ (.tail _ (.head _)))))); have c25 := Keep.av5 K (.tail _ (.tail _ (.tail _ (.tail _ (.tail _ (.head _)))))); have c26 := Keep.av6 K (.tail _ (.tail _ (.tail _ (.tail _ (.tail _ (.head _)))))); have c27 := Keep.av7 K (.tail _ (.tail _ (.tail _ (.tail _ (.tail _ (.head _)))))); have c28 := Keep.av8 K (.tail _ (.tail _ (.tail _ (.tail _ (.tail _ (.head _)))))))
  repeat (go_big_quiet_step (first | (go_at_call 24; with_reducible exact At.call Keep.stays (vsub_any v u _)) | (go_at_call 23; with_reducible exact At.call Keep.stays (vadd_any (vsub v u) u _)) | (go_at_call 33; with_reducible exact At.call Keep.stays (F1.out _))))
  (refine wpQuiet_nil ?_; clear ne K; intro W K; replace K := Lib.hid K)
  ((try clear f1); (try clear c10 c11 c12 c13 c14 c15 c16 c17 c18))
  ((try clear f2); (try clear c20 c21 c22 c23 c24 c25 c26 c27 c28))
  (have f1 := (K.out.vc (.tail _ (.tail _ (.tail _ (.tail _ (.tail _ (.tail _ (.head _)))))))).warm; have c10 := (K.out.vc (.tail _ (.tail _ (.tail _ (.tail _ (.tail _ (.tail _ (.head _)))))))).cell0; have c11 := (K.out.vc (.tail _ (.tail _ (.tail _ (.tail _ (.tail _ (.tail _ (.head _)))))))).cell1; have c12 := (K.out.vc (.tail _ (.tail _ (.tail _ (.tail _ (.tail _ (.tail _ (.head _)))))))).cell2; have c13 := (K.out.vc (.tail _ (.tail _ (.tail _ (.tail _ (.tail _ (.tail _ (.head _)))))))).cell3; have c14 := (K.out.vc (.tail _ (.tail _ (.tail _ (.tail _ (.tail _ (.tail _ (.head _)))))))).cell4; have c15 := (K.out.vc (.tail _ (.tail _ (.tail _ (.tail _ (.tail _ (.tail _ (.head _)))))))).cell5; have c16 := (K.out.vc (.tail _ (.tail _ (.tail _ (.tail _ (.tail _ (.tail _ (.head _)))))))).cell6; have c17 := (K.out.vc (.tail _ (.tail _ (.tail _ (.tail _ (.tail _ (.tail _ (.head _)))))))).cell7; have c18 := (K.out.vc (.tail _ (.tail _ (.tail _ (.tail _ (.tail _ (.tail _ (.head _)))))))).cell8)
  (have f2 := (K.out.vc (.head _)).warm; have c20 := (K.out.vc (.head _)).cell0; have c21 := (K.out.vc (.head _)).cell1; have c22 := (K.out.vc (.head _)).cell2; have c23 := (K.out.vc (.head _)).cell3; have c24 := (K.out.vc (.head _)).cell4; have c25 := (K.out.vc (.head _)).cell5; have c26 := (K.out.vc (.head _)).cell6; have c27 := (K.out.vc (.head _)).cell7; have c28 := (K.out.vc (.head _)).cell8)
  go_wp2_with fail
  (refine ((S1.out _)).mono ?_; rintro e w2 ⟨rfl, hb⟩; replace K := Lib.hid (Keep.stays _ _ K.out hb); clear hb)
  ((try clear f1); (try clear c10 c11 c12 c13 c14 c15 c16 c17 c18))
  ((try clear f2); (try clear c20 c21 c22 c23 c24 c25 c26 c27 c28))
  (have f1 := (K.out.vc (.tail _ (.tail _ (.tail _ (.tail _ (.tail _ (.tail _ (.head _)))))))).warm; have c10 := (K.out.vc (.tail _ (.tail _ (.tail _ (.tail _ (.tail _ (.tail _ (.head _)))))))).cell0; have c11 := (K.out.vc (.tail _ (.tail _ (.tail _ (.tail _ (.tail _ (.tail _ (.head _)))))))).cell1; have c12 := (K.out.vc (.tail _ (.tail _ (.tail _ (.tail _ (.tail _ (.tail _ (.head _)))))))).cell2; have c13 := (K.out.vc (.tail _ (.tail _ (.tail _ (.tail _ (.tail _ (.tail _ (.head _)))))))).cell3; have c14 := (K.out.vc (.tail _ (.tail _ (.tail _ (.tail _ (.tail _ (.tail _ (.head _)))))))).cell4; have c15 := (K.out.vc (.tail _ (.tail _ (.tail _ (.tail _ (.tail _ (.tail _ (.head _)))))))).cell5; have c16 := (K.out.vc (.tail _ (.tail _ (.tail _ (.tail _ (.tail _ (.tail _ (.head _)))))))).cell6; have c17 := (K.out.vc (.tail _ (.tail _ (.tail _ (.tail _ (.tail _ (.tail _ (.head _)))))))).cell7; have c18 := (K.out.vc (.tail _ (.tail _ (.tail _ (.tail _ (.tail _ (.tail _ (.head _)))))))).cell8)
  (have f2 := (K.out.vc (.head _)).warm; have c20 := (K.out.vc (.head _)).cell0; have c21 := (K.out.vc (.head _)).cell1; have c22 := (K.out.vc (.head _)).cell2; have c23 := (K.out.vc (.head _)).cell3; have c24 := (K.out.vc (.head _)).cell4; have c25 := (K.out.vc (.head _)).cell5; have c26 := (K.out.vc (.head _)).cell6; have c27 := (K.out.vc (.head _)).cell7; have c28 := (K.out.vc (.head _)).cell8)
  go_wp2_with fail
  (refine ((S2.out _)).mono ?_; rintro e w2 ⟨rfl, hb⟩; replace K := Lib.hid (Keep.stays _ _ K.out hb); clear hb)
  ((try clear f1); (try clear c10 c11 c12 c13 c14 c15 c16 c17 c18))
  ((try clear f2); (try clear c20 c21 c22 c23 c24 c25 c26 c27 c28))
  (have f1 := (K.out.sp (.tail _ (.head _))).warm; have c10 := (K.out.sp (.tail _ (.head _))).cell0; have c11 := (K.out.sp (.tail _ (.head _))).cell1; have c12 := (K.out.sp (.tail _ (.head _))).cell2)
  (have f2 := (K.out.sp (.tail _ (.tail _ (.head _)))).warm; have c20 := (K.out.sp (.tail _ (.tail _ (.head _)))).cell0; have c21 := (K.out.sp (.tail _ (.tail _ (.head _)))).cell1; have c22 := (K.out.sp (.tail _ (.tail _ (.head _)))).cell2)
  (have f3 := (K.out.vc (.tail _ (.tail _ (.tail _ (.head _))))).warm; have c30 := (K.out.vc (.tail _ (.tail _ (.tail _ (.head _))))).cell0; have c31 := (K.out.vc (.tail _ (.tail _ (.tail _ (.head _))))).cell1; have c32 := (K.out.vc (.tail _ (.tail _ (.tail _ (.head _))))).cell2; have c33 := (K.out.vc (.tail _ (.tail _ (.tail _ (.head _))))).cell3; have c34 := (K.out.vc (.tail _ (.tail _ (.tail _ (.head _))))).cell4; have c35 := (K.out.vc (.tail _ (.tail _ (.tail _ (.head _))))).cell5; have c36 := (K.out.vc (.tail _ (.tail _ (.tail _ (.head _))))).cell6; have c37 := (K.out.vc (.tail _ (.tail _ (.tail _ (.head _))))).cell7; have c38 := (K.out.vc (.tail _ (.tail _ (.tail _ (.head _))))).cell8)
  (have f4 := (K.out.vc (.tail _ (.tail _ (.tail _ (.tail _ (.head _)))))).warm; have c40 := (K.out.vc (.tail _ (.tail _ (.tail _ (.tail _ (.head _)))))).cell0; have c41 := (K.out.vc (.tail _ (.tail _ (.tail _ (.tail _ (.head _)))))).cell1; have c42 := (K.out.vc (.tail _ (.tail _ (.tail _ (.tail _ (.head _)))))).cell2; have c43 := (K.out.vc (.tail _ (.tail _ (.tail _ (.tail _ (.head _)))))).cell3; have c44 := (K.out.vc (.tail _ (.tail _ (.tail _ (.tail _ (.head _)))))).cell4; have c45 := (K.out.vc (.tail _ (.tail _ (.tail _ (.tail _ (.head _)))))).cell5; have c46 := (K.out.vc (.tail _ (.tail _ (.tail _ (.tail _ (.head _)))))).cell6; have c47 := (K.out.vc (.tail _ (.tail _ (.tail _ (.tail _ (.head _)))))).cell7; have c48 := (K.out.vc (.tail _ (.tail _ (.tail _ (.tail _ (.head _)))))).cell8)
  go_wp2_with fail
  go_ret
  exact ⟨rfl, K.out.B⟩

end Go.Proofs.Ytehjfjdopeadfaa
