/- The walk of the statement VecTells, and the document's own functions that it asks. -/
import Derived.Test.YtehjfjdopeadfaaVcC
import Derived.Test.YtehjfjdopeadfaaVcO
set_option linter.unusedVariables false
set_option linter.unusedSimpArgs false
namespace Go.Proofs.Ytehjfjdopeadfaa
open Go.RowKit SpMath

set_option maxHeartbeats 1000000 in
set_option maxRecDepth 100000 in
theorem vof_ref (a b c : Int) (w : World) : Calls Try.prog 40 #[.int .i64 a, .int .i64 b, .int .i64 c] w fun e w' => e = .returned (vof a b c).v ∧ Below w.heap.size w w' := by
  have K := Lib.hid (Keep.begin1 w (Obj.vec 36 ⟨vz, vz, vz⟩))
  go_enter Try.func40, Try.ntmps40
  go_upto_region 1 with fail
  (refine out_keep K.out ?_; clear K; intro W K; replace K := Lib.hid K)
  (go_wp2_with fail; (refine (((of_ref a a _))).mono ?_; rintro e w2 ⟨rfl, hb⟩; replace K := Lib.hid (Keep.stays _ _ K.out hb); clear hb))
  (go_wp2_with fail; (refine (((of_ref b b _))).mono ?_; rintro e w2 ⟨rfl, hb⟩; replace K := Lib.hid (Keep.stays _ _ K.out hb); clear hb))
  (go_wp2_with fail; (refine (((of_ref c c _))).mono ?_; rintro e w2 ⟨rfl, hb⟩; replace K := Lib.hid (Keep.stays _ _ K.out hb); clear hb))
  (have f1 := (K.out.vc (.head _)).warm; have c10 := (K.out.vc (.head _)).cell0; have c11 := (K.out.vc (.head _)).cell1; have c12 := (K.out.vc (.head _)).cell2; have c13 := (K.out.vc (.head _)).cell3; have c14 := (K.out.vc (.head _)).cell4; have c15 := (K.out.vc (.head _)).cell5; have c16 := (K.out.vc (.head _)).cell6; have c17 := (K.out.vc (.head _)).cell7; have c18 := (K.out.vc (.head _)).cell8)
  go_wp2_with fail
  exact ret_rv Try.results40 rfl ((K.out.putv_0 (vof a b c)).vc (.head _)) ⟨rfl, (K.out.putv_0 (vof a b c)).B⟩

set_option maxHeartbeats 1000000 in
set_option maxRecDepth 100000 in
theorem vmid_ref (v : Vc) (w : World) : Calls Try.prog 38 #[v.v] w fun e w' => e = .returned (.agg #[.int .i64 (mid v.x), .int .i64 (mid v.y), .int .i64 (mid v.z)]) ∧ Below w.heap.size w w' := by
  have K := Lib.hid (Keep.begin2 w (Obj.vec 36 v) (Obj.arr 0 0 0))
  go_enter Try.func38, Try.ntmps38
  go_wp2_with fail
  (refine region_tail _ 10 (by kernel_rfl) (by kernel_rfl) K.out.drew ?_; haveI ne := Keep.ne K)
  (have c10 := Keep.av0 K (.tail _ (.head _)); have c11 := Keep.av1 K (.tail _ (.head _)); have c12 := Keep.av2 K (.tail _ (.head _)); have c13 := Keep.av3 K (.tail _ (.head _)); have c14 := Keep.av4 K (.tail _ (.head _)); have c15 := Keep.av5 K (.tail _ (.head _)); have c16 := Keep.av6 K (.tail _ (.head _)); have c17 := Keep.av7 K (.tail _ (.head _)); have c18 := Keep.av8 K (.tail _ (.head _)))
  (simp only [List.take_succ_cons, List.take_zero, List.drop_succ_cons, List.drop_zero])
  repeat (go_big_quiet_step ((go_at_call 69; with_reducible exact At.call Keep.stays (mid_ref _ _))))
  (refine wpQuiet_nil ?_; clear ne K; intro W K; replace K := Lib.hid K)
  ((try clear f1); (try clear c10 c11 c12 c13 c14 c15 c16 c17 c18))
  obtain ⟨f2, c20, c21, c22⟩ := K.out.arc (.head _)
  go_wp2_with fail
  exact ret_ar Try.results38 rfl ((K.out.putar _ _ _).box _ (.head _)) ⟨rfl, (K.out.putar _ _ _).B⟩

set_option maxHeartbeats 1000000 in
set_option maxRecDepth 100000 in
theorem vrad_ref (v : Vc) (w : World) : Calls Try.prog 39 #[v.v] w fun e w' => e = .returned (.int .i64 (vrad v)) ∧ Below w.heap.size w w' := by
  have K := Lib.hid (Keep.begin1 w (Obj.vec 36 v))
  go_enter Try.func39, Try.ntmps39
  go_wp2_with fail
  (refine ((rad_ref v.x _)).mono ?_; rintro e w2 ⟨rfl, hb⟩; replace K := Lib.hid (Keep.stays _ _ K.out hb); clear hb)
  (have f1 := (K.out.vc (.head _)).warm; have c10 := (K.out.vc (.head _)).cell0; have c11 := (K.out.vc (.head _)).cell1; have c12 := (K.out.vc (.head _)).cell2; have c13 := (K.out.vc (.head _)).cell3; have c14 := (K.out.vc (.head _)).cell4; have c15 := (K.out.vc (.head _)).cell5; have c16 := (K.out.vc (.head _)).cell6; have c17 := (K.out.vc (.head _)).cell7; have c18 := (K.out.vc (.head _)).cell8)
  go_wp2_with fail
  (refine ((rad_ref v.y _)).mono ?_; rintro e w2 ⟨rfl, hb⟩; replace K := Lib.hid (Keep.stays _ _ K.out hb); clear hb)
  ((try clear f1); (try clear c10 c11 c12 c13 c14 c15 c16 c17 c18))
  (have f1 := (K.out.vc (.head _)).warm; have c10 := (K.out.vc (.head _)).cell0; have c11 := (K.out.vc (.head _)).cell1; have c12 := (K.out.vc (.head _)).cell2; have c13 := (K.out.vc (.head _)).cell3; have c14 := (K.out.vc (.head _)).cell4; have c15 := (K.out.vc (.head _)).cell5; have c16 := (K.out.vc (.head _)).cell6; have c17 := (K.out.vc (.head _)).cell7; have c18 := (K.out.vc (.head _)).cell8)
  go_wp2_with fail
  (refine ((rad_ref v.z _)).mono ?_; rintro e w2 ⟨rfl, hb⟩; replace K := Lib.hid (Keep.stays _ _ K.out hb); clear hb)
  ((try clear f1); (try clear c10 c11 c12 c13 c14 c15 c16 c17 c18))
  go_wp2_with fail
  go_ret
  exact ⟨rfl, K.out.B⟩

set_option maxHeartbeats 1000000 in
set_option maxRecDepth 100000 in
theorem vin_ref (v u : Vc) (w : World) : Calls Try.prog 37 #[v.v, u.v] w fun e w' => e = .returned (.bool (vin v u)) ∧ Below w.heap.size w w' := by
  have K := Lib.hid (Keep.begin2 w (Obj.vec 36 v) (Obj.vec 36 u))
  go_enter Try.func37, Try.ntmps37
  go_wp2_with fail
  (refine ((in_ref v.x u.x _)).mono ?_; rintro e w2 ⟨rfl, hb⟩; replace K := Lib.hid (Keep.stays _ _ K.out hb); clear hb)
  (have f1 := (K.out.vc (.tail _ (.head _))).warm; have c10 := (K.out.vc (.tail _ (.head _))).cell0; have c11 := (K.out.vc (.tail _ (.head _))).cell1; have c12 := (K.out.vc (.tail _ (.head _))).cell2; have c13 := (K.out.vc (.tail _ (.head _))).cell3; have c14 := (K.out.vc (.tail _ (.head _))).cell4; have c15 := (K.out.vc (.tail _ (.head _))).cell5; have c16 := (K.out.vc (.tail _ (.head _))).cell6; have c17 := (K.out.vc (.tail _ (.head _))).cell7; have c18 := (K.out.vc (.tail _ (.head _))).cell8)
  (have f2 := (K.out.vc (.head _)).warm; have c20 := (K.out.vc (.head _)).cell0; have c21 := (K.out.vc (.head _)).cell1; have c22 := (K.out.vc (.head _)).cell2; have c23 := (K.out.vc (.head _)).cell3; have c24 := (K.out.vc (.head _)).cell4; have c25 := (K.out.vc (.head _)).cell5; have c26 := (K.out.vc (.head _)).cell6; have c27 := (K.out.vc (.head _)).cell7; have c28 := (K.out.vc (.head _)).cell8)
  go_wp2_with fail
  (refine ((in_ref v.y u.y _)).mono ?_; rintro e w2 ⟨rfl, hb⟩; replace K := Lib.hid (Keep.stays _ _ K.out hb); clear hb)
  ((try clear f1); (try clear c10 c11 c12 c13 c14 c15 c16 c17 c18))
  ((try clear f2); (try clear c20 c21 c22 c23 c24 c25 c26 c27 c28))
  (have f1 := (K.out.vc (.tail _ (.head _))).warm; have c10 := (K.out.vc (.tail _ (.head _))).cell0; have c11 := (K.out.vc (.tail _ (.head _))).cell1; have c12 := (K.out.vc (.tail _ (.head _))).cell2; have c13 := (K.out.vc (.tail _ (.head _))).cell3; have c14 := (K.out.vc (.tail _ (.head _))).cell4; have c15 := (K.out.vc (.tail _ (.head _))).cell5; have c16 := (K.out.vc (.tail _ (.head _))).cell6; have c17 := (K.out.vc (.tail _ (.head _))).cell7; have c18 := (K.out.vc (.tail _ (.head _))).cell8)
  (have f2 := (K.out.vc (.head _)).warm; have c20 := (K.out.vc (.head _)).cell0; have c21 := (K.out.vc (.head _)).cell1; have c22 := (K.out.vc (.head _)).cell2; have c23 := (K.out.vc (.head _)).cell3; have c24 := (K.out.vc (.head _)).cell4; have c25 := (K.out.vc (.head _)).cell5; have c26 := (K.out.vc (.head _)).cell6; have c27 := (K.out.vc (.head _)).cell7; have c28 := (K.out.vc (.head _)).cell8)
  go_wp2_with fail
  (refine ((in_ref v.z u.z _)).mono ?_; rintro e w2 ⟨rfl, hb⟩; replace K := Lib.hid (Keep.stays _ _ K.out hb); clear hb)
  ((try clear f1); (try clear c10 c11 c12 c13 c14 c15 c16 c17 c18))
  ((try clear f2); (try clear c20 c21 c22 c23 c24 c25 c26 c27 c28))
  have HV : Hid (vin v u = (inn v.x u.x && inn v.y u.y && inn v.z u.z)) := by show _ = _; rfl
  cases h1 : inn v.x u.x <;> cases h2 : inn v.y u.y <;> cases h3 : inn v.z u.z <;> (go_wp2_with fail; go_ret; exact ⟨ret_bool (by rw [HV.out, h1, h2, h3]; rfl), K.out.B⟩)

set_option maxHeartbeats 8000000 in
set_option maxRecDepth 100000 in
theorem VecTells_walk (v u : Vc) (a b c : Int) (h0 : (Lit.int .i64 a).wf = true) (h1 : (Lit.int .i64 b).wf = true) (h2 : (Lit.int .i64 c).wf = true) {w : World} :
    Calls Try.prog 5 #[v.v, u.v, .int .i64 a, .int .i64 b, .int .i64 c] w fun e w' => e = .returned (.bool true) ∧ Below w.heap.size w w' := by
  clear h0 h1 h2
  have K := Lib.hid (Keep.begin2 w (Obj.vec 25 v) (Obj.vec 25 u))
  go_enter Try.func5, Try.ntmps5
  go_upto_region 1 with fail
  (refine out_keep K.out ?_; clear K; intro W K; replace K := Lib.hid K)
  (go_wp2_with fail; (refine (((vawake_any _))).mono ?_; rintro e w2 ⟨rfl, hb⟩; replace K := Lib.hid (Keep.stays _ _ K.out hb); clear hb))
  (have f1 := (K.out.vc (.tail _ (.head _))).warm; have c10 := (K.out.vc (.tail _ (.head _))).cell0; have c11 := (K.out.vc (.tail _ (.head _))).cell1; have c12 := (K.out.vc (.tail _ (.head _))).cell2; have c13 := (K.out.vc (.tail _ (.head _))).cell3; have c14 := (K.out.vc (.tail _ (.head _))).cell4; have c15 := (K.out.vc (.tail _ (.head _))).cell5; have c16 := (K.out.vc (.tail _ (.head _))).cell6; have c17 := (K.out.vc (.tail _ (.head _))).cell7; have c18 := (K.out.vc (.tail _ (.head _))).cell8)
  go_wp2_with fail
  (refine ((vdoc_any v _)).mono ?_; rintro e w2 ⟨rfl, hb⟩; replace K := Lib.hid (Keep.stays _ _ K.out hb); clear hb)
  ((try clear f1); (try clear c10 c11 c12 c13 c14 c15 c16 c17 c18))
  (go_upto_region 3 with fail; replace K := Lib.hid (K.out.alloc (Obj.vec 36 v)); generalize w2.heap.size = gg at *; refine out_keep K.out ?_; clear K; intro W K; replace K := Lib.hid K; clear w2)
  (have f1 := (K.out.vc (.tail _ (.tail _ (.head _)))).warm; have c10 := (K.out.vc (.tail _ (.tail _ (.head _)))).cell0; have c11 := (K.out.vc (.tail _ (.tail _ (.head _)))).cell1; have c12 := (K.out.vc (.tail _ (.tail _ (.head _)))).cell2; have c13 := (K.out.vc (.tail _ (.tail _ (.head _)))).cell3; have c14 := (K.out.vc (.tail _ (.tail _ (.head _)))).cell4; have c15 := (K.out.vc (.tail _ (.tail _ (.head _)))).cell5; have c16 := (K.out.vc (.tail _ (.tail _ (.head _)))).cell6; have c17 := (K.out.vc (.tail _ (.tail _ (.head _)))).cell7; have c18 := (K.out.vc (.tail _ (.tail _ (.head _)))).cell8)
  (have f2 := (K.out.vc (.tail _ (.head _))).warm; have c20 := (K.out.vc (.tail _ (.head _))).cell0; have c21 := (K.out.vc (.tail _ (.head _))).cell1; have c22 := (K.out.vc (.tail _ (.head _))).cell2; have c23 := (K.out.vc (.tail _ (.head _))).cell3; have c24 := (K.out.vc (.tail _ (.head _))).cell4; have c25 := (K.out.vc (.tail _ (.head _))).cell5; have c26 := (K.out.vc (.tail _ (.head _))).cell6; have c27 := (K.out.vc (.tail _ (.head _))).cell7; have c28 := (K.out.vc (.tail _ (.head _))).cell8)
  go_wp2_with fail
  (refine ((vin_any v u _)).mono ?_; rintro e w2 ⟨rfl, hb⟩; replace K := Lib.hid (Keep.stays _ _ K.out hb); clear hb)
  ((try clear f1); (try clear c10 c11 c12 c13 c14 c15 c16 c17 c18))
  ((try clear f2); (try clear c20 c21 c22 c23 c24 c25 c26 c27 c28))
  (have f1 := (K.out.vc (.tail _ (.tail _ (.head _)))).warm; have c10 := (K.out.vc (.tail _ (.tail _ (.head _)))).cell0; have c11 := (K.out.vc (.tail _ (.tail _ (.head _)))).cell1; have c12 := (K.out.vc (.tail _ (.tail _ (.head _)))).cell2; have c13 := (K.out.vc (.tail _ (.tail _ (.head _)))).cell3; have c14 := (K.out.vc (.tail _ (.tail _ (.head _)))).cell4; have c15 := (K.out.vc (.tail _ (.tail _ (.head _)))).cell5; have c16 := (K.out.vc (.tail _ (.tail _ (.head _)))).cell6; have c17 := (K.out.vc (.tail _ (.tail _ (.head _)))).cell7; have c18 := (K.out.vc (.tail _ (.tail _ (.head _)))).cell8)
  go_wp2_with fail
  (refine ((vmid_any v _)).mono ?_; rintro e w2 ⟨rfl, hb⟩; replace K := Lib.hid (Keep.stays _ _ K.out hb); clear hb)
  ((try clear f1); (try clear c10 c11 c12 c13 c14 c15 c16 c17 c18))
  go_upto_region 5 with fail
  replace K := Lib.hid (K.out.alloc (Obj.arr (mid v.x) (mid v.y) (mid v.z)))
  generalize w2.heap.size = gg at *
  (refine out_keep K.out ?_; clear K; intro W K; replace K := Lib.hid K)
  (have f1 := (K.out.vc (.tail _ (.tail _ (.tail _ (.head _))))).warm; have c10 := (K.out.vc (.tail _ (.tail _ (.tail _ (.head _))))).cell0; have c11 := (K.out.vc (.tail _ (.tail _ (.tail _ (.head _))))).cell1; have c12 := (K.out.vc (.tail _ (.tail _ (.tail _ (.head _))))).cell2; have c13 := (K.out.vc (.tail _ (.tail _ (.tail _ (.head _))))).cell3; have c14 := (K.out.vc (.tail _ (.tail _ (.tail _ (.head _))))).cell4; have c15 := (K.out.vc (.tail _ (.tail _ (.tail _ (.head _))))).cell5; have c16 := (K.out.vc (.tail _ (.tail _ (.tail _ (.head _))))).cell6; have c17 := (K.out.vc (.tail _ (.tail _ (.tail _ (.head _))))).cell7; have c18 := (K.out.vc (.tail _ (.tail _ (.tail _ (.head _))))).cell8)
  go_wp2_with fail
  (refine ((vrad_any v _)).mono ?_; rintro e w2 ⟨rfl, hb⟩; replace K := Lib.hid (Keep.stays _ _ K.out hb); clear hb)
  ((try clear f1); (try clear c10 c11 c12 c13 c14 c15 c16 c17 c18))
  (go_wp2_with fail; (refine (((vof_any a b c _))).mono ?_; rintro e w2 ⟨rfl, hb⟩; replace K := Lib.hid (Keep.stays _ _ K.out hb); clear hb))
  go_wp2_with fail
  (refine ((vdoc_any (vof a b c) _)).mono ?_; rintro e w2 ⟨rfl, hb⟩; replace K := Lib.hid (Keep.stays _ _ K.out hb); clear hb)
  (go_upto_region 7 with fail; replace K := Lib.hid (K.out.alloc (Obj.vec 36 (vof a b c))); generalize w2.heap.size = gg at *; refine out_keep K.out ?_; clear K; intro W K; replace K := Lib.hid K; clear w2)
  go_wp2_with fail
  (refine region_quiet _ (by kernel_rfl) (by kernel_rfl) K.out.drew ?_; haveI ne := Keep.ne K)
  (have c10 := Keep.av0 K (.head _); have c11 := Keep.av1 K (.head _); have c12 := Keep.av2 K (.head _); have c13 := Keep.av3 K (.head _); have c14 := Keep.av4 K (.head _); have c15 := Keep.av5 K (.head _); have c16 := Keep.av6 K (.head _); have c17 := Keep.av7 K (.head _); have c18 := Keep.av8 K (.head _))
  obtain ⟨c20, c21, c22⟩ := Keep.aar K (.tail _ (.head _))
  (have c30 := Keep.av0 K (.tail _ (.tail _ (.head _))); have c31 := Keep.av1 K (.tail _ (.tail _ (.head _))); have c32 := Keep.av2 K (.tail _ (.tail _ (.head _))); have c33 := Keep.av3 K (.tail _ (.tail _ (.head _))); have c34 := Keep.av4 K (.tail _ (.tail _ (.head _))); have c35 := Keep.av5 K (.tail _ (.tail _ (.head _))); have c36 := Keep.av6 K (.tail _ (.tail _ (.head _))); have c37 := Keep.av7 K (.tail _ (.tail _ (.head _))); have c38 := Keep.av8 K (.tail _ (.tail _ (.head _))))
  (have c40 := Keep.av0 K (.tail _ (.tail _ (.tail _ (.head _)))); have c41 := Keep.av1 K (.tail _ (.tail _ (.tail _ (.head _)))); have c42 := Keep.av2 K (.tail _ (.tail _ (.tail _ (.head _)))); have c43 := Keep.av3 K (.tail _ (.tail _ (.tail _ (.head _)))); have c44 := Keep.av4 K (.tail _ (.tail _ (.tail _ (.head _)))); have c45 := Keep.av5 K (.tail _ (.tail _ (.tail _ (.head _)))); have c46 := Keep.av6 K (.tail _ (.tail _ (.tail _ (.head _)))); have c47 := Keep.av7 K (.tail _ (.tail _ (.tail _ (.head _)))); have c48 := Keep.av8 K (.tail _ (.tail _ (.tail _ (.head _)))))
  repeat (go_big_quiet_step (first | (go_at_call 22; with_reducible exact At.call Keep.stays (vdoc_any u _)) | (go_at_call 37; with_reducible exact At.call Keep.stays (vin_ref v u _)) | (go_at_call 38; with_reducible exact At.call Keep.stays (vmid_ref v _)) | (go_at_call 39; with_reducible exact At.call Keep.stays (vrad_ref v _)) | (go_at_call 40; with_reducible exact At.call Keep.stays (vof_ref a b c _))))
  (refine wpQuiet_nil ?_; clear ne K; intro W K; replace K := Lib.hid K)
  go_wp2_with fail
  go_ret
  exact ⟨rfl, K.out.B⟩
end Go.Proofs.Ytehjfjdopeadfaa
