/- The walk of the statement SpanMakes. -/
import Derived.Test.YtehjfjdopeadfaaSpRf
import Derived.Test.YtehjfjdopeadfaaSpIn
set_option linter.unusedVariables false
set_option linter.unusedSimpArgs false
namespace Go.Proofs.Ytehjfjdopeadfaa
open Go.RowKit SpMath

set_option maxHeartbeats 8000000 in
set_option maxRecDepth 100000 in
theorem SpanMakes_walk (xl xh : Int) (xa : Bool) (yl yh : Int) (ya : Bool) (n : Int) (h0 : (Lit.int .i64 xl).wf = true) (h1 : (Lit.int .i64 xh).wf = true) (h2 : (Lit.int .i64 yl).wf = true) (h3 : (Lit.int .i64 yh).wf = true) (h4 : (Lit.int .i64 n).wf = true) {w : World} :
    Calls Try.prog 14 #[.agg #[.int .i64 xl, .int .i64 xh, .bool xa], .agg #[.int .i64 yl, .int .i64 yh, .bool ya], .int .i64 n] w fun e w' => e = .returned (.bool true) ∧ Below w.heap.size w w' := by
  clear h0 h1 h2 h3
  have V := Lib.hid h4
  clear h4
  have K := Lib.hid (Keep.begin2 w (Obj.box ⟨xl, xh, xa⟩) (Obj.box ⟨yl, yh, ya⟩))
  generalize hx : (⟨xl, xh, xa⟩ : Sp) = x at K
  generalize hy : (⟨yl, yh, ya⟩ : Sp) = y at K
  have ex : (Value.agg #[.int .i64 xl, .int .i64 xh, .bool xa]) = x.v := by rw [← hx]
  have ey : (Value.agg #[.int .i64 yl, .int .i64 yh, .bool ya]) = y.v := by rw [← hy]
  rw [ex, ey]
  clear ex ey hx hy
  go_enter Try.func14, Try.ntmps14
  go_upto_region 1 with fail
  (refine out_keep K.out ?_; clear K; intro W K; replace K := Lib.hid K)
  (go_wp2_with fail; (refine (((awake_any _))).mono ?_; rintro e w2 ⟨rfl, hb⟩; replace K := Lib.hid (Keep.stays _ _ K.out hb); clear hb))
  (have f1 := (K.out.sp (.tail _ (.head _))).warm; have c10 := (K.out.sp (.tail _ (.head _))).cell0; have c11 := (K.out.sp (.tail _ (.head _))).cell1; have c12 := (K.out.sp (.tail _ (.head _))).cell2)
  go_wp2_with fail
  (refine ((doc_any x _)).mono ?_; rintro e w2 ⟨rfl, hb⟩; replace K := Lib.hid (Keep.stays _ _ K.out hb); clear hb)
  ((try clear f1); (try clear c10 c11 c12))
  (go_upto_region 3 with fail; replace K := Lib.hid (K.out.alloc (Obj.ref x)); generalize w2.heap.size = gg at *; refine out_keep K.out ?_; clear K; intro W K; replace K := Lib.hid K; clear w2)
  (have f2 := (K.out.sp (.tail _ (.head _))).warm; have c20 := (K.out.sp (.tail _ (.head _))).cell0; have c21 := (K.out.sp (.tail _ (.head _))).cell1; have c22 := (K.out.sp (.tail _ (.head _))).cell2)
  go_wp2_with fail
  (refine ((doc_any y _)).mono ?_; rintro e w2 ⟨rfl, hb⟩; replace K := Lib.hid (Keep.stays _ _ K.out hb); clear hb)
  ((try clear f2); (try clear c20 c21 c22))
  (go_upto_region 4 with fail; replace K := Lib.hid (K.out.alloc (Obj.ref y)); generalize w2.heap.size = gg at *; refine out_keep K.out ?_; clear K; intro W K; replace K := Lib.hid K; clear w2)
  (have f1 := (K.out.sp (.tail _ (.tail _ (.tail _ (.head _))))).warm; have c10 := (K.out.sp (.tail _ (.tail _ (.tail _ (.head _))))).cell0; have c11 := (K.out.sp (.tail _ (.tail _ (.tail _ (.head _))))).cell1; have c12 := (K.out.sp (.tail _ (.tail _ (.tail _ (.head _))))).cell2)
  (have f2 := (K.out.sp (.tail _ (.tail _ (.head _)))).warm; have c20 := (K.out.sp (.tail _ (.tail _ (.head _)))).cell0; have c21 := (K.out.sp (.tail _ (.tail _ (.head _)))).cell1; have c22 := (K.out.sp (.tail _ (.tail _ (.head _)))).cell2)
  go_wp2_with fail
  (refine ((of_any x.lo y.hi _)).mono ?_; rintro e w2 ⟨rfl, hb⟩; replace K := Lib.hid (Keep.stays _ _ K.out hb); clear hb)
  ((try clear f1); (try clear c10 c11 c12))
  ((try clear f2); (try clear c20 c21 c22))
  go_wp2_with fail
  (refine ((doc_any (of x.lo y.hi) _)).mono ?_; rintro e w2 ⟨rfl, hb⟩; replace K := Lib.hid (Keep.stays _ _ K.out hb); clear hb)
  (go_upto_region 5 with fail; replace K := Lib.hid (K.out.alloc (Obj.ref (of x.lo y.hi))); generalize w2.heap.size = gg at *; refine out_keep K.out ?_; clear K; intro W K; replace K := Lib.hid K; clear w2)
  (have f1 := (K.out.sp (.tail _ (.tail _ (.tail _ (.tail _ (.head _)))))).warm; have c10 := (K.out.sp (.tail _ (.tail _ (.tail _ (.tail _ (.head _)))))).cell0; have c11 := (K.out.sp (.tail _ (.tail _ (.tail _ (.tail _ (.head _)))))).cell1; have c12 := (K.out.sp (.tail _ (.tail _ (.tail _ (.tail _ (.head _)))))).cell2)
  (have f2 := (K.out.sp (.tail _ (.tail _ (.tail _ (.head _))))).warm; have c20 := (K.out.sp (.tail _ (.tail _ (.tail _ (.head _))))).cell0; have c21 := (K.out.sp (.tail _ (.tail _ (.tail _ (.head _))))).cell1; have c22 := (K.out.sp (.tail _ (.tail _ (.tail _ (.head _))))).cell2)
  go_wp2_with fail
  (refine ((has_any x n V.out _)).mono ?_; rintro e w2 ⟨rfl, hb⟩; replace K := Lib.hid (Keep.stays _ _ K.out hb); clear hb)
  ((try clear f1); (try clear c10 c11 c12))
  ((try clear f2); (try clear c20 c21 c22))
  (have f1 := (K.out.sp (.tail _ (.tail _ (.tail _ (.tail _ (.head _)))))).warm; have c10 := (K.out.sp (.tail _ (.tail _ (.tail _ (.tail _ (.head _)))))).cell0; have c11 := (K.out.sp (.tail _ (.tail _ (.tail _ (.tail _ (.head _)))))).cell1; have c12 := (K.out.sp (.tail _ (.tail _ (.tail _ (.tail _ (.head _)))))).cell2)
  (have f2 := (K.out.sp (.tail _ (.tail _ (.tail _ (.head _))))).warm; have c20 := (K.out.sp (.tail _ (.tail _ (.tail _ (.head _))))).cell0; have c21 := (K.out.sp (.tail _ (.tail _ (.tail _ (.head _))))).cell1; have c22 := (K.out.sp (.tail _ (.tail _ (.tail _ (.head _))))).cell2)
  go_wp2_with fail
  (refine ((in_any x y _)).mono ?_; rintro e w2 ⟨rfl, hb⟩; replace K := Lib.hid (Keep.stays _ _ K.out hb); clear hb)
  ((try clear f1); (try clear c10 c11 c12))
  ((try clear f2); (try clear c20 c21 c22))
  (have f1 := (K.out.sp (.tail _ (.tail _ (.tail _ (.tail _ (.head _)))))).warm; have c10 := (K.out.sp (.tail _ (.tail _ (.tail _ (.tail _ (.head _)))))).cell0; have c11 := (K.out.sp (.tail _ (.tail _ (.tail _ (.tail _ (.head _)))))).cell1; have c12 := (K.out.sp (.tail _ (.tail _ (.tail _ (.tail _ (.head _)))))).cell2)
  (have f2 := (K.out.sp (.tail _ (.tail _ (.tail _ (.head _))))).warm; have c20 := (K.out.sp (.tail _ (.tail _ (.tail _ (.head _))))).cell0; have c21 := (K.out.sp (.tail _ (.tail _ (.tail _ (.head _))))).cell1; have c22 := (K.out.sp (.tail _ (.tail _ (.tail _ (.head _))))).cell2)
  go_wp2_with fail
  (refine ((join_any x y _)).mono ?_; rintro e w2 ⟨rfl, hb⟩; replace K := Lib.hid (Keep.stays _ _ K.out hb); clear hb)
  ((try clear f1); (try clear c10 c11 c12))
  ((try clear f2); (try clear c20 c21 c22))
  go_wp2_with fail
  (refine ((doc_any (join x y) _)).mono ?_; rintro e w2 ⟨rfl, hb⟩; replace K := Lib.hid (Keep.stays _ _ K.out hb); clear hb)
  (go_upto_region 8 with fail; replace K := Lib.hid (K.out.alloc (Obj.ref (join x y))); generalize w2.heap.size = gg at *; refine out_keep K.out ?_; clear K; intro W K; replace K := Lib.hid K; clear w2)
  (have f1 := (K.out.sp (.tail _ (.tail _ (.tail _ (.tail _ (.tail _ (.head _))))))).warm; have c10 := (K.out.sp (.tail _ (.tail _ (.tail _ (.tail _ (.tail _ (.head _))))))).cell0; have c11 := (K.out.sp (.tail _ (.tail _ (.tail _ (.tail _ (.tail _ (.head _))))))).cell1; have c12 := (K.out.sp (.tail _ (.tail _ (.tail _ (.tail _ (.tail _ (.head _))))))).cell2)
  (have f2 := (K.out.sp (.tail _ (.tail _ (.tail _ (.tail _ (.head _)))))).warm; have c20 := (K.out.sp (.tail _ (.tail _ (.tail _ (.tail _ (.head _)))))).cell0; have c21 := (K.out.sp (.tail _ (.tail _ (.tail _ (.tail _ (.head _)))))).cell1; have c22 := (K.out.sp (.tail _ (.tail _ (.tail _ (.tail _ (.head _)))))).cell2)
  go_wp2_with fail
  (refine ((meet_any x y _)).mono ?_; rintro e w2 ⟨rfl, hb⟩; replace K := Lib.hid (Keep.stays _ _ K.out hb); clear hb)
  ((try clear f1); (try clear c10 c11 c12))
  ((try clear f2); (try clear c20 c21 c22))
  (go_upto_region 9 with fail; replace K := Lib.hid (K.out.alloc (Obj.box ((meet x y).1))); generalize w2.heap.size = gg at *; refine out_keep K.out ?_; clear K; intro W K; replace K := Lib.hid K; clear w2)
  (have f1 := (K.out.rf (.tail _ (.tail _ (.tail _ (.tail _ (.head _)))))).warm; have c10 := (K.out.rf (.tail _ (.tail _ (.tail _ (.tail _ (.head _)))))).cell0; have c11 := (K.out.rf (.tail _ (.tail _ (.tail _ (.tail _ (.head _)))))).cell1; have c12 := (K.out.rf (.tail _ (.tail _ (.tail _ (.tail _ (.head _)))))).cell2)
  (have f2 := (K.out.rf (.tail _ (.tail _ (.tail _ (.head _))))).warm; have c20 := (K.out.rf (.tail _ (.tail _ (.tail _ (.head _))))).cell0; have c21 := (K.out.rf (.tail _ (.tail _ (.tail _ (.head _))))).cell1; have c22 := (K.out.rf (.tail _ (.tail _ (.tail _ (.head _))))).cell2)
  go_wp2_with fail
  (refine ((meet_ref x y _)).mono ?_; rintro e w2 ⟨rfl, hb⟩; replace K := Lib.hid (Keep.stays _ _ K.out hb); clear hb)
  ((try clear f1); (try clear c10 c11 c12))
  ((try clear f2); (try clear c20 c21 c22))
  (go_upto_region 10 with fail; replace K := Lib.hid (K.out.alloc (Obj.ref ((meet x y).1))); generalize w2.heap.size = gg at *; refine out_keep K.out ?_; clear K; intro W K; replace K := Lib.hid K; clear w2)
  (have f1 := (K.out.sp (.tail _ (.tail _ (.tail _ (.tail _ (.tail _ (.tail _ (.tail _ (.head _))))))))).warm; have c10 := (K.out.sp (.tail _ (.tail _ (.tail _ (.tail _ (.tail _ (.tail _ (.tail _ (.head _))))))))).cell0; have c11 := (K.out.sp (.tail _ (.tail _ (.tail _ (.tail _ (.tail _ (.tail _ (.tail _ (.head _))))))))).cell1; have c12 := (K.out.sp (.tail _ (.tail _ (.tail _ (.tail _ (.tail _ (.tail _ (.tail _ (.head _))))))))).cell2)
  go_wp2_with fail
  (refine ((mid_any x _)).mono ?_; rintro e w2 ⟨rfl, hb⟩; replace K := Lib.hid (Keep.stays _ _ K.out hb); clear hb)
  ((try clear f1); (try clear c10 c11 c12))
  (have f1 := (K.out.sp (.tail _ (.tail _ (.tail _ (.tail _ (.tail _ (.tail _ (.tail _ (.head _))))))))).warm; have c10 := (K.out.sp (.tail _ (.tail _ (.tail _ (.tail _ (.tail _ (.tail _ (.tail _ (.head _))))))))).cell0; have c11 := (K.out.sp (.tail _ (.tail _ (.tail _ (.tail _ (.tail _ (.tail _ (.tail _ (.head _))))))))).cell1; have c12 := (K.out.sp (.tail _ (.tail _ (.tail _ (.tail _ (.tail _ (.tail _ (.tail _ (.head _))))))))).cell2)
  go_wp2_with fail
  (refine ((rad_any x _)).mono ?_; rintro e w2 ⟨rfl, hb⟩; replace K := Lib.hid (Keep.stays _ _ K.out hb); clear hb)
  ((try clear f1); (try clear c10 c11 c12))
  go_wp2_with fail
  (refine region_quiet _ (by kernel_rfl) (by kernel_rfl) K.out.drew ?_; haveI ne := Keep.ne K)
  (have c10 := Keep.ar0 K (.head _); have c11 := Keep.ar1 K (.head _); have c12 := Keep.ar2 K (.head _))
  (have c20 := Keep.at0 K (.tail _ (.head _)); have c21 := Keep.at1 K (.tail _ (.head _)); have c22 := Keep.at2 K (.tail _ (.head _)))
  (have c30 := Keep.ar0 K (.tail _ (.tail _ (.head _))); have c31 := Keep.ar1 K (.tail _ (.tail _ (.head _))); have c32 := Keep.ar2 K (.tail _ (.tail _ (.head _))))
  (have c40 := Keep.ar0 K (.tail _ (.tail _ (.tail _ (.head _)))); have c41 := Keep.ar1 K (.tail _ (.tail _ (.tail _ (.head _)))); have c42 := Keep.ar2 K (.tail _ (.tail _ (.tail _ (.head _)))))
  (have c50 := Keep.ar0 K (.tail _ (.tail _ (.tail _ (.tail _ (.head _))))); have c51 := Keep.ar1 K (.tail _ (.tail _ (.tail _ (.tail _ (.head _))))); have c52 := Keep.ar2 K (.tail _ (.tail _ (.tail _ (.tail _ (.head _))))))
  (have c60 := Keep.ar0 K (.tail _ (.tail _ (.tail _ (.tail _ (.tail _ (.head _)))))); have c61 := Keep.ar1 K (.tail _ (.tail _ (.tail _ (.tail _ (.tail _ (.head _)))))); have c62 := Keep.ar2 K (.tail _ (.tail _ (.tail _ (.tail _ (.tail _ (.head _)))))))
  (have c70 := Keep.at0 K (.tail _ (.tail _ (.tail _ (.tail _ (.tail _ (.tail _ (.head _))))))); have c71 := Keep.at1 K (.tail _ (.tail _ (.tail _ (.tail _ (.tail _ (.tail _ (.head _))))))); have c72 := Keep.at2 K (.tail _ (.tail _ (.tail _ (.tail _ (.tail _ (.tail _ (.head _))))))))
  (have c80 := Keep.at0 K (.tail _ (.tail _ (.tail _ (.tail _ (.tail _ (.tail _ (.tail _ (.head _)))))))); have c81 := Keep.at1 K (.tail _ (.tail _ (.tail _ (.tail _ (.tail _ (.tail _ (.tail _ (.head _)))))))); have c82 := Keep.at2 K (.tail _ (.tail _ (.tail _ (.tail _ (.tail _ (.tail _ (.tail _ (.head _)))))))))
  repeat (go_big_quiet_step (first | (go_at_call 65; with_reducible exact At.call Keep.stays (of_ref _ _ _)) | (go_at_call 66; with_reducible exact At.call Keep.stays (has_ref x n V.out _)) | (go_at_call 67; with_reducible exact At.call Keep.stays (in_ref x y _)) | (go_at_call 68; with_reducible exact At.call Keep.stays (join_ref x y _)) | (go_at_call 48; with_reducible exact At.call Keep.stays (doc_any (meet x y).1 _)) | (go_at_call 69; with_reducible exact At.call Keep.stays (mid_ref x _)) | (go_at_call 70; with_reducible exact At.call Keep.stays (rad_ref x _))))
  (refine wpQuiet_nil ?_; clear ne K; intro W K; replace K := Lib.hid K)
  go_wp2_with fail
  go_ret
  exact ⟨rfl, K.out.B⟩
end Go.Proofs.Ytehjfjdopeadfaa
