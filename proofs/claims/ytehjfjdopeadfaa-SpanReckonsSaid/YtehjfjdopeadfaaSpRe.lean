/- The walk of the statement SpanReckons. -/
import Derived.Test.YtehjfjdopeadfaaRe
import Derived.Test.YtehjfjdopeadfaaRh
set_option linter.unusedVariables false
set_option linter.unusedSimpArgs false
namespace Go.Proofs.Ytehjfjdopeadfaa
open Go.RowKit SpMath

set_option maxHeartbeats 8000000 in
set_option maxRecDepth 100000 in
theorem SpanReckons_walk (xl xh : Int) (xa : Bool) (yl yh : Int) (ya : Bool) (h0 : (Lit.int .i64 xl).wf = true) (h1 : (Lit.int .i64 xh).wf = true) (h2 : (Lit.int .i64 yl).wf = true) (h3 : (Lit.int .i64 yh).wf = true) {w : World} :
    Calls Try.prog 10 #[.agg #[.int .i64 xl, .int .i64 xh, .bool xa], .agg #[.int .i64 yl, .int .i64 yh, .bool ya]] w fun e w' => e = .returned (.bool true) ∧ Below w.heap.size w w' := by
  clear h0 h1 h2 h3
  have K := Lib.hid (Keep.begin2 w (Obj.box ⟨xl, xh, xa⟩) (Obj.box ⟨yl, yh, ya⟩))
  generalize hx : (⟨xl, xh, xa⟩ : Sp) = x at K
  generalize hy : (⟨yl, yh, ya⟩ : Sp) = y at K
  have ex : (Value.agg #[.int .i64 xl, .int .i64 xh, .bool xa]) = x.v := by rw [← hx]
  have ey : (Value.agg #[.int .i64 yl, .int .i64 yh, .bool ya]) = y.v := by rw [← hy]
  rw [ex, ey]
  clear ex ey hx hy
  go_enter Try.func10, Try.ntmps10
  go_upto_region 1 with fail
  (refine out_keep K.out ?_; clear K; intro W K; replace K := Lib.hid K)
  (go_wp2_with fail; (refine (((awake_any _))).mono ?_; rintro e w2 ⟨rfl, hb⟩; replace K := Lib.hid (Keep.stays _ _ K.out hb); clear hb))
  (have f1 := (K.out.sp (.tail _ (.head _))).warm; have c10 := (K.out.sp (.tail _ (.head _))).cell0; have c11 := (K.out.sp (.tail _ (.head _))).cell1; have c12 := (K.out.sp (.tail _ (.head _))).cell2)
  go_wp2_with fail
  (refine ((doc_any x _)).mono ?_; rintro e w2 ⟨rfl, hb⟩; replace K := Lib.hid (Keep.stays _ _ K.out hb); clear hb)
  ((try clear f1); (try clear c10 c11 c12))
  (go_upto_region 3 with fail; replace K := Lib.hid (K.out.alloc (Obj.ref x)); generalize w2.heap.size = gg at *; refine out_keep K.out ?_; clear K; intro W K; replace K := Lib.hid K; clear w2)
  (have f2 := (K.out.sp (.tail _ (.head _))).warm; have c20 := (K.out.sp (.tail _ (.head _))).cell0; have c21 := (K.out.sp (.tail _ (.head _))).cell1; have c22 := (K.out.sp (.tail _ (.head _))).cell2)
  go_wp2_with fail
  (refine ((doc_any y _)).mono ?_; rintro e w2 ⟨rfl, hb⟩; replace K := Lib.hid (Keep.stays _ _ K.out hb); clear hb)
  ((try clear f2); (try clear c20 c21 c22))
  (go_upto_region 4 with fail; replace K := Lib.hid (K.out.alloc (Obj.ref y)); generalize w2.heap.size = gg at *; refine out_keep K.out ?_; clear K; intro W K; replace K := Lib.hid K; clear w2)
  (have f1 := (K.out.sp (.tail _ (.tail _ (.tail _ (.head _))))).warm; have c10 := (K.out.sp (.tail _ (.tail _ (.tail _ (.head _))))).cell0; have c11 := (K.out.sp (.tail _ (.tail _ (.tail _ (.head _))))).cell1; have c12 := (K.out.sp (.tail _ (.tail _ (.tail _ (.head _))))).cell2)
  (have f2 := (K.out.sp (.tail _ (.tail _ (.head _)))).warm; have c20 := (K.out.sp (.tail _ (.tail _ (.head _)))).cell0; have c21 := (K.out.sp (.tail _ (.tail _ (.head _)))).cell1; have c22 := (K.out.sp (.tail _ (.tail _ (.head _)))).cell2)
  go_wp2_with fail
  (refine ((add_any x y _)).mono ?_; rintro e w2 ⟨rfl, hb⟩; replace K := Lib.hid (Keep.stays _ _ K.out hb); clear hb)
  ((try clear f1); (try clear c10 c11 c12))
  ((try clear f2); (try clear c20 c21 c22))
  go_wp2_with fail
  (refine ((doc_any (add x y) _)).mono ?_; rintro e w2 ⟨rfl, hb⟩; replace K := Lib.hid (Keep.stays _ _ K.out hb); clear hb)
  (go_upto_region 5 with fail; replace K := Lib.hid (K.out.alloc (Obj.ref (add x y))); generalize w2.heap.size = gg at *; refine out_keep K.out ?_; clear K; intro W K; replace K := Lib.hid K; clear w2)
  (have f1 := (K.out.sp (.tail _ (.tail _ (.tail _ (.tail _ (.head _)))))).warm; have c10 := (K.out.sp (.tail _ (.tail _ (.tail _ (.tail _ (.head _)))))).cell0; have c11 := (K.out.sp (.tail _ (.tail _ (.tail _ (.tail _ (.head _)))))).cell1; have c12 := (K.out.sp (.tail _ (.tail _ (.tail _ (.tail _ (.head _)))))).cell2)
  (have f2 := (K.out.sp (.tail _ (.tail _ (.tail _ (.head _))))).warm; have c20 := (K.out.sp (.tail _ (.tail _ (.tail _ (.head _))))).cell0; have c21 := (K.out.sp (.tail _ (.tail _ (.tail _ (.head _))))).cell1; have c22 := (K.out.sp (.tail _ (.tail _ (.tail _ (.head _))))).cell2)
  go_wp2_with fail
  (refine ((sub_any x y _)).mono ?_; rintro e w2 ⟨rfl, hb⟩; replace K := Lib.hid (Keep.stays _ _ K.out hb); clear hb)
  ((try clear f1); (try clear c10 c11 c12))
  ((try clear f2); (try clear c20 c21 c22))
  go_wp2_with fail
  (refine ((doc_any (sub x y) _)).mono ?_; rintro e w2 ⟨rfl, hb⟩; replace K := Lib.hid (Keep.stays _ _ K.out hb); clear hb)
  (go_upto_region 6 with fail; replace K := Lib.hid (K.out.alloc (Obj.ref (sub x y))); generalize w2.heap.size = gg at *; refine out_keep K.out ?_; clear K; intro W K; replace K := Lib.hid K; clear w2)
  (have f1 := (K.out.sp (.tail _ (.tail _ (.tail _ (.tail _ (.tail _ (.head _))))))).warm; have c10 := (K.out.sp (.tail _ (.tail _ (.tail _ (.tail _ (.tail _ (.head _))))))).cell0; have c11 := (K.out.sp (.tail _ (.tail _ (.tail _ (.tail _ (.tail _ (.head _))))))).cell1; have c12 := (K.out.sp (.tail _ (.tail _ (.tail _ (.tail _ (.tail _ (.head _))))))).cell2)
  (have f2 := (K.out.sp (.tail _ (.tail _ (.tail _ (.tail _ (.head _)))))).warm; have c20 := (K.out.sp (.tail _ (.tail _ (.tail _ (.tail _ (.head _)))))).cell0; have c21 := (K.out.sp (.tail _ (.tail _ (.tail _ (.tail _ (.head _)))))).cell1; have c22 := (K.out.sp (.tail _ (.tail _ (.tail _ (.tail _ (.head _)))))).cell2)
  go_wp2_with fail
  (refine ((mul_any x y _)).mono ?_; rintro e w2 ⟨rfl, hb⟩; replace K := Lib.hid (Keep.stays _ _ K.out hb); clear hb)
  ((try clear f1); (try clear c10 c11 c12))
  ((try clear f2); (try clear c20 c21 c22))
  go_wp2_with fail
  (refine ((doc_any (mul x y) _)).mono ?_; rintro e w2 ⟨rfl, hb⟩; replace K := Lib.hid (Keep.stays _ _ K.out hb); clear hb)
  (go_upto_region 7 with fail; replace K := Lib.hid (K.out.alloc (Obj.ref (mul x y))); generalize w2.heap.size = gg at *; refine out_keep K.out ?_; clear K; intro W K; replace K := Lib.hid K; clear w2)
  (have f1 := (K.out.sp (.tail _ (.tail _ (.tail _ (.tail _ (.tail _ (.tail _ (.head _)))))))).warm; have c10 := (K.out.sp (.tail _ (.tail _ (.tail _ (.tail _ (.tail _ (.tail _ (.head _)))))))).cell0; have c11 := (K.out.sp (.tail _ (.tail _ (.tail _ (.tail _ (.tail _ (.tail _ (.head _)))))))).cell1; have c12 := (K.out.sp (.tail _ (.tail _ (.tail _ (.tail _ (.tail _ (.tail _ (.head _)))))))).cell2)
  (have f2 := (K.out.sp (.tail _ (.tail _ (.tail _ (.tail _ (.tail _ (.head _))))))).warm; have c20 := (K.out.sp (.tail _ (.tail _ (.tail _ (.tail _ (.tail _ (.head _))))))).cell0; have c21 := (K.out.sp (.tail _ (.tail _ (.tail _ (.tail _ (.tail _ (.head _))))))).cell1; have c22 := (K.out.sp (.tail _ (.tail _ (.tail _ (.tail _ (.tail _ (.head _))))))).cell2)
  go_wp2_with fail
  (refine ((div_any x y _)).mono ?_; rintro e w2 ⟨rfl, hb⟩; replace K := Lib.hid (Keep.stays _ _ K.out hb); clear hb)
  ((try clear f1); (try clear c10 c11 c12))
  ((try clear f2); (try clear c20 c21 c22))
  go_wp2_with fail
  (refine ((doc_any (div x y) _)).mono ?_; rintro e w2 ⟨rfl, hb⟩; replace K := Lib.hid (Keep.stays _ _ K.out hb); clear hb)
  (go_upto_region 8 with fail; replace K := Lib.hid (K.out.alloc (Obj.ref (div x y))); generalize w2.heap.size = gg at *; refine out_keep K.out ?_; clear K; intro W K; replace K := Lib.hid K; clear w2)
  (refine region_quiet _ (by kernel_rfl) (by kernel_rfl) K.out.drew ?_; haveI ne := Keep.ne K)
  (have c10 := Keep.ar0 K (.head _); have c11 := Keep.ar1 K (.head _); have c12 := Keep.ar2 K (.head _))
  (have c20 := Keep.ar0 K (.tail _ (.head _)); have c21 := Keep.ar1 K (.tail _ (.head _)); have c22 := Keep.ar2 K (.tail _ (.head _)))
  (have c30 := Keep.ar0 K (.tail _ (.tail _ (.head _))); have c31 := Keep.ar1 K (.tail _ (.tail _ (.head _))); have c32 := Keep.ar2 K (.tail _ (.tail _ (.head _))))
  (have c40 := Keep.ar0 K (.tail _ (.tail _ (.tail _ (.head _)))); have c41 := Keep.ar1 K (.tail _ (.tail _ (.tail _ (.head _)))); have c42 := Keep.ar2 K (.tail _ (.tail _ (.tail _ (.head _)))))
  (have c50 := Keep.ar0 K (.tail _ (.tail _ (.tail _ (.tail _ (.head _))))); have c51 := Keep.ar1 K (.tail _ (.tail _ (.tail _ (.tail _ (.head _))))); have c52 := Keep.ar2 K (.tail _ (.tail _ (.tail _ (.tail _ (.head _))))))
  (have c60 := Keep.ar0 K (.tail _ (.tail _ (.tail _ (.tail _ (.tail _ (.head _)))))); have c61 := Keep.ar1 K (.tail _ (.tail _ (.tail _ (.tail _ (.tail _ (.head _)))))); have c62 := Keep.ar2 K (.tail _ (.tail _ (.tail _ (.tail _ (.tail _ (.head _)))))))
  repeat (go_big_quiet_step (first | (go_at_call 51; with_reducible exact At.call Keep.stays (add_ref x y _)) | (go_at_call 52; with_reducible exact At.call Keep.stays (sub_ref x y _)) | (go_at_call 53; with_reducible exact At.call Keep.stays (mul_ref x y _)) | (go_at_call 54; with_reducible exact At.call Keep.stays (div_ref x y _))))
  (refine wpQuiet_nil ?_; clear ne K; intro W K; replace K := Lib.hid K)
  go_wp2_with fail
  go_ret
  exact ⟨rfl, K.out.B⟩
end Go.Proofs.Ytehjfjdopeadfaa
