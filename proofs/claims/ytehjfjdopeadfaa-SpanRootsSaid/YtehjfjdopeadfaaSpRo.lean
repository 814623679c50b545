/- The walk of the statement SpanRoots. -/
import Derived.Test.YtehjfjdopeadfaaRj
set_option linter.unusedVariables false
set_option linter.unusedSimpArgs false
namespace Go.Proofs.Ytehjfjdopeadfaa
open Go.RowKit SpMath

set_option maxHeartbeats 8000000 in
set_option maxRecDepth 100000 in
theorem SpanRoots_walk (xl xh : Int) (xa : Bool) (h0 : (Lit.int .i64 xl).wf = true) (h1 : (Lit.int .i64 xh).wf = true) {w : World} :
    Calls Try.prog 11 #[.agg #[.int .i64 xl, .int .i64 xh, .bool xa]] w fun e w' => e = .returned (.bool true) ∧ Below w.heap.size w w' := by
  clear h0 h1
  have K := Lib.hid (Keep.begin1 w (Obj.box ⟨xl, xh, xa⟩))
  generalize hx : (⟨xl, xh, xa⟩ : Sp) = x at K
  have ex : (Value.agg #[.int .i64 xl, .int .i64 xh, .bool xa]) = x.v := by rw [← hx]
  rw [ex]
  clear ex hx
  go_enter Try.func11, Try.ntmps11
  go_upto_region 1 with fail
  (refine out_keep K.out ?_; clear K; intro W K; replace K := Lib.hid K)
  (go_wp2_with fail; (refine (((awake_any _))).mono ?_; rintro e w2 ⟨rfl, hb⟩; replace K := Lib.hid (Keep.stays _ _ K.out hb); clear hb))
  (have f1 := (K.out.sp (.head _)).warm; have c10 := (K.out.sp (.head _)).cell0; have c11 := (K.out.sp (.head _)).cell1; have c12 := (K.out.sp (.head _)).cell2)
  go_wp2_with fail
  (refine ((doc_any x _)).mono ?_; rintro e w2 ⟨rfl, hb⟩; replace K := Lib.hid (Keep.stays _ _ K.out hb); clear hb)
  ((try clear f1); (try clear c10 c11 c12))
  (go_upto_region 3 with fail; replace K := Lib.hid (K.out.alloc (Obj.ref x)); generalize w2.heap.size = gg at *; refine out_keep K.out ?_; clear K; intro W K; replace K := Lib.hid K; clear w2)
  (have f1 := (K.out.sp (.tail _ (.head _))).warm; have c10 := (K.out.sp (.tail _ (.head _))).cell0; have c11 := (K.out.sp (.tail _ (.head _))).cell1; have c12 := (K.out.sp (.tail _ (.head _))).cell2)
  go_wp2_with fail
  (refine ((neg_any x _)).mono ?_; rintro e w2 ⟨rfl, hb⟩; replace K := Lib.hid (Keep.stays _ _ K.out hb); clear hb)
  ((try clear f1); (try clear c10 c11 c12))
  go_wp2_with fail
  (refine ((doc_any (neg x) _)).mono ?_; rintro e w2 ⟨rfl, hb⟩; replace K := Lib.hid (Keep.stays _ _ K.out hb); clear hb)
  (go_upto_region 4 with fail; replace K := Lib.hid (K.out.alloc (Obj.ref (neg x))); generalize w2.heap.size = gg at *; refine out_keep K.out ?_; clear K; intro W K; replace K := Lib.hid K; clear w2)
  (have f1 := (K.out.sp (.tail _ (.tail _ (.head _)))).warm; have c10 := (K.out.sp (.tail _ (.tail _ (.head _)))).cell0; have c11 := (K.out.sp (.tail _ (.tail _ (.head _)))).cell1; have c12 := (K.out.sp (.tail _ (.tail _ (.head _)))).cell2)
  go_wp2_with fail
  (refine ((sqr_any x _)).mono ?_; rintro e w2 ⟨rfl, hb⟩; replace K := Lib.hid (Keep.stays _ _ K.out hb); clear hb)
  ((try clear f1); (try clear c10 c11 c12))
  go_wp2_with fail
  (refine ((doc_any (sqr x) _)).mono ?_; rintro e w2 ⟨rfl, hb⟩; replace K := Lib.hid (Keep.stays _ _ K.out hb); clear hb)
  (go_upto_region 5 with fail; replace K := Lib.hid (K.out.alloc (Obj.ref (sqr x))); generalize w2.heap.size = gg at *; refine out_keep K.out ?_; clear K; intro W K; replace K := Lib.hid K; clear w2)
  (have f1 := (K.out.sp (.tail _ (.tail _ (.tail _ (.head _))))).warm; have c10 := (K.out.sp (.tail _ (.tail _ (.tail _ (.head _))))).cell0; have c11 := (K.out.sp (.tail _ (.tail _ (.tail _ (.head _))))).cell1; have c12 := (K.out.sp (.tail _ (.tail _ (.tail _ (.head _))))).cell2)
  go_wp2_with fail
  (refine ((sqrt_any x _)).mono ?_; rintro e w2 ⟨rfl, hb⟩; replace K := Lib.hid (Keep.stays _ _ K.out hb); clear hb)
  ((try clear f1); (try clear c10 c11 c12))
  go_wp2_with fail
  (refine ((doc_any (sqrt x) _)).mono ?_; rintro e w2 ⟨rfl, hb⟩; replace K := Lib.hid (Keep.stays _ _ K.out hb); clear hb)
  (go_upto_region 6 with fail; replace K := Lib.hid (K.out.alloc (Obj.ref (sqrt x))); generalize w2.heap.size = gg at *; refine out_keep K.out ?_; clear K; intro W K; replace K := Lib.hid K; clear w2)
  (refine region_quiet _ (by kernel_rfl) (by kernel_rfl) K.out.drew ?_; haveI ne := Keep.ne K)
  (have c10 := Keep.ar0 K (.head _); have c11 := Keep.ar1 K (.head _); have c12 := Keep.ar2 K (.head _))
  (have c20 := Keep.ar0 K (.tail _ (.head _)); have c21 := Keep.ar1 K (.tail _ (.head _)); have c22 := Keep.ar2 K (.tail _ (.head _)))
  (have c30 := Keep.ar0 K (.tail _ (.tail _ (.head _))); have c31 := Keep.ar1 K (.tail _ (.tail _ (.head _))); have c32 := Keep.ar2 K (.tail _ (.tail _ (.head _))))
  (have c40 := Keep.ar0 K (.tail _ (.tail _ (.tail _ (.head _)))); have c41 := Keep.ar1 K (.tail _ (.tail _ (.tail _ (.head _)))); have c42 := Keep.ar2 K (.tail _ (.tail _ (.tail _ (.head _)))))
  repeat (go_big_quiet_step (first | (go_at_call 57; with_reducible exact At.call Keep.stays (neg_ref x _)) | (go_at_call 58; with_reducible exact At.call Keep.stays (sqr_ref x _)) | (go_at_call 59; with_reducible exact At.call Keep.stays (sqrt_ref x _))))
  (refine wpQuiet_nil ?_; clear ne K; intro W K; replace K := Lib.hid K)
  go_wp2_with fail
  go_ret
  exact ⟨rfl, K.out.B⟩
end Go.Proofs.Ytehjfjdopeadfaa
