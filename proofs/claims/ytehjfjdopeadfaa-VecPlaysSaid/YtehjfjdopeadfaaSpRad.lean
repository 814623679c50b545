/- Walks of Span.Rad, Join, Meet, and of what comes of two spans. -/
import Derived.Test.YtehjfjdopeadfaaSpK
set_option linter.unusedVariables false
set_option linter.unusedSimpArgs false
namespace Go.Proofs.Ytehjfjdopeadfaa
open Go.RowKit SpMath

set_option maxHeartbeats 1000000 in
set_option maxRecDepth 100000 in
theorem rad_any (x : Sp) (w : World) : Calls Try.prog 64 #[x.v] w fun e w' => e = .returned (.int .i64 (rad x)) ∧ Below w.heap.size w w' := by
  have K := Lib.hid (Keep.begin1 w (Obj.box x))
  go_enter Try.func64, Try.ntmps64
  go_wp2_with fail
  (refine ((right_any x _)).mono ?_; rintro e w2 ⟨rfl, hb⟩; replace K := Lib.hid (Keep.stays _ _ K.out hb); clear hb)
  (have f1 := (K.out.sp (.head _)).warm; have c10 := (K.out.sp (.head _)).cell0; have c11 := (K.out.sp (.head _)).cell1; have c12 := (K.out.sp (.head _)).cell2)
  go_upto_region 2 with fail
  replace K := Lib.hid (K.out.put_0 (right x))
  ((try clear f1); (try clear c10 c11 c12))
  (refine out_keep K.out ?_; clear K; intro W K; replace K := Lib.hid K)
  rcases right_two x with ⟨lo, hi, hr, h1, h2, h3, -, -⟩ | ⟨hr, -⟩
  · have hm : mid ⟨lo, hi, false⟩ = (lo + hi) / 2 := by
      simp [mid, right_fin (show Fin ⟨lo, hi, false⟩ from ⟨rfl, h1, h2, h3⟩)]
    have HM : Hid (rad x = hi - (lo + hi) / 2) := by show _ = _; simp only [rad, hr]; rw [hm]; rfl
    have HC := Lib.hid (fun w => mid_any ⟨lo, hi, false⟩ w)
    rw [hm] at HC
    rw [hr] at K
    clear hr hm
    (have f1 := (K.out.sp (.head _)).warm; have c10 := (K.out.sp (.head _)).cell0; have c11 := (K.out.sp (.head _)).cell1; have c12 := (K.out.sp (.head _)).cell2)
    go_wp2_with fail
    (refine region_quiet _ (by kernel_rfl) (by kernel_rfl) K.out.drew ?_; haveI ne := Keep.ne K)
    (have c20 := Keep.at0 K (.head _); have c21 := Keep.at1 K (.head _); have c22 := Keep.at2 K (.head _))
    repeat (go_big_quiet_step ((go_at_call 63; with_reducible exact At.call Keep.stays (HC.out _))))
    (refine wpQuiet_nil ?_; clear ne K; intro W K; replace K := Lib.hid K)
    ((try clear f2); (try clear c20 c21 c22))
    ((try clear f1); (try clear c10 c11 c12))
    go_wp2_with fail
    go_ret
    exact ⟨ret_int HM.out.symm, K.out.B⟩
  · have HM : Hid (rad x = 2147483647) := by show _ = _; simp [rad, hr]
    rw [hr] at K
    clear hr
    (have f1 := (K.out.sp (.head _)).warm; have c10 := (K.out.sp (.head _)).cell0; have c11 := (K.out.sp (.head _)).cell1; have c12 := (K.out.sp (.head _)).cell2)
    go_wp2_with fail
    go_ret
    exact ⟨ret_int HM.out.symm, K.out.B⟩

set_option maxHeartbeats 1000000 in
set_option maxRecDepth 100000 in
theorem join_any (x y : Sp) (w : World) : Calls Try.prog 61 #[x.v, y.v] w fun e w' => e = .returned (join x y).v ∧ Below w.heap.size w w' := by
  have K := Lib.hid (Keep.begin3 w (Obj.box x) (Obj.box y) (Obj.box ⟨0, 0, false⟩))
  go_enter Try.func61, Try.ntmps61
  go_wp2_with fail
  ((refine region_tail _ 4 (by kernel_rfl) (by kernel_rfl) K.out.drew ?_; haveI ne := Keep.ne K); (have c10 := Keep.at0 K (.tail _ (.tail _ (.head _))); have c11 := Keep.at1 K (.tail _ (.tail _ (.head _))); have c12 := Keep.at2 K (.tail _ (.tail _ (.head _)))); (have c20 := Keep.at0 K (.tail _ (.head _)); have c21 := Keep.at1 K (.tail _ (.head _)); have c22 := Keep.at2 K (.tail _ (.head _))); (simp only [List.take_succ_cons, List.take_zero, List.drop_succ_cons, List.drop_zero]); (repeat (go_big_quiet_step (first | (go_at_call 71; with_reducible exact At.call Keep.stays (right_any x _)) | (go_at_call 71; with_reducible exact At.call Keep.stays (right_any y _))))); (refine wpQuiet_nil ?_; clear ne K; intro W K; replace K := Lib.hid K); ((try clear f1); (try clear c10 c11 c12)); ((try clear f2); (try clear c20 c21 c22)); (have f1 := (K.out.sp (.tail _ (.tail _ (.head _)))).warm; have c10 := (K.out.sp (.tail _ (.tail _ (.head _)))).cell0; have c11 := (K.out.sp (.tail _ (.tail _ (.head _)))).cell1; have c12 := (K.out.sp (.tail _ (.tail _ (.head _)))).cell2); (have f2 := (K.out.sp (.tail _ (.head _))).warm; have c20 := (K.out.sp (.tail _ (.head _))).cell0; have c21 := (K.out.sp (.tail _ (.head _))).cell1; have c22 := (K.out.sp (.tail _ (.head _))).cell2); go_upto_region 2 with fail; replace K := Lib.hid ((K.out.put_2 (right x)).put_1 (right y)); ((try clear f1); (try clear c10 c11 c12)); ((try clear f2); (try clear c20 c21 c22)); (refine out_keep K.out ?_; clear K; intro W K; replace K := Lib.hid K))
  have hw := whole_v
  rcases right_four x y with ⟨lo, hi, l2, h2, hx, hy, hbd, -, -⟩ | ⟨hx, -⟩ | ⟨⟨lo, hi, hx, hb1, hb2, hb3, -⟩, hy, -⟩
  · have HJ : Hid (join x y = made (min lo l2) (max hi h2)) := by
      show _ = _
      simp only [join, hx, hy]
      rw [if_neg (by rintro (h | h) <;> exact fin_ne _ _ h)]
    rw [hx, hy] at K
    clear hx hy hbd
    (refine region_quiet _ (by kernel_rfl) (by kernel_rfl) K.out.drew ?_; haveI ne := Keep.ne K)
    (have c10 := Keep.at0 K (.tail _ (.tail _ (.head _))); have c11 := Keep.at1 K (.tail _ (.tail _ (.head _))); have c12 := Keep.at2 K (.tail _ (.tail _ (.head _))))
    (have c20 := Keep.at0 K (.tail _ (.head _)); have c21 := Keep.at1 K (.tail _ (.head _)); have c22 := Keep.at2 K (.tail _ (.head _)))
    (repeat (go_big_quiet_step ((go_at_call 73; with_reducible exact At.call Keep.stays (whole_any _)))))
    (refine wpQuiet_nil ?_; clear ne K; intro W K; replace K := Lib.hid K)
    ((try clear f1); (try clear c10 c11 c12))
    ((try clear f2); (try clear c20 c21 c22))
    (have f1 := (K.out.sp (.tail _ (.tail _ (.head _)))).warm; have c10 := (K.out.sp (.tail _ (.tail _ (.head _)))).cell0; have c11 := (K.out.sp (.tail _ (.tail _ (.head _)))).cell1; have c12 := (K.out.sp (.tail _ (.tail _ (.head _)))).cell2)
    (have f2 := (K.out.sp (.tail _ (.head _))).warm; have c20 := (K.out.sp (.tail _ (.head _))).cell0; have c21 := (K.out.sp (.tail _ (.head _))).cell1; have c22 := (K.out.sp (.tail _ (.head _))).cell2)
    go_wp2_with fail
    (refine ((made_any _ _ _)).mono ?_; rintro e w2 ⟨rfl, hb⟩; replace K := Lib.hid (Keep.stays _ _ K.out hb); clear hb)
    (have f3 := (K.out.sp (.head _)).warm; have c30 := (K.out.sp (.head _)).cell0; have c31 := (K.out.sp (.head _)).cell1; have c32 := (K.out.sp (.head _)).cell2)
    go_wp2_with fail
    exact ret_sp Try.results61 rfl ((K.out.put_0 (made (min lo l2) (max hi h2))).sp (.head _)) ⟨by rw [HJ.out], (K.out.put_0 _).B⟩
  · have HJ : Hid (join x y = ⟨0, 0, true⟩) := by
      show _ = _
      simp only [join, hx]
      rw [if_pos (.inl (show (⟨0, 0, true⟩ : Sp) = whole from rfl))]; rfl
    rw [hx] at K
    clear hx
    (refine region_quiet _ (by kernel_rfl) (by kernel_rfl) K.out.drew ?_; haveI ne := Keep.ne K)
    (have c10 := Keep.at0 K (.tail _ (.tail _ (.head _))); have c11 := Keep.at1 K (.tail _ (.tail _ (.head _))); have c12 := Keep.at2 K (.tail _ (.tail _ (.head _))))
    (have c20 := Keep.at0 K (.tail _ (.head _)); have c21 := Keep.at1 K (.tail _ (.head _)); have c22 := Keep.at2 K (.tail _ (.head _)))
    (repeat (go_big_quiet_step ((go_at_call 73; with_reducible exact At.call Keep.stays (whole_any _)))))
    (refine wpQuiet_nil ?_; clear ne K; intro W K; replace K := Lib.hid K)
    ((try clear f1); (try clear c10 c11 c12))
    ((try clear f2); (try clear c20 c21 c22))
    go_wp2_with fail
    (refine ((whole_any _)).mono ?_; rintro e w2 ⟨rfl, hb⟩; replace K := Lib.hid (Keep.stays _ _ K.out hb); clear hb)
    (have f3 := (K.out.sp (.head _)).warm; have c30 := (K.out.sp (.head _)).cell0; have c31 := (K.out.sp (.head _)).cell1; have c32 := (K.out.sp (.head _)).cell2)
    go_wp2_with fail
    exact ret_sp Try.results61 rfl ((K.out.put_0 ⟨0, 0, true⟩).sp (.head _)) ⟨by rw [HJ.out], (K.out.put_0 ⟨0, 0, true⟩).B⟩
  · have HJ : Hid (join x y = ⟨0, 0, true⟩) := by
      show _ = _
      simp only [join, hy]
      rw [if_pos (.inr (show (⟨0, 0, true⟩ : Sp) = whole from rfl))]; rfl
    rw [hx, hy] at K
    clear hx hy
    (refine region_quiet _ (by kernel_rfl) (by kernel_rfl) K.out.drew ?_; haveI ne := Keep.ne K)
    (have c10 := Keep.at0 K (.tail _ (.tail _ (.head _))); have c11 := Keep.at1 K (.tail _ (.tail _ (.head _))); have c12 := Keep.at2 K (.tail _ (.tail _ (.head _))))
    (have c20 := Keep.at0 K (.tail _ (.head _)); have c21 := Keep.at1 K (.tail _ (.head _)); have c22 := Keep.at2 K (.tail _ (.head _)))
    (repeat (go_big_quiet_step ((go_at_call 73; with_reducible exact At.call Keep.stays (whole_any _)))))
    (refine wpQuiet_nil ?_; clear ne K; intro W K; replace K := Lib.hid K)
    ((try clear f1); (try clear c10 c11 c12))
    ((try clear f2); (try clear c20 c21 c22))
    go_wp2_with fail
    (refine ((whole_any _)).mono ?_; rintro e w2 ⟨rfl, hb⟩; replace K := Lib.hid (Keep.stays _ _ K.out hb); clear hb)
    (have f3 := (K.out.sp (.head _)).warm; have c30 := (K.out.sp (.head _)).cell0; have c31 := (K.out.sp (.head _)).cell1; have c32 := (K.out.sp (.head _)).cell2)
    go_wp2_with fail
    exact ret_sp Try.results61 rfl ((K.out.put_0 ⟨0, 0, true⟩).sp (.head _)) ⟨by rw [HJ.out], (K.out.put_0 ⟨0, 0, true⟩).B⟩

set_option maxHeartbeats 2000000 in
set_option maxRecDepth 100000 in
theorem meet_any (x y : Sp) (w : World) : Calls Try.prog 44 #[x.v, y.v] w fun e w' => e = .returned (.tuple #[(meet x y).1.v, .bool (meet x y).2]) ∧ Below w.heap.size w w' := by
  have K := Lib.hid (Keep.begin3 w (Obj.box x) (Obj.box y) (Obj.box ⟨0, 0, false⟩))
  go_enter Try.func44, Try.ntmps44
  go_wp2_with fail
  ((refine region_tail _ 4 (by kernel_rfl) (by kernel_rfl) K.out.drew ?_; haveI ne := Keep.ne K); (have c10 := Keep.at0 K (.tail _ (.tail _ (.head _))); have c11 := Keep.at1 K (.tail _ (.tail _ (.head _))); have c12 := Keep.at2 K (.tail _ (.tail _ (.head _)))); (have c20 := Keep.at0 K (.tail _ (.head _)); have c21 := Keep.at1 K (.tail _ (.head _)); have c22 := Keep.at2 K (.tail _ (.head _))); (simp only [List.take_succ_cons, List.take_zero, List.drop_succ_cons, List.drop_zero]); (repeat (go_big_quiet_step (first | (go_at_call 71; with_reducible exact At.call Keep.stays (right_any x _)) | (go_at_call 71; with_reducible exact At.call Keep.stays (right_any y _))))); (refine wpQuiet_nil ?_; clear ne K; intro W K; replace K := Lib.hid K); ((try clear f1); (try clear c10 c11 c12)); ((try clear f2); (try clear c20 c21 c22)); (have f1 := (K.out.sp (.tail _ (.tail _ (.head _)))).warm; have c10 := (K.out.sp (.tail _ (.tail _ (.head _)))).cell0; have c11 := (K.out.sp (.tail _ (.tail _ (.head _)))).cell1; have c12 := (K.out.sp (.tail _ (.tail _ (.head _)))).cell2); (have f2 := (K.out.sp (.tail _ (.head _))).warm; have c20 := (K.out.sp (.tail _ (.head _))).cell0; have c21 := (K.out.sp (.tail _ (.head _))).cell1; have c22 := (K.out.sp (.tail _ (.head _))).cell2); go_upto_region 2 with fail; replace K := Lib.hid ((K.out.put_2 (right x)).put_1 (right y)); ((try clear f1); (try clear c10 c11 c12)); ((try clear f2); (try clear c20 c21 c22)); (refine out_keep K.out ?_; clear K; intro W K; replace K := Lib.hid K))
  have hw := whole_v
  rcases right_four x y with ⟨lo, hi, l2, h2, hx, hy, hbd, -, -⟩ | ⟨hx, -⟩ | ⟨⟨lo, hi, hx, hb1, hb2, hb3, -⟩, hy, -⟩
  · have HX := Lib.hid hx; have HY := Lib.hid hy
    rw [hx, hy] at K
    clear hx hy hbd
    (refine region_quiet _ (by kernel_rfl) (by kernel_rfl) K.out.drew ?_; haveI ne := Keep.ne K)
    (have c10 := Keep.at0 K (.tail _ (.tail _ (.head _))); have c11 := Keep.at1 K (.tail _ (.tail _ (.head _))); have c12 := Keep.at2 K (.tail _ (.tail _ (.head _))))
    (have c20 := Keep.at0 K (.tail _ (.head _)); have c21 := Keep.at1 K (.tail _ (.head _)); have c22 := Keep.at2 K (.tail _ (.head _)))
    (repeat (go_big_quiet_step ((go_at_call 73; with_reducible exact At.call Keep.stays (whole_any _)))))
    (refine wpQuiet_nil ?_; clear ne K; intro W K; replace K := Lib.hid K)
    go_wp2_with fail
    (refine region_quiet _ (by kernel_rfl) (by kernel_rfl) K.out.drew ?_; haveI ne := Keep.ne K)
    (repeat (go_big_quiet_step ((go_at_call 73; with_reducible exact At.call Keep.stays (whole_any _)))))
    (refine wpQuiet_nil ?_; clear ne K; intro W K; replace K := Lib.hid K)
    ((try clear f1); (try clear c10 c11 c12))
    ((try clear f2); (try clear c20 c21 c22))
    (have f1 := (K.out.sp (.tail _ (.tail _ (.head _)))).warm; have c10 := (K.out.sp (.tail _ (.tail _ (.head _)))).cell0; have c11 := (K.out.sp (.tail _ (.tail _ (.head _)))).cell1; have c12 := (K.out.sp (.tail _ (.tail _ (.head _)))).cell2)
    (have f2 := (K.out.sp (.tail _ (.head _))).warm; have c20 := (K.out.sp (.tail _ (.head _))).cell0; have c21 := (K.out.sp (.tail _ (.head _))).cell1; have c22 := (K.out.sp (.tail _ (.head _))).cell2)
    (have f3 := (K.out.sp (.head _)).warm; have c30 := (K.out.sp (.head _)).cell0; have c31 := (K.out.sp (.head _)).cell1; have c32 := (K.out.sp (.head _)).cell2)
    by_cases e1 : min hi h2 < max lo l2
    · have HJ : Hid (meet x y = (⟨0, 0, false⟩, false)) := by
        show _ = _
        simp only [meet, HX.out, HY.out]
        rw [if_neg (fin_ne _ _), if_neg (fin_ne _ _), if_pos e1]
      go_wp2_with fail
      exact ret_sp2 Try.results44 rfl rfl ((K.out.put_0 ⟨0, 0, false⟩).sp (.head _)) ⟨by rw [HJ.out] <;> rfl, (K.out.put_0 ⟨0, 0, false⟩).B⟩
    · have HJ : Hid (meet x y = (made (max lo l2) (min hi h2), true)) := by
        show _ = _
        simp only [meet, HX.out, HY.out]
        rw [if_neg (fin_ne _ _), if_neg (fin_ne _ _), if_neg e1]
      have e2 : ¬ (max lo l2 > min hi h2) := e1
      go_wp2_with fail
      (refine ((made_any _ _ _)).mono ?_; rintro e w2 ⟨rfl, hb⟩; replace K := Lib.hid (Keep.stays _ _ K.out hb); clear hb)
      ((try clear f3); (try clear c30 c31 c32))
      (have f3 := (K.out.sp (.head _)).warm; have c30 := (K.out.sp (.head _)).cell0; have c31 := (K.out.sp (.head _)).cell1; have c32 := (K.out.sp (.head _)).cell2)
      go_wp2_with fail
      exact ret_sp2 Try.results44 rfl rfl ((K.out.put_0 (made (max lo l2) (min hi h2))).sp (.head _)) ⟨by rw [HJ.out] <;> rfl, (K.out.put_0 _).B⟩
  · have HJ : Hid (meet x y = (right y, true)) := by
      show _ = _
      simp only [meet, hx]; rw [if_pos (show (⟨0, 0, true⟩ : Sp) = whole from rfl)]
    rw [hx] at K
    clear hx
    (refine region_quiet _ (by kernel_rfl) (by kernel_rfl) K.out.drew ?_; haveI ne := Keep.ne K)
    (have c10 := Keep.at0 K (.tail _ (.tail _ (.head _))); have c11 := Keep.at1 K (.tail _ (.tail _ (.head _))); have c12 := Keep.at2 K (.tail _ (.tail _ (.head _))))
    (have c20 := Keep.at0 K (.tail _ (.head _)); have c21 := Keep.at1 K (.tail _ (.head _)); have c22 := Keep.at2 K (.tail _ (.head _)))
    (repeat (go_big_quiet_step ((go_at_call 73; with_reducible exact At.call Keep.stays (whole_any _)))))
    (refine wpQuiet_nil ?_; clear ne K; intro W K; replace K := Lib.hid K)
    ((try clear f1); (try clear c10 c11 c12))
    ((try clear f2); (try clear c20 c21 c22))
    (have f2 := (K.out.sp (.tail _ (.head _))).warm; have c20 := (K.out.sp (.tail _ (.head _))).cell0; have c21 := (K.out.sp (.tail _ (.head _))).cell1; have c22 := (K.out.sp (.tail _ (.head _))).cell2)
    (have f3 := (K.out.sp (.head _)).warm; have c30 := (K.out.sp (.head _)).cell0; have c31 := (K.out.sp (.head _)).cell1; have c32 := (K.out.sp (.head _)).cell2)
    go_wp2_with fail
    exact ret_sp2 Try.results44 rfl rfl ((K.out.put_0 (right y)).sp (.head _)) ⟨by rw [HJ.out] <;> rfl, (K.out.put_0 _).B⟩
  · have HJ : Hid (meet x y = (⟨lo, hi, false⟩, true)) := by
      show _ = _
      simp only [meet, hx, hy]; rw [if_neg (fin_ne _ _), if_pos (show (⟨0, 0, true⟩ : Sp) = whole from rfl)]
    rw [hx, hy] at K
    clear hx hy
    (refine region_quiet _ (by kernel_rfl) (by kernel_rfl) K.out.drew ?_; haveI ne := Keep.ne K)
    (have c10 := Keep.at0 K (.tail _ (.tail _ (.head _))); have c11 := Keep.at1 K (.tail _ (.tail _ (.head _))); have c12 := Keep.at2 K (.tail _ (.tail _ (.head _))))
    (have c20 := Keep.at0 K (.tail _ (.head _)); have c21 := Keep.at1 K (.tail _ (.head _)); have c22 := Keep.at2 K (.tail _ (.head _)))
    (repeat (go_big_quiet_step ((go_at_call 73; with_reducible exact At.call Keep.stays (whole_any _)))))
    (refine wpQuiet_nil ?_; clear ne K; intro W K; replace K := Lib.hid K)
    go_wp2_with fail
    (refine region_quiet _ (by kernel_rfl) (by kernel_rfl) K.out.drew ?_; haveI ne := Keep.ne K)
    (repeat (go_big_quiet_step ((go_at_call 73; with_reducible exact At.call Keep.stays (whole_any _)))))
    (refine wpQuiet_nil ?_; clear ne K; intro W K; replace K := Lib.hid K)
    ((try clear f1); (try clear c10 c11 c12))
    ((try clear f2); (try clear c20 c21 c22))
    (have f1 := (K.out.sp (.tail _ (.tail _ (.head _)))).warm; have c10 := (K.out.sp (.tail _ (.tail _ (.head _)))).cell0; have c11 := (K.out.sp (.tail _ (.tail _ (.head _)))).cell1; have c12 := (K.out.sp (.tail _ (.tail _ (.head _)))).cell2)
    (have f3 := (K.out.sp (.head _)).warm; have c30 := (K.out.sp (.head _)).cell0; have c31 := (K.out.sp (.head _)).cell1; have c32 := (K.out.sp (.head _)).cell2)
    go_wp2_with fail
    exact ret_sp2 Try.results44 rfl rfl ((K.out.put_0 ⟨lo, hi, false⟩).sp (.head _)) ⟨by rw [HJ.out] <;> rfl, (K.out.put_0 ⟨lo, hi, false⟩).B⟩
end Go.Proofs.Ytehjfjdopeadfaa
