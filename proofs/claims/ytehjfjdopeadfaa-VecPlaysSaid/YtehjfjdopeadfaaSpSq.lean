/- Walks of quotients, contraries and squares of spans. -/
import Derived.Test.YtehjfjdopeadfaaSpK
import Derived.Test.YtehjfjdopeadfaaSpDiv
set_option linter.unusedVariables false
set_option linter.unusedSimpArgs false
namespace Go.Proofs.Ytehjfjdopeadfaa
open Go.RowKit SpMath

set_option maxRecDepth 100000 in
theorem div_any (x y : Sp) (w : World) : Calls Try.prog 50 #[x.v, y.v] w fun e w' => e = .returned (div x y).v ∧ Below w.heap.size w w' := by
  have K := Lib.hid (Keep.begin3 w (Obj.box x) (Obj.box y) (Obj.box ⟨0, 0, false⟩))
  go_enter Try.func50, Try.ntmps50
  go_wp2_with fail
  (refine ((both_any 80 (by decide) divF divF_any x y _)).mono ?_; rintro e w2 ⟨rfl, hb⟩; replace K := Lib.hid (Keep.stays _ _ K.out hb); clear hb)
  (have f1 := (K.out.sp (.head _)).warm; have c10 := (K.out.sp (.head _)).cell0; have c11 := (K.out.sp (.head _)).cell1; have c12 := (K.out.sp (.head _)).cell2)
  go_wp2_with fail
  exact ret_sp Try.results50 rfl ((K.out.put_0 (div x y)).sp (.head _)) ⟨rfl, (K.out.put_0 _).B⟩

set_option maxRecDepth 100000 in
theorem neg_any (x : Sp) (w : World) : Calls Try.prog 55 #[x.v] w fun e w' => e = .returned (neg x).v ∧ Below w.heap.size w w' := by
  have K := Lib.hid (Keep.begin2 w (Obj.box x) (Obj.box ⟨0, 0, false⟩))
  go_enter Try.func55, Try.ntmps55
  go_wp2_with fail
  (refine region_tail _ 3 (by kernel_rfl) (by kernel_rfl) K.out.drew ?_; haveI ne := Keep.ne K)
  (have c10 := Keep.at0 K (.tail _ (.head _)); have c11 := Keep.at1 K (.tail _ (.head _)); have c12 := Keep.at2 K (.tail _ (.head _)))
  (simp only [List.take_succ_cons, List.take_zero, List.drop_succ_cons, List.drop_zero])
  repeat (go_big_quiet_step (first | (go_at_call 42; with_reducible exact At.call Keep.stays (of_any _ _ _)) | (go_at_call 49; with_reducible exact At.call Keep.stays (sub_any (of 0 0) x _))))
  (refine wpQuiet_nil ?_; clear ne K; intro W K; replace K := Lib.hid K)
  ((try clear f1); (try clear c10 c11 c12))
  (have f1 := (K.out.sp (.head _)).warm; have c10 := (K.out.sp (.head _)).cell0; have c11 := (K.out.sp (.head _)).cell1; have c12 := (K.out.sp (.head _)).cell2)
  go_wp2_with fail
  exact ret_sp Try.results55 rfl ((K.out.put_0 (neg x)).sp (.head _)) ⟨rfl, (K.out.put_0 (neg x)).B⟩

set_option maxHeartbeats 1000000 in
set_option maxRecDepth 100000 in
theorem sqr_any (x : Sp) (w : World) : Calls Try.prog 45 #[x.v] w fun e w' => e = .returned (sqr x).v ∧ Below w.heap.size w w' := by
  have K := Lib.hid (Keep.begin2 w (Obj.box x) (Obj.box ⟨0, 0, false⟩))
  go_enter Try.func45, Try.ntmps45
  go_wp2_with fail
  (refine ((mul_any x x _)).mono ?_; rintro e w2 ⟨rfl, hb⟩; replace K := Lib.hid (Keep.stays _ _ K.out hb); clear hb)
  (have f1 := (K.out.sp (.tail _ (.head _))).warm; have c10 := (K.out.sp (.tail _ (.head _))).cell0; have c11 := (K.out.sp (.tail _ (.head _))).cell1; have c12 := (K.out.sp (.tail _ (.head _))).cell2)
  go_upto_region 2 with fail
  replace K := Lib.hid (K.out.alloc (Obj.box (mul x x)))
  ((try clear f1); (try clear c10 c11 c12))
  generalize w2.heap.size = g at *
  (refine out_keep K.out ?_; clear K; intro W K; replace K := Lib.hid K)
  clear w2
  (have f1 := (K.out.sp (.tail _ (.tail _ (.head _)))).warm; have c10 := (K.out.sp (.tail _ (.tail _ (.head _)))).cell0; have c11 := (K.out.sp (.tail _ (.tail _ (.head _)))).cell1; have c12 := (K.out.sp (.tail _ (.tail _ (.head _)))).cell2)
  go_wp2_with fail
  (refine ((right_any x _)).mono ?_; rintro e w2 ⟨rfl, hb⟩; replace K := Lib.hid (Keep.stays _ _ K.out hb); clear hb)
  ((try clear f1); (try clear c10 c11 c12))
  (have f1 := (K.out.sp (.tail _ (.tail _ (.head _)))).warm; have c10 := (K.out.sp (.tail _ (.tail _ (.head _)))).cell0; have c11 := (K.out.sp (.tail _ (.tail _ (.head _)))).cell1; have c12 := (K.out.sp (.tail _ (.tail _ (.head _)))).cell2)
  go_upto_region 3 with fail
  replace K := Lib.hid (K.out.put_2 (right x))
  ((try clear f1); (try clear c10 c11 c12))
  (refine out_keep K.out ?_; clear K; intro W K; replace K := Lib.hid K)
  rcases hm : mul x x with ⟨ml, mh, ma⟩
  rw [hm] at K
  have HN := Lib.hid hm
  clear hm
  rcases right_two x with ⟨lo, hi, hr, h1, h2, h3, fx, hxe⟩ | ⟨hr, nf⟩
  · rw [hr] at K
    clear hr
    have HX := Lib.hid hxe
    clear hxe
    cases ma with
    | true =>
      have HM : Hid (sqr x = ⟨ml, mh, true⟩) := by
        show _ = _
        unfold sqr
        rw [HN.out, if_neg (by rintro ⟨_, h, _⟩; cases h)]
      (have f1 := (K.out.sp (.tail _ (.tail _ (.head _)))).warm; have c10 := (K.out.sp (.tail _ (.tail _ (.head _)))).cell0; have c11 := (K.out.sp (.tail _ (.tail _ (.head _)))).cell1; have c12 := (K.out.sp (.tail _ (.tail _ (.head _)))).cell2)
      (have f2 := (K.out.sp (.head _)).warm; have c20 := (K.out.sp (.head _)).cell0; have c21 := (K.out.sp (.head _)).cell1; have c22 := (K.out.sp (.head _)).cell2)
      (have f3 := (K.out.sp (.tail _ (.head _))).warm; have c30 := (K.out.sp (.tail _ (.head _))).cell0; have c31 := (K.out.sp (.tail _ (.head _))).cell1; have c32 := (K.out.sp (.tail _ (.head _))).cell2)
      go_wp2_with fail
      exact ret_sp Try.results45 rfl ((K.out.put_1 ⟨ml, mh, true⟩).sp (.tail _ (.head _))) ⟨by rw [HM.out], (K.out.put_1 ⟨ml, mh, true⟩).B⟩
    | false =>
      have HH : Hid (has ⟨lo, hi, false⟩ 0 = (decide (lo ≤ 0) && decide (0 ≤ hi))) := by show _ = _; unfold has; rw [← HX.out, right_fin fx, HX.out]; simp
      by_cases h0 : lo ≤ 0 ∧ 0 ≤ hi
      · have HM : Hid (sqr x = ⟨0, mh, false⟩) := by
          show _ = _
          unfold sqr
          rw [HN.out, if_pos ⟨fx, rfl, by rw [HX.out]; exact h0⟩]
        have HC : Hid (has ⟨lo, hi, false⟩ 0 = true) := by show _ = _; rw [HH.out]; simp [h0]
        clear h0 h1 h2 h3
        (have f1 := (K.out.sp (.tail _ (.tail _ (.head _)))).warm; have c10 := (K.out.sp (.tail _ (.tail _ (.head _)))).cell0; have c11 := (K.out.sp (.tail _ (.tail _ (.head _)))).cell1; have c12 := (K.out.sp (.tail _ (.tail _ (.head _)))).cell2)
        (have f2 := (K.out.sp (.head _)).warm; have c20 := (K.out.sp (.head _)).cell0; have c21 := (K.out.sp (.head _)).cell1; have c22 := (K.out.sp (.head _)).cell2)
        (have f3 := (K.out.sp (.tail _ (.head _))).warm; have c30 := (K.out.sp (.tail _ (.head _))).cell0; have c31 := (K.out.sp (.tail _ (.head _))).cell1; have c32 := (K.out.sp (.tail _ (.head _))).cell2)
        go_wp2_with fail
        (refine ((has_any ⟨lo, hi, false⟩ 0 rfl _)).mono ?_; rintro e w2 ⟨rfl, hb⟩; replace K := Lib.hid (Keep.stays _ _ K.out hb); clear hb)
        rw [HC.out]
        ((try clear f1); (try clear c10 c11 c12))
        ((try clear f2); (try clear c20 c21 c22))
        ((try clear f3); (try clear c30 c31 c32))
        (have f1 := (K.out.sp (.tail _ (.tail _ (.head _)))).warm; have c10 := (K.out.sp (.tail _ (.tail _ (.head _)))).cell0; have c11 := (K.out.sp (.tail _ (.tail _ (.head _)))).cell1; have c12 := (K.out.sp (.tail _ (.tail _ (.head _)))).cell2)
        (have f2 := (K.out.sp (.head _)).warm; have c20 := (K.out.sp (.head _)).cell0; have c21 := (K.out.sp (.head _)).cell1; have c22 := (K.out.sp (.head _)).cell2)
        (have f3 := (K.out.sp (.tail _ (.head _))).warm; have c30 := (K.out.sp (.tail _ (.head _))).cell0; have c31 := (K.out.sp (.tail _ (.head _))).cell1; have c32 := (K.out.sp (.tail _ (.head _))).cell2)
        go_upto_region 5 with fail
        replace K := Lib.hid (K.out.put0 0)
        ((try clear f1); (try clear c10 c11 c12))
        ((try clear f2); (try clear c20 c21 c22))
        ((try clear f3); (try clear c30 c31 c32))
        (refine out_keep K.out ?_; clear K; intro W K; replace K := Lib.hid K)
        (have f2 := (K.out.sp (.head _)).warm; have c20 := (K.out.sp (.head _)).cell0; have c21 := (K.out.sp (.head _)).cell1; have c22 := (K.out.sp (.head _)).cell2)
        (have f3 := (K.out.sp (.tail _ (.head _))).warm; have c30 := (K.out.sp (.tail _ (.head _))).cell0; have c31 := (K.out.sp (.tail _ (.head _))).cell1; have c32 := (K.out.sp (.tail _ (.head _))).cell2)
        go_wp2_with fail
        exact ret_sp Try.results45 rfl ((K.out.put_1 ⟨0, mh, false⟩).sp (.tail _ (.head _))) ⟨by rw [HM.out], (K.out.put_1 ⟨0, mh, false⟩).B⟩
      · have HM : Hid (sqr x = ⟨ml, mh, false⟩) := by
          show _ = _
          unfold sqr
          rw [HN.out, if_neg (by rintro ⟨_, _, h⟩; rw [HX.out] at h; exact h0 h)]
        have HC : Hid (has ⟨lo, hi, false⟩ 0 = false) := by show _ = _; rw [HH.out]; simp; omega
        clear h0 h1 h2 h3
        (have f1 := (K.out.sp (.tail _ (.tail _ (.head _)))).warm; have c10 := (K.out.sp (.tail _ (.tail _ (.head _)))).cell0; have c11 := (K.out.sp (.tail _ (.tail _ (.head _)))).cell1; have c12 := (K.out.sp (.tail _ (.tail _ (.head _)))).cell2)
        (have f2 := (K.out.sp (.head _)).warm; have c20 := (K.out.sp (.head _)).cell0; have c21 := (K.out.sp (.head _)).cell1; have c22 := (K.out.sp (.head _)).cell2)
        (have f3 := (K.out.sp (.tail _ (.head _))).warm; have c30 := (K.out.sp (.tail _ (.head _))).cell0; have c31 := (K.out.sp (.tail _ (.head _))).cell1; have c32 := (K.out.sp (.tail _ (.head _))).cell2)
        go_wp2_with fail
        (refine ((has_any ⟨lo, hi, false⟩ 0 rfl _)).mono ?_; rintro e w2 ⟨rfl, hb⟩; replace K := Lib.hid (Keep.stays _ _ K.out hb); clear hb)
        rw [HC.out]
        ((try clear f1); (try clear c10 c11 c12))
        ((try clear f2); (try clear c20 c21 c22))
        ((try clear f3); (try clear c30 c31 c32))
        (have f1 := (K.out.sp (.tail _ (.tail _ (.head _)))).warm; have c10 := (K.out.sp (.tail _ (.tail _ (.head _)))).cell0; have c11 := (K.out.sp (.tail _ (.tail _ (.head _)))).cell1; have c12 := (K.out.sp (.tail _ (.tail _ (.head _)))).cell2)
        (have f2 := (K.out.sp (.head _)).warm; have c20 := (K.out.sp (.head _)).cell0; have c21 := (K.out.sp (.head _)).cell1; have c22 := (K.out.sp (.head _)).cell2)
        (have f3 := (K.out.sp (.tail _ (.head _))).warm; have c30 := (K.out.sp (.tail _ (.head _))).cell0; have c31 := (K.out.sp (.tail _ (.head _))).cell1; have c32 := (K.out.sp (.tail _ (.head _))).cell2)
        go_wp2_with fail
        exact ret_sp Try.results45 rfl ((K.out.put_1 ⟨ml, mh, false⟩).sp (.tail _ (.head _))) ⟨by rw [HM.out], (K.out.put_1 ⟨ml, mh, false⟩).B⟩
  · rw [hr] at K
    clear hr
    have HM : Hid (sqr x = ⟨ml, mh, ma⟩) := by
      show _ = _
      unfold sqr
      rw [HN.out, if_neg (by rintro ⟨h, _⟩; exact nf h)]
    (have f1 := (K.out.sp (.tail _ (.tail _ (.head _)))).warm; have c10 := (K.out.sp (.tail _ (.tail _ (.head _)))).cell0; have c11 := (K.out.sp (.tail _ (.tail _ (.head _)))).cell1; have c12 := (K.out.sp (.tail _ (.tail _ (.head _)))).cell2)
    (have f2 := (K.out.sp (.head _)).warm; have c20 := (K.out.sp (.head _)).cell0; have c21 := (K.out.sp (.head _)).cell1; have c22 := (K.out.sp (.head _)).cell2)
    (have f3 := (K.out.sp (.tail _ (.head _))).warm; have c30 := (K.out.sp (.tail _ (.head _))).cell0; have c31 := (K.out.sp (.tail _ (.head _))).cell1; have c32 := (K.out.sp (.tail _ (.head _))).cell2)
    go_wp2_with fail
    exact ret_sp Try.results45 rfl ((K.out.put_1 ⟨ml, mh, ma⟩).sp (.tail _ (.head _))) ⟨by rw [HM.out], (K.out.put_1 ⟨ml, mh, ma⟩).B⟩
end Go.Proofs.Ytehjfjdopeadfaa
