/- Walk of Span.In. -/
import Derived.Test.YtehjfjdopeadfaaSpT
set_option linter.unusedVariables false
set_option linter.unusedSimpArgs false
namespace Go.Proofs.Ytehjfjdopeadfaa
open Go.RowKit SpMath

set_option maxHeartbeats 2000000 in
set_option maxRecDepth 100000 in
theorem in_any (x y : Sp) (w : World) : Calls Try.prog 41 #[x.v, y.v] w fun e w' => e = .returned (.bool (inn x y)) ∧ Below w.heap.size w w' := by
  have T := Lib.hid (Two.begin w x y)
  go_enter Try.func41, Try.ntmps41
  go_wp2_with fail
  refine region_tail (Two w x y) 4 (by kernel_rfl) (by kernel_rfl) (Two.stays.drew T.out) ?_
  (haveI ne : Nonempty (At (Two w x y)) := ⟨⟨_, T.out⟩⟩; have cx0 := At.cell0 (I := (Two w x y)) (fun _ h => h.X); have cx1 := At.cell1 (I := (Two w x y)) (fun _ h => h.X); have cx2 := At.cell2 (I := (Two w x y)) (fun _ h => h.X); have cy0 := At.cell0 (I := (Two w x y)) (fun _ h => h.Y); have cy1 := At.cell1 (I := (Two w x y)) (fun _ h => h.Y); have cy2 := At.cell2 (I := (Two w x y)) (fun _ h => h.Y))
  (simp only [List.take_succ_cons, List.take_zero, List.drop_succ_cons, List.drop_zero])
  repeat (go_big_quiet_step (first | (go_at_call 71; with_reducible exact At.call Two.stays (right_any x _)) | (go_at_call 71; with_reducible exact At.call Two.stays (right_any y _))))
  refine wpQuiet_nil ?_
  (clear ne; (try clear cx0 cx1 cx2); (try clear cy0 cy1 cy2); (try clear cz0 cz1 cz2))
  clear T
  intro w1 T1
  replace T1 := Lib.hid T1
  (have f := (T1.out.X).warm; have c0 := (T1.out.X).cell0; have c1 := (T1.out.X).cell1; have c2 := (T1.out.X).cell2)
  (have g := (T1.out.Y).warm; have d0 := (T1.out.Y).cell0; have d1 := (T1.out.Y).cell1; have d2 := (T1.out.Y).cell2)
  go_wp2_with fail
  have T := Lib.hid (T1.out.puts (right x) (right y))
  ((try clear f c0 c1 c2); (try clear g d0 d1 d2); (try clear k b0 b1 b2))
  clear T1
  refine out_world _ _ ?_
  intro W hW
  rw [hW] at T
  clear hW
  have hw := whole_v
  rcases right_four y x with ⟨l2, h2, lo, hi, hy, hx, hbd, -, -⟩ | ⟨hy, -⟩ | ⟨⟨lo, hi, hy, hb1, hb2, hb3, -⟩, hx, -⟩
  · have HJ : Hid (inn x y = (decide (l2 ≤ lo) && decide (hi ≤ h2)) ) := by show _ = _; simp [inn, hx, hy, whole]
    rw [hx, hy] at T
    clear hx hy hbd
    refine region_quiet (Two w ⟨lo, hi, false⟩ ⟨l2, h2, false⟩) (by kernel_rfl) (by kernel_rfl) (Two.stays.drew T.out) ?_
    (haveI ne : Nonempty (At (Two w ⟨lo, hi, false⟩ ⟨l2, h2, false⟩)) := ⟨⟨_, T.out⟩⟩; have cx0 := At.cell0 (I := (Two w ⟨lo, hi, false⟩ ⟨l2, h2, false⟩)) (fun _ h => h.X); have cx1 := At.cell1 (I := (Two w ⟨lo, hi, false⟩ ⟨l2, h2, false⟩)) (fun _ h => h.X); have cx2 := At.cell2 (I := (Two w ⟨lo, hi, false⟩ ⟨l2, h2, false⟩)) (fun _ h => h.X); have cy0 := At.cell0 (I := (Two w ⟨lo, hi, false⟩ ⟨l2, h2, false⟩)) (fun _ h => h.Y); have cy1 := At.cell1 (I := (Two w ⟨lo, hi, false⟩ ⟨l2, h2, false⟩)) (fun _ h => h.Y); have cy2 := At.cell2 (I := (Two w ⟨lo, hi, false⟩ ⟨l2, h2, false⟩)) (fun _ h => h.Y))
    by_cases e1 : l2 ≤ lo
    · have e1' : decide (l2 ≤ lo) = true := decide_eq_true e1
      repeat (go_big_quiet_step ((go_at_call 73; with_reducible exact At.call Two.stays (whole_any _))))
      refine wpQuiet_nil ?_
      intro w1 T1
      go_wp2_with fail
      go_ret
      exact ⟨ret_bool (by rw [HJ.out]; first | rfl | (simp [e1]; done) | (simp [e1]; omega)), T1.B⟩
    · have e1' : decide (l2 ≤ lo) = false := decide_eq_false e1
      repeat (go_big_quiet_step ((go_at_call 73; with_reducible exact At.call Two.stays (whole_any _))))
      refine wpQuiet_nil ?_
      intro w1 T1
      go_wp2_with fail
      go_ret
      exact ⟨ret_bool (by rw [HJ.out]; first | rfl | (simp [e1]; done) | (simp [e1]; omega)), T1.B⟩
  · have HJ : Hid (inn x y = true) := by show _ = _; simp [inn, hy, whole]
    rw [hy] at T
    clear hy
    refine region_quiet (Two w (right x) ⟨0, 0, true⟩) (by kernel_rfl) (by kernel_rfl) (Two.stays.drew T.out) ?_
    (haveI ne : Nonempty (At (Two w (right x) ⟨0, 0, true⟩)) := ⟨⟨_, T.out⟩⟩; have cx0 := At.cell0 (I := (Two w (right x) ⟨0, 0, true⟩)) (fun _ h => h.X); have cx1 := At.cell1 (I := (Two w (right x) ⟨0, 0, true⟩)) (fun _ h => h.X); have cx2 := At.cell2 (I := (Two w (right x) ⟨0, 0, true⟩)) (fun _ h => h.X); have cy0 := At.cell0 (I := (Two w (right x) ⟨0, 0, true⟩)) (fun _ h => h.Y); have cy1 := At.cell1 (I := (Two w (right x) ⟨0, 0, true⟩)) (fun _ h => h.Y); have cy2 := At.cell2 (I := (Two w (right x) ⟨0, 0, true⟩)) (fun _ h => h.Y))
    repeat (go_big_quiet_step ((go_at_call 73; with_reducible exact At.call Two.stays (whole_any _))))
    refine wpQuiet_nil ?_
    intro w1 T1
    go_wp2_with fail
    go_ret
    exact ⟨ret_bool (by rw [HJ.out]), T1.B⟩
  · have HJ : Hid (inn x y = false) := by show _ = _; simp [inn, hx, hy, whole]
    rw [hx, hy] at T
    clear hx hy
    refine region_quiet (Two w ⟨0, 0, true⟩ ⟨lo, hi, false⟩) (by kernel_rfl) (by kernel_rfl) (Two.stays.drew T.out) ?_
    (haveI ne : Nonempty (At (Two w ⟨0, 0, true⟩ ⟨lo, hi, false⟩)) := ⟨⟨_, T.out⟩⟩; have cx0 := At.cell0 (I := (Two w ⟨0, 0, true⟩ ⟨lo, hi, false⟩)) (fun _ h => h.X); have cx1 := At.cell1 (I := (Two w ⟨0, 0, true⟩ ⟨lo, hi, false⟩)) (fun _ h => h.X); have cx2 := At.cell2 (I := (Two w ⟨0, 0, true⟩ ⟨lo, hi, false⟩)) (fun _ h => h.X); have cy0 := At.cell0 (I := (Two w ⟨0, 0, true⟩ ⟨lo, hi, false⟩)) (fun _ h => h.Y); have cy1 := At.cell1 (I := (Two w ⟨0, 0, true⟩ ⟨lo, hi, false⟩)) (fun _ h => h.Y); have cy2 := At.cell2 (I := (Two w ⟨0, 0, true⟩ ⟨lo, hi, false⟩)) (fun _ h => h.Y))
    repeat (go_big_quiet_step ((go_at_call 73; with_reducible exact At.call Two.stays (whole_any _))))
    refine wpQuiet_nil ?_
    intro w1 T1
    go_wp2_with fail
    go_ret
    exact ⟨ret_bool (by rw [HJ.out]), T1.B⟩
end Go.Proofs.Ytehjfjdopeadfaa
