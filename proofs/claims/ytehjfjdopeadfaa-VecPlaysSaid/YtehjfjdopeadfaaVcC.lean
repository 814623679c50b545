/- Walks of Vec.Cross, and of the chapter's examples. -/
import Derived.Test.YtehjfjdopeadfaaVcF
set_option linter.unusedVariables false
set_option linter.unusedSimpArgs false
namespace Go.Proofs.Ytehjfjdopeadfaa
open Go.RowKit SpMath

set_option maxHeartbeats 4000000 in
set_option maxRecDepth 100000 in
theorem cross_any (v u : Vc) (w : World) : Calls Try.prog 21 #[v.v, u.v] w fun e w' => e = .returned (cross v u).v ∧ Below w.heap.size w w' := by
  have K := Lib.hid (Keep.begin4 w (Obj.vec 25 v) (Obj.vec 25 u) (Obj.vec 25 ⟨vz, vz, vz⟩) (Obj.vec 25 ⟨vz, vz, vz⟩))
  obtain ⟨X, hX⟩ : ∃ X, sub (mul v.y u.z) (mul v.z u.y) = X := ⟨_, rfl⟩
  obtain ⟨Y, hY⟩ : ∃ Y, sub (mul v.z u.x) (mul v.x u.z) = Y := ⟨_, rfl⟩
  obtain ⟨Z, hZ⟩ : ∃ Z, sub (mul v.x u.y) (mul v.y u.x) = Z := ⟨_, rfl⟩
  have HC : Hid (cross v u = ⟨X, Y, Z⟩) := by show _ = _; unfold cross; rw [hX, hY, hZ]
  have CX : Hid (∀ w, Calls Try.prog 49 #[(mul v.y u.z).v, (mul v.z u.y).v] w fun e w' => e = .returned X.v ∧ Below w.heap.size w w') := by
    intro w; have := sub_any (mul v.y u.z) (mul v.z u.y) w; rwa [hX] at this
  have CY : Hid (∀ w, Calls Try.prog 49 #[(mul v.z u.x).v, (mul v.x u.z).v] w fun e w' => e = .returned Y.v ∧ Below w.heap.size w w') := by
    intro w; have := sub_any (mul v.z u.x) (mul v.x u.z) w; rwa [hY] at this
  have CZ : Hid (∀ w, Calls Try.prog 49 #[(mul v.x u.y).v, (mul v.y u.x).v] w fun e w' => e = .returned Z.v ∧ Below w.heap.size w w') := by
    intro w; have := sub_any (mul v.x u.y) (mul v.y u.x) w; rwa [hZ] at this
  clear hX hY hZ
  go_enter Try.func21, Try.ntmps21
  go_upto_region 2 with fail
  (refine out_keep K.out ?_; clear K; intro W K; replace K := Lib.hid K)
  go_wp2_with fail
  go_loopg [9] 3 (fun g iv wr => (g = 3 ∧ iv = .int .i64 0 ∧ Keep w [(w.heap.size + 1 + 1 + 1, Obj.vec 25 ⟨vz, vz, vz⟩), (w.heap.size + 1 + 1, Obj.vec 25 ⟨vz, vz, vz⟩), (w.heap.size + 1, Obj.vec 25 u), (w.heap.size, Obj.vec 25 v)] wr) ∨ (g = 2 ∧ iv = .int .i64 1 ∧ Keep w [(w.heap.size + 1 + 1 + 1, Obj.vec 25 ⟨X, vz, vz⟩), (w.heap.size + 1 + 1, Obj.vec 25 ⟨vz, vz, vz⟩), (w.heap.size + 1, Obj.vec 25 u), (w.heap.size, Obj.vec 25 v)] wr) ∨ (g = 1 ∧ iv = .int .i64 2 ∧ Keep w [(w.heap.size + 1 + 1 + 1, Obj.vec 25 ⟨X, Y, vz⟩), (w.heap.size + 1 + 1, Obj.vec 25 ⟨vz, vz, vz⟩), (w.heap.size + 1, Obj.vec 25 u), (w.heap.size, Obj.vec 25 v)] wr) ∨ (g = 0 ∧ iv = .int .i64 3 ∧ Keep w [(w.heap.size + 1 + 1 + 1, Obj.vec 25 ⟨X, Y, Z⟩), (w.heap.size + 1 + 1, Obj.vec 25 ⟨vz, vz, vz⟩), (w.heap.size + 1, Obj.vec 25 u), (w.heap.size, Obj.vec 25 v)] wr))
  case atStart => exact .inl ⟨rfl, rfl, K.out⟩
  case round =>
    clear K
    rcases hrel with ⟨rfl, rfl, k⟩ | ⟨rfl, rfl, k⟩ | ⟨rfl, rfl, k⟩ | ⟨rfl, rfl, k⟩
    · have K := Lib.hid k
      clear k
      go_wp2_with fail
      (refine region_tail _ 17 (by kernel_rfl) (by kernel_rfl) K.out.drew ?_; haveI ne := Keep.ne K)
      (have c10 := Keep.av0 K (.tail _ (.tail _ (.tail _ (.head _)))); have c11 := Keep.av1 K (.tail _ (.tail _ (.tail _ (.head _)))); have c12 := Keep.av2 K (.tail _ (.tail _ (.tail _ (.head _)))); have c13 := Keep.av3 K (.tail _ (.tail _ (.tail _ (.head _)))); have c14 := Keep.av4 K (.tail _ (.tail _ (.tail _ (.head _)))); have c15 := Keep.av5 K (.tail _ (.tail _ (.tail _ (.head _)))); have c16 := Keep.av6 K (.tail _ (.tail _ (.tail _ (.head _)))); have c17 := Keep.av7 K (.tail _ (.tail _ (.tail _ (.head _)))); have c18 := Keep.av8 K (.tail _ (.tail _ (.tail _ (.head _)))))
      (have c20 := Keep.av0 K (.tail _ (.tail _ (.head _))); have c21 := Keep.av1 K (.tail _ (.tail _ (.head _))); have c22 := Keep.av2 K (.tail _ (.tail _ (.head _))); have c23 := Keep.av3 K (.tail _ (.tail _ (.head _))); have c24 := Keep.av4 K (.tail _ (.tail _ (.head _))); have c25 := Keep.av5 K (.tail _ (.tail _ (.head _))); have c26 := Keep.av6 K (.tail _ (.tail _ (.head _))); have c27 := Keep.av7 K (.tail _ (.tail _ (.head _))); have c28 := Keep.av8 K (.tail _ (.tail _ (.head _))))
      (simp only [List.take_succ_cons, List.take_zero, List.drop_succ_cons, List.drop_zero])
      repeat (go_big_quiet_step (first | (go_at_call 43; with_reducible exact At.call Keep.stays (mul_any _ _ _)) | (go_at_call 49; with_reducible exact At.call Keep.stays (CX.out _))))
      (refine wpQuiet_nil ?_; clear ne K; intro W K; replace K := Lib.hid K)
      ((try clear f1); (try clear c10 c11 c12 c13 c14 c15 c16 c17 c18))
      ((try clear f2); (try clear c20 c21 c22 c23 c24 c25 c26 c27 c28))
      (have f1 := (K.out.vc (.head _)).warm; have c10 := (K.out.vc (.head _)).cell0; have c11 := (K.out.vc (.head _)).cell1; have c12 := (K.out.vc (.head _)).cell2; have c13 := (K.out.vc (.head _)).cell3; have c14 := (K.out.vc (.head _)).cell4; have c15 := (K.out.vc (.head _)).cell5; have c16 := (K.out.vc (.head _)).cell6; have c17 := (K.out.vc (.head _)).cell7; have c18 := (K.out.vc (.head _)).cell8)
      go_wp2_with fail
      replace K := Lib.hid (K.out.puti0_0 X)
      ((try clear f1); (try clear c10 c11 c12 c13 c14 c15 c16 c17 c18))
      go_roundg 2
      case measure => omega
      case rel => exact .inr (.inl ⟨rfl, rfl, K.out⟩)
    · have K := Lib.hid k
      clear k
      go_wp2_with fail
      (refine region_tail _ 17 (by kernel_rfl) (by kernel_rfl) K.out.drew ?_; haveI ne := Keep.ne K)
      (have c10 := Keep.av0 K (.tail _ (.tail _ (.tail _ (.head _)))); have c11 := Keep.av1 K (.tail _ (.tail _ (.tail _ (.head _)))); have c12 := Keep.av2 K (.tail _ (.tail _ (.tail _ (.head _)))); have c13 := Keep.av3 K (.tail _ (.tail _ (.tail _ (.head _)))); have c14 := Keep.av4 K (.tail _ (.tail _ (.tail _ (.head _)))); have c15 := Keep.av5 K (.tail _ (.tail _ (.tail _ (.head _)))); have c16 := Keep.av6 K (.tail _ (.tail _ (.tail _ (.head _)))); have c17 := Keep.av7 K (.tail _ (.tail _ (.tail _ (.head _)))); have c18 := Keep.av8 K (.tail _ (.tail _ (.tail _ (.head _)))))
      (have c20 := Keep.av0 K (.tail _ (.tail _ (.head _))); have c21 := Keep.av1 K (.tail _ (.tail _ (.head _))); have c22 := Keep.av2 K (.tail _ (.tail _ (.head _))); have c23 := Keep.av3 K (.tail _ (.tail _ (.head _))); have c24 := Keep.av4 K (.tail _ (.tail _ (.head _))); have c25 := Keep.av5 K (.tail _ (.tail _ (.head _))); have c26 := Keep.av6 K (.tail _ (.tail _ (.head _))); have c27 := Keep.av7 K (.tail _ (.tail _ (.head _))); have c28 := Keep.av8 K (.tail _ (.tail _ (.head _))))
      (simp only [List.take_succ_cons, List.take_zero, List.drop_succ_cons, List.drop_zero])
      repeat (go_big_quiet_step (first | (go_at_call 43; with_reducible exact At.call Keep.stays (mul_any _ _ _)) | (go_at_call 49; with_reducible exact At.call Keep.stays (CY.out _))))
      (refine wpQuiet_nil ?_; clear ne K; intro W K; replace K := Lib.hid K)
      ((try clear f1); (try clear c10 c11 c12 c13 c14 c15 c16 c17 c18))
      ((try clear f2); (try clear c20 c21 c22 c23 c24 c25 c26 c27 c28))
      (have f1 := (K.out.vc (.head _)).warm; have c10 := (K.out.vc (.head _)).cell0; have c11 := (K.out.vc (.head _)).cell1; have c12 := (K.out.vc (.head _)).cell2; have c13 := (K.out.vc (.head _)).cell3; have c14 := (K.out.vc (.head _)).cell4; have c15 := (K.out.vc (.head _)).cell5; have c16 := (K.out.vc (.head _)).cell6; have c17 := (K.out.vc (.head _)).cell7; have c18 := (K.out.vc (.head _)).cell8)
      go_wp2_with fail
      replace K := Lib.hid (K.out.puti1_0 Y)
      ((try clear f1); (try clear c10 c11 c12 c13 c14 c15 c16 c17 c18))
      go_roundg 1
      case measure => omega
      case rel => exact .inr (.inr (.inl ⟨rfl, rfl, K.out⟩))
    · have K := Lib.hid k
      clear k
      go_wp2_with fail
      (refine region_tail _ 17 (by kernel_rfl) (by kernel_rfl) K.out.drew ?_; haveI ne := Keep.ne K)
      (have c10 := Keep.av0 K (.tail _ (.tail _ (.tail _ (.head _)))); have c11 := Keep.av1 K (.tail _ (.tail _ (.tail _ (.head _)))); have c12 := Keep.av2 K (.tail _ (.tail _ (.tail _ (.head _)))); have c13 := Keep.av3 K (.tail _ (.tail _ (.tail _ (.head _)))); have c14 := Keep.av4 K (.tail _ (.tail _ (.tail _ (.head _)))); have c15 := Keep.av5 K (.tail _ (.tail _ (.tail _ (.head _)))); have c16 := Keep.av6 K (.tail _ (.tail _ (.tail _ (.head _)))); have c17 := Keep.av7 K (.tail _ (.tail _ (.tail _ (.head _)))); have c18 := Keep.av8 K (.tail _ (.tail _ (.tail _ (.head _)))))
      (have c20 := Keep.av0 K (.tail _ (.tail _ (.head _))); have c21 := Keep.av1 K (.tail _ (.tail _ (.head _))); have c22 := Keep.av2 K (.tail _ (.tail _ (.head _))); have c23 := Keep.av3 K (.tail _ (.tail _ (.head _))); have c24 := Keep.av4 K (.tail _ (.tail _ (.head _))); have c25 := Keep.av5 K (.tail _ (.tail _ (.head _))); have c26 := Keep.av6 K (.tail _ (.tail _ (.head _))); have c27 := Keep.av7 K (.tail _ (.tail _ (.head _))); have c28 := Keep.av8 K (.tail _ (.tail _ (.head _))))
      (simp only [List.take_succ_cons, List.take_zero, List.drop_succ_cons, List.drop_zero])
      repeat (go_big_quiet_step (first | (go_at_call 43; with_reducible exact At.call Keep.stays (mul_any _ _ _)) | (go_at_call 49; with_reducible exact At.call Keep.stays (CZ.out _))))
      (refine wpQuiet_nil ?_; clear ne K; intro W K; replace K := Lib.hid K)
      ((try clear f1); (try clear c10 c11 c12 c13 c14 c15 c16 c17 c18))
      ((try clear f2); (try clear c20 c21 c22 c23 c24 c25 c26 c27 c28))
      (have f1 := (K.out.vc (.head _)).warm; have c10 := (K.out.vc (.head _)).cell0; have c11 := (K.out.vc (.head _)).cell1; have c12 := (K.out.vc (.head _)).cell2; have c13 := (K.out.vc (.head _)).cell3; have c14 := (K.out.vc (.head _)).cell4; have c15 := (K.out.vc (.head _)).cell5; have c16 := (K.out.vc (.head _)).cell6; have c17 := (K.out.vc (.head _)).cell7; have c18 := (K.out.vc (.head _)).cell8)
      go_wp2_with fail
      replace K := Lib.hid (K.out.puti2_0 Z)
      ((try clear f1); (try clear c10 c11 c12 c13 c14 c15 c16 c17 c18))
      go_roundg 0
      case measure => omega
      case rel => exact .inr (.inr (.inr ⟨rfl, rfl, K.out⟩))
    · have K := Lib.hid k
      clear k
      (have f1 := (K.out.vc (.head _)).warm; have c10 := (K.out.vc (.head _)).cell0; have c11 := (K.out.vc (.head _)).cell1; have c12 := (K.out.vc (.head _)).cell2; have c13 := (K.out.vc (.head _)).cell3; have c14 := (K.out.vc (.head _)).cell4; have c15 := (K.out.vc (.head _)).cell5; have c16 := (K.out.vc (.head _)).cell6; have c17 := (K.out.vc (.head _)).cell7; have c18 := (K.out.vc (.head _)).cell8)
      (have f2 := (K.out.vc (.tail _ (.head _))).warm; have c20 := (K.out.vc (.tail _ (.head _))).cell0; have c21 := (K.out.vc (.tail _ (.head _))).cell1; have c22 := (K.out.vc (.tail _ (.head _))).cell2; have c23 := (K.out.vc (.tail _ (.head _))).cell3; have c24 := (K.out.vc (.tail _ (.head _))).cell4; have c25 := (K.out.vc (.tail _ (.head _))).cell5; have c26 := (K.out.vc (.tail _ (.head _))).cell6; have c27 := (K.out.vc (.tail _ (.head _))).cell7; have c28 := (K.out.vc (.tail _ (.head _))).cell8)
      go_wp2_with fail
      exact ret_vc Try.results21 rfl ((K.out.putv_1 ⟨X, Y, Z⟩).vc (.tail _ (.head _))) ⟨by rw [HC.out], (K.out.putv_1 ⟨X, Y, Z⟩).B⟩

theorem av1 : dot (vof 1048576 2097152 0) (vof 3145728 1048576 5) = ⟨5242880, 5242880, false⟩ := by decide
theorem av2 : cross (vof 1048576 0 0) (vof 0 1048576 0) = ⟨⟨0, 0, false⟩, ⟨0, 0, false⟩, ⟨1048576, 1048576, false⟩⟩ := by decide
theorem av3 : norm2 (vof 3145728 4194304 0) = ⟨26214400, 26214400, false⟩ := by decide
theorem av4 : vrad (vof 1 2 3) = 0 := by decide
theorem av5 : vrad (vof 1 2 1099511627776) = 2147483647 := by decide
theorem av6 : of 5242880 5242880 = ⟨5242880, 5242880, false⟩ := by decide
theorem av7 : vof 0 0 1048576 = ⟨⟨0, 0, false⟩, ⟨0, 0, false⟩, ⟨1048576, 1048576, false⟩⟩ := by decide
theorem av8 : of 26214400 26214400 = ⟨26214400, 26214400, false⟩ := by decide

set_option maxHeartbeats 1000000 in
set_option maxRecDepth 100000 in
theorem vawake_any (w : World) : Calls Try.prog 16 #[] w fun e w' => e = .returned (.bool true) ∧ Below w.heap.size w w' := by
  have K := Lib.hid (Keep.start w)
  have A1 := Lib.hid av1
  have A2 := Lib.hid av2
  have A3 := Lib.hid av3
  have A4 := Lib.hid av4
  have A5 := Lib.hid av5
  have A6 : Hid (∀ w, Calls Try.prog 42 #[.int .i64 5242880, .int .i64 5242880] w fun e w' => e = .returned (⟨5242880, 5242880, false⟩ : Sp).v ∧ Below w.heap.size w w') := by
    intro w; have := of_any 5242880 5242880 w; rwa [av6] at this
  have A7 : Hid (∀ w, Calls Try.prog 36 #[.int .i64 0, .int .i64 0, .int .i64 1048576] w fun e w' => e = .returned (⟨⟨0, 0, false⟩, ⟨0, 0, false⟩, ⟨1048576, 1048576, false⟩⟩ : Vc).v ∧ Below w.heap.size w w') := by
    intro w; have := vof_any 0 0 1048576 w; rwa [av7] at this
  have A8 : Hid (∀ w, Calls Try.prog 42 #[.int .i64 26214400, .int .i64 26214400] w fun e w' => e = .returned (⟨26214400, 26214400, false⟩ : Sp).v ∧ Below w.heap.size w w') := by
    intro w; have := of_any 26214400 26214400 w; rwa [av8] at this
  go_enter Try.func16, Try.ntmps16
  (go_wp2_with fail; (refine (((vof_any 1048576 2097152 0 _))).mono ?_; rintro e w2 ⟨rfl, hb⟩; replace K := Lib.hid (Keep.stays _ _ K.out hb); clear hb))
  (go_wp2_with fail; (refine (((vof_any 3145728 1048576 5 _))).mono ?_; rintro e w2 ⟨rfl, hb⟩; replace K := Lib.hid (Keep.stays _ _ K.out hb); clear hb))
  (go_wp2_with fail; (refine (((dot_any (vof 1048576 2097152 0) (vof 3145728 1048576 5) _))).mono ?_; rintro e w2 ⟨rfl, hb⟩; replace K := Lib.hid (Keep.stays _ _ K.out hb); clear hb))
  rw [A1.out]
  (go_upto_region 2 with fail; replace K := Lib.hid (K.out.alloc (Obj.box ⟨5242880, 5242880, false⟩)); generalize w2.heap.size = gg at *; refine out_keep K.out ?_; clear K; intro W K; replace K := Lib.hid K; clear w2)
  (go_wp2_with fail; (refine (((vof_any 1048576 0 0 _))).mono ?_; rintro e w2 ⟨rfl, hb⟩; replace K := Lib.hid (Keep.stays _ _ K.out hb); clear hb))
  (go_wp2_with fail; (refine (((vof_any 0 1048576 0 _))).mono ?_; rintro e w2 ⟨rfl, hb⟩; replace K := Lib.hid (Keep.stays _ _ K.out hb); clear hb))
  (go_wp2_with fail; (refine (((cross_any (vof 1048576 0 0) (vof 0 1048576 0) _))).mono ?_; rintro e w2 ⟨rfl, hb⟩; replace K := Lib.hid (Keep.stays _ _ K.out hb); clear hb))
  rw [A2.out]
  (go_upto_region 3 with fail; replace K := Lib.hid (K.out.alloc (Obj.vec 25 ⟨⟨0, 0, false⟩, ⟨0, 0, false⟩, ⟨1048576, 1048576, false⟩⟩)); generalize w2.heap.size = gg at *; refine out_keep K.out ?_; clear K; intro W K; replace K := Lib.hid K; clear w2)
  (go_wp2_with fail; (refine (((vof_any 3145728 4194304 0 _))).mono ?_; rintro e w2 ⟨rfl, hb⟩; replace K := Lib.hid (Keep.stays _ _ K.out hb); clear hb))
  (go_wp2_with fail; (refine (((norm2_any (vof 3145728 4194304 0) _))).mono ?_; rintro e w2 ⟨rfl, hb⟩; replace K := Lib.hid (Keep.stays _ _ K.out hb); clear hb))
  rw [A3.out]
  (go_upto_region 4 with fail; replace K := Lib.hid (K.out.alloc (Obj.box ⟨26214400, 26214400, false⟩)); generalize w2.heap.size = gg at *; refine out_keep K.out ?_; clear K; intro W K; replace K := Lib.hid K; clear w2)
  (go_wp2_with fail; (refine (((vof_any 1 2 3 _))).mono ?_; rintro e w2 ⟨rfl, hb⟩; replace K := Lib.hid (Keep.stays _ _ K.out hb); clear hb))
  (go_wp2_with fail; (refine (((vrad_any (vof 1 2 3) _))).mono ?_; rintro e w2 ⟨rfl, hb⟩; replace K := Lib.hid (Keep.stays _ _ K.out hb); clear hb))
  rw [A4.out]
  (go_wp2_with fail; (refine (((vof_any 1 2 1099511627776 _))).mono ?_; rintro e w2 ⟨rfl, hb⟩; replace K := Lib.hid (Keep.stays _ _ K.out hb); clear hb))
  (go_wp2_with fail; (refine (((vrad_any (vof 1 2 1099511627776) _))).mono ?_; rintro e w2 ⟨rfl, hb⟩; replace K := Lib.hid (Keep.stays _ _ K.out hb); clear hb))
  rw [A5.out]
  go_wp2_with fail
  (refine region_quiet _ (by kernel_rfl) (by kernel_rfl) K.out.drew ?_; haveI ne := Keep.ne K)
  (have c10 := Keep.at0 K (.head _); have c11 := Keep.at1 K (.head _); have c12 := Keep.at2 K (.head _))
  (have c20 := Keep.av0 K (.tail _ (.head _)); have c21 := Keep.av1 K (.tail _ (.head _)); have c22 := Keep.av2 K (.tail _ (.head _)); have c23 := Keep.av3 K (.tail _ (.head _)); have c24 := Keep.av4 K (.tail _ (.head _)); have c25 := Keep.av5 K (.tail _ (.head _)); have c26 := Keep.av6 K (.tail _ (.head _)); have c27 := Keep.av7 K (.tail _ (.head _)); have c28 := Keep.av8 K (.tail _ (.head _)))
  (have c30 := Keep.at0 K (.tail _ (.tail _ (.head _))); have c31 := Keep.at1 K (.tail _ (.tail _ (.head _))); have c32 := Keep.at2 K (.tail _ (.tail _ (.head _))))
  repeat (go_big_quiet_step (first | (go_at_call 42; with_reducible exact At.call Keep.stays (A6.out _)) | (go_at_call 36; with_reducible exact At.call Keep.stays (A7.out _)) | (go_at_call 42; with_reducible exact At.call Keep.stays (A8.out _))))
  (refine wpQuiet_nil ?_; clear ne K; intro W K; replace K := Lib.hid K)
  go_wp2_with fail
  go_ret
  exact ⟨rfl, K.out.B⟩
end Go.Proofs.Ytehjfjdopeadfaa
