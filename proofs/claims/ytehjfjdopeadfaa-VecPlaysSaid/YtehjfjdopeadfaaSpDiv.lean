/- Walks of products, quotients and squares of spans. -/
import Derived.Test.YtehjfjdopeadfaaSpOps
import Derived.Test.YtehjfjdopeadfaaSpBoth
import Derived.Test.YtehjfjdopeadfaaSpT
set_option linter.unusedVariables false
set_option linter.unusedSimpArgs false
namespace Go.Proofs.Ytehjfjdopeadfaa
open Go.RowKit SpMath

theorem fl_bound {a b : Int} (hb : b ≠ 0) (h1 : -2251799813685248 ≤ a) (h2 : a ≤ 2251799813685248) : -2251799813685249 ≤ fl a b ∧ fl a b ≤ 2251799813685248 := by
  rw [tdiv_floor a b hb]
  have := Int.natAbs_tdiv_le_natAbs a b
  split <;> omega

theorem lo4_bound {a b c d k m : Int} (ha : k ≤ a ∧ a ≤ m) (hb : k ≤ b ∧ b ≤ m) (hc : k ≤ c ∧ c ≤ m) (hd : k ≤ d ∧ d ≤ m) : k ≤ lo4 a b c d ∧ lo4 a b c d ≤ m := by unfold lo4; omega

set_option maxHeartbeats 2000000 in
set_option maxRecDepth 100000 in
theorem divF_any (x y : Sp) (w : World) (fx : Fin x) (fy : Fin y) : Calls Try.prog 80 #[x.v, y.v] w fun e w' => e = .returned (divF x y).v ∧ Below w.heap.size w w' := by
  obtain ⟨hx, hy, hz, hb⟩ := three_boxes w x y ⟨0, 0, false⟩
  have HX := Lib.hid hx; have HY := Lib.hid hy; have HZ := Lib.hid hz; have HB := Lib.hid hb
  clear hx hy hz hb
  obtain ⟨lo, hi, all⟩ := x
  obtain ⟨l2, h2, all2⟩ := y
  have HFY := Lib.hid fy
  obtain ⟨a0, a1, a2, a3⟩ := fx
  obtain ⟨b0, b1, b2, b3⟩ := fy
  simp only at a0 a1 a2 a3 b0 b1 b2 b3
  subst a0; subst b0
  have HH : Hid (has ⟨l2, h2, false⟩ 0 = (decide (l2 ≤ 0) && decide (0 ≤ h2))) := by show _ = _; unfold has; rw [right_fin HFY.out]; simp
  by_cases h0 : l2 ≤ 0 ∧ 0 ≤ h2
  · have HM : Hid (divF ⟨lo, hi, false⟩ ⟨l2, h2, false⟩ = whole) := if_pos h0
    have h0' : has ⟨l2, h2, false⟩ 0 = true := by rw [HH.out]; simp [h0.1, h0.2]
    have HC : Hid (∀ w, Calls Try.prog 17 #[.agg #[.int .i64 l2, .int .i64 h2, .bool false], .int .i64 0] w fun e w' => e = .returned (.bool true) ∧ Below w.heap.size w w') := by
      intro w
      have := has_any ⟨l2, h2, false⟩ 0 rfl w
      rw [h0'] at this
      exact this
    clear h0 h0'
    go_enter Try.func80, Try.ntmps80
    go_wp2_with fail
    refine (HC.out _).mono ?_; rintro e w3 ⟨rfl, hb⟩
    clear HC
    replace HZ := Lib.hid (HZ.out.below hb rfl)
    replace HB := Lib.hid (below_go HB.out HB.out.size hb rfl rfl rfl rfl)
    clear hb
    go_wp2_with fail
    refine (whole_any _).mono ?_; rintro e w4 ⟨rfl, hb⟩
    (replace HZ := Lib.hid (HZ.out.below hb rfl); replace HB := Lib.hid (below_go HB.out HB.out.size hb rfl rfl rfl rfl); clear hb; (try clear f c0 c1 c2); (try clear g d0 d1 d2); (have k := (HZ).out.warm; have b0 := (HZ).out.cell0; have b1 := (HZ).out.cell1; have b2 := (HZ).out.cell2))
    have hw := whole_v
    go_wp2_with fail
    exact ret_sp Try.results80 rfl (HZ.out.put ⟨0, 0, true⟩) ⟨by rw [HM.out]; rfl, below_put HB.out (by omega) _ _ _⟩
  · have h0' : has ⟨l2, h2, false⟩ 0 = false := by rw [HH.out]; simp; omega
    have HC : Hid (∀ w, Calls Try.prog 17 #[.agg #[.int .i64 l2, .int .i64 h2, .bool false], .int .i64 0] w fun e w' => e = .returned (.bool false) ∧ Below w.heap.size w w') := by
      intro w
      have := has_any ⟨l2, h2, false⟩ 0 rfl w
      rw [h0'] at this
      exact this
    have n1 : l2 ≠ 0 := by omega
    have n2 : h2 ≠ 0 := by omega
    have HM : Hid (divF ⟨lo, hi, false⟩ ⟨l2, h2, false⟩ = made (lo4 (fl (lo * 1048576) l2) (fl (lo * 1048576) h2) (fl (hi * 1048576) l2) (fl (hi * 1048576) h2)) (-(lo4 (fl (-lo * 1048576) l2) (fl (-lo * 1048576) h2) (fl (-hi * 1048576) l2) (fl (-hi * 1048576) h2)))) := if_neg h0
    clear h0 h0'
    have HE1 := Lib.hid (fun w => ends_any (fl (lo * 1048576) l2) (fl (lo * 1048576) h2) (fl (hi * 1048576) l2) (fl (hi * 1048576) h2) w)
    have HE2 := Lib.hid (fun w => ends_any (fl (-lo * 1048576) l2) (fl (-lo * 1048576) h2) (fl (-hi * 1048576) l2) (fl (-hi * 1048576) h2) w)
    have F1 := Lib.hid (fun w => floor_any (lo * 1048576) l2 w n1 (by omega) (by omega) (by omega) (by omega))
    have F2 := Lib.hid (fun w => floor_any (lo * 1048576) h2 w n2 (by omega) (by omega) (by omega) (by omega))
    have F3 := Lib.hid (fun w => floor_any (hi * 1048576) l2 w n1 (by omega) (by omega) (by omega) (by omega))
    have F4 := Lib.hid (fun w => floor_any (hi * 1048576) h2 w n2 (by omega) (by omega) (by omega) (by omega))
    have F5 := Lib.hid (fun w => floor_any (-lo * 1048576) l2 w n1 (by omega) (by omega) (by omega) (by omega))
    have F6 := Lib.hid (fun w => floor_any (-lo * 1048576) h2 w n2 (by omega) (by omega) (by omega) (by omega))
    have F7 := Lib.hid (fun w => floor_any (-hi * 1048576) l2 w n1 (by omega) (by omega) (by omega) (by omega))
    have F8 := Lib.hid (fun w => floor_any (-hi * 1048576) h2 w n2 (by omega) (by omega) (by omega) (by omega))
    have B1 := Lib.hid (lo4_bound (fl_bound (a := -lo * 1048576) n1 (by omega) (by omega)) (by have := fl_bound (a := -lo * 1048576) n2 (by omega) (by omega); omega) (by have := fl_bound (a := -hi * 1048576) n1 (by omega) (by omega); omega) (by have := fl_bound (a := -hi * 1048576) n2 (by omega) (by omega); omega))
    generalize fl (lo * 1048576) l2 = f1 at *
    generalize fl (lo * 1048576) h2 = f2 at *
    generalize fl (hi * 1048576) l2 = f3 at *
    generalize fl (hi * 1048576) h2 = f4 at *
    generalize fl (-lo * 1048576) l2 = f5 at *
    generalize fl (-lo * 1048576) h2 = f6 at *
    generalize fl (-hi * 1048576) l2 = f7 at *
    generalize fl (-hi * 1048576) h2 = f8 at *
    have T := Lib.hid (Three.begin w ⟨lo, hi, false⟩ ⟨l2, h2, false⟩ ⟨0, 0, false⟩)
    clear HX HY HZ HB
    go_enter Try.func80, Try.ntmps80
    go_wp2_with fail
    refine (HC.out _).mono ?_; rintro e w3 ⟨rfl, hb⟩
    clear HC
    replace T := Lib.hid (Three.stays _ _ T.out hb)
    clear hb
    go_wp2_with fail
    refine region_quiet (Three w ⟨lo, hi, false⟩ ⟨l2, h2, false⟩ ⟨0, 0, false⟩) (by kernel_rfl) (by kernel_rfl) (Three.stays.drew T.out) ?_
    (haveI ne : Nonempty (At (Three w ⟨lo, hi, false⟩ ⟨l2, h2, false⟩ ⟨0, 0, false⟩)) := ⟨⟨_, T.out⟩⟩; have cx0 := At.cell0 (I := (Three w ⟨lo, hi, false⟩ ⟨l2, h2, false⟩ ⟨0, 0, false⟩)) (fun _ h => h.X); have cx1 := At.cell1 (I := (Three w ⟨lo, hi, false⟩ ⟨l2, h2, false⟩ ⟨0, 0, false⟩)) (fun _ h => h.X); have cx2 := At.cell2 (I := (Three w ⟨lo, hi, false⟩ ⟨l2, h2, false⟩ ⟨0, 0, false⟩)) (fun _ h => h.X); have cy0 := At.cell0 (I := (Three w ⟨lo, hi, false⟩ ⟨l2, h2, false⟩ ⟨0, 0, false⟩)) (fun _ h => h.Y); have cy1 := At.cell1 (I := (Three w ⟨lo, hi, false⟩ ⟨l2, h2, false⟩ ⟨0, 0, false⟩)) (fun _ h => h.Y); have cy2 := At.cell2 (I := (Three w ⟨lo, hi, false⟩ ⟨l2, h2, false⟩ ⟨0, 0, false⟩)) (fun _ h => h.Y))
    repeat (go_big_quiet_step (first | (go_at_call 81; with_reducible exact At.same (F1.out _)) | (go_at_call 81; with_reducible exact At.same (F2.out _)) | (go_at_call 81; with_reducible exact At.same (F3.out _)) | (go_at_call 81; with_reducible exact At.same (F4.out _)) | (go_at_call 77; with_reducible exact At.call Three.stays (HE1.out _))))
    refine wpQuiet_nil ?_
    clear T
    intro w4 T
    replace T := Lib.hid T
    go_wp2_with fail
    refine region_quiet (Three w ⟨lo, hi, false⟩ ⟨l2, h2, false⟩ ⟨0, 0, false⟩) (by kernel_rfl) (by kernel_rfl) (Three.stays.drew T.out) ?_
    repeat (go_big_quiet_step (first | (go_at_call 81; with_reducible exact At.same (F5.out _)) | (go_at_call 81; with_reducible exact At.same (F6.out _)) | (go_at_call 81; with_reducible exact At.same (F7.out _)) | (go_at_call 81; with_reducible exact At.same (F8.out _)) | (go_at_call 77; with_reducible exact At.call Three.stays (HE2.out _))))
    refine wpQuiet_nil ?_
    (clear ne; (try clear cx0 cx1 cx2); (try clear cy0 cy1 cy2); (try clear cz0 cz1 cz2))
    clear T
    intro w5 T
    replace T := Lib.hid T
    obtain ⟨B11, B12⟩ := B1.out
    go_wp2_with fail
    refine (made_any _ _ _).mono ?_; rintro e w6 ⟨rfl, hb⟩
    replace T := Lib.hid (Three.stays _ _ T.out hb)
    clear hb
    (have f := (T.out.Z).warm; have c0 := (T.out.Z).cell0; have c1 := (T.out.Z).cell1; have c2 := (T.out.Z).cell2)
    go_wp2_with fail
    exact ret_sp Try.results80 rfl (T.out.put _).Z ⟨by rw [HM.out], (T.out.put _).B⟩

set_option maxRecDepth 100000 in
theorem mul_any (x y : Sp) (w : World) : Calls Try.prog 43 #[x.v, y.v] w fun e w' => e = .returned (mul x y).v ∧ Below w.heap.size w w' := by
  obtain ⟨hx, hy, hz, hb⟩ := three_boxes w x y ⟨0, 0, false⟩
  have HZ := Lib.hid hz; have HB := Lib.hid hb
  clear hx hy hz hb
  go_enter Try.func43, Try.ntmps43
  go_wp2_with fail
  refine (both_any 76 (by decide) mulF mulF_any x y _).mono ?_; rintro e w3 ⟨rfl, hb⟩
  (replace HZ := Lib.hid (HZ.out.below hb rfl); replace HB := Lib.hid (below_go HB.out HB.out.size hb rfl rfl rfl rfl); clear hb; (try clear f c0 c1 c2); (try clear g d0 d1 d2); (have k := (HZ).out.warm; have b0 := (HZ).out.cell0; have b1 := (HZ).out.cell1; have b2 := (HZ).out.cell2))
  go_wp2_with fail
  exact ret_sp Try.results43 rfl (HZ.out.put (mul x y)) ⟨rfl, below_put HB.out (by omega) _ _ _⟩

end Go.Proofs.Ytehjfjdopeadfaa
