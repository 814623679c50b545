/- Walks of the ends of four numbers, of floor, of what products and quotients come to. -/
import Derived.Test.YtehjfjdopeadfaaSpW2
import Derived.Deep.LoopGhost
set_option linter.unusedVariables false
set_option linter.unusedSimpArgs false
namespace Go.Proofs.Ytehjfjdopeadfaa
open Go.RowKit SpMath

theorem mul_bound {a b : Int} (h1 : -2147483647 ≤ a) (h2 : a ≤ 2147483647) (h3 : -2147483647 ≤ b) (h4 : b ≤ 2147483647) : -4611686014132420609 ≤ a * b ∧ a * b ≤ 4611686014132420609 := by
  have h := Int.natAbs_mul a b
  have h' := Nat.mul_le_mul (show a.natAbs ≤ 2147483647 by omega) (show b.natAbs ≤ 2147483647 by omega)
  rw [← h] at h'
  omega

theorem drewN_below (w : World) (n : Nat) : Below w.heap.size w (w.drewN n) := by
  induction n generalizing w with
  | zero => exact Below.refl _ _
  | succ n ih =>
    rw [← World.drew_drewN]
    exact (ih w).drew

theorem ret_two {a b c d : Int} {k : IntKind} (h : a = c) (h2 : b = d) : Ending.returned (.tuple #[.int k a, .int k b]) = .returned (.tuple #[.int k c, .int k d]) := by rw [h, h2]

set_option maxHeartbeats 1000000 in
set_option maxRecDepth 100000 in
theorem ends_any (a b c d : Int) (w : World) : Calls Try.prog 77 #[.agg #[.int .i64 a, .int .i64 b, .int .i64 c, .int .i64 d]] w fun e w' => e = .returned (.tuple #[.int .i64 (lo4 a b c d), .int .i64 (hi4 a b c d)]) ∧ Below w.heap.size w w' := by
  have HB : Hid (∀ n, Below w.heap.size w ((w.alloc (.cells #[.int .i64 a, .int .i64 b, .int .i64 c, .int .i64 d] 73)).drewN n)) := by
    intro n
    have h := (Below.refl w.heap.size w).alloc (Nat.le_refl _) (.cells #[.int .i64 a, .int .i64 b, .int .i64 c, .int .i64 d] 73)
    exact below_then h h.size (drewN_below _ n)
  go_enter Try.func77, Try.ntmps77
  go_wp2_with fail
  go_quiet (fail)
  go_wp2_with fail
  replace HB := Lib.hid (HB.out nq)
  generalize (w.alloc (.cells #[.int .i64 a, .int .i64 b, .int .i64 c, .int .i64 d] 73)).drewN nq = W at *
  have i0 : ∀ w, (Instr.index 73 (.agg #[.int .i64 a, .int .i64 b, .int .i64 c, .int .i64 d]) (.int .i64 0)).run Try.prog w = .ok (.int .i64 a) w := fun _ => by kernel_rfl
  have i1 : ∀ w, (Instr.index 73 (.agg #[.int .i64 a, .int .i64 b, .int .i64 c, .int .i64 d]) (.int .i64 1)).run Try.prog w = .ok (.int .i64 b) w := fun _ => by kernel_rfl
  have i2 : ∀ w, (Instr.index 73 (.agg #[.int .i64 a, .int .i64 b, .int .i64 c, .int .i64 d]) (.int .i64 2)).run Try.prog w = .ok (.int .i64 c) w := fun _ => by kernel_rfl
  have i3 : ∀ w, (Instr.index 73 (.agg #[.int .i64 a, .int .i64 b, .int .i64 c, .int .i64 d]) (.int .i64 3)).run Try.prog w = .ok (.int .i64 d) w := fun _ => by kernel_rfl
  go_loopg [2, 3, 11] 4 (fun g lv hv iv wr => (g = 4 ∧ iv = .int .i64 0 ∧ lv = .int .i64 (a) ∧ hv = .int .i64 (a) ∧ wr = W) ∨ (g = 3 ∧ iv = .int .i64 1 ∧ lv = .int .i64 (min a a) ∧ hv = .int .i64 (max a a) ∧ wr = W) ∨ (g = 2 ∧ iv = .int .i64 2 ∧ lv = .int .i64 (min (min a a) b) ∧ hv = .int .i64 (max (max a a) b) ∧ wr = W) ∨ (g = 1 ∧ iv = .int .i64 3 ∧ lv = .int .i64 (min (min (min a a) b) c) ∧ hv = .int .i64 (max (max (max a a) b) c) ∧ wr = W) ∨ (g = 0 ∧ iv = .int .i64 4 ∧ lv = .int .i64 (min (min (min (min a a) b) c) d) ∧ hv = .int .i64 (max (max (max (max a a) b) c) d) ∧ wr = W))
  case atStart => exact .inl ⟨rfl, rfl, rfl, rfl, rfl⟩
  case round =>
    rcases hrel with ⟨rfl, rfl, rfl, rfl, rfl⟩ | ⟨rfl, rfl, rfl, rfl, rfl⟩ | ⟨rfl, rfl, rfl, rfl, rfl⟩ | ⟨rfl, rfl, rfl, rfl, rfl⟩ | ⟨rfl, rfl, rfl, rfl, rfl⟩
    · go_wp2_with fail
      go_roundg 3
      case measure => omega
      case rel => exact .inr (.inl ⟨rfl, rfl, congrArg (Value.int .i64) (by omega), congrArg (Value.int .i64) (by omega), rfl⟩)
    · go_wp2_with fail
      go_roundg 2
      case measure => omega
      case rel => exact .inr (.inr (.inl ⟨rfl, rfl, congrArg (Value.int .i64) (by omega), congrArg (Value.int .i64) (by omega), rfl⟩))
    · go_wp2_with fail
      go_roundg 1
      case measure => omega
      case rel => exact .inr (.inr (.inr (.inl ⟨rfl, rfl, congrArg (Value.int .i64) (by omega), congrArg (Value.int .i64) (by omega), rfl⟩)))
    · go_wp2_with fail
      go_roundg 0
      case measure => omega
      case rel => exact .inr (.inr (.inr (.inr ⟨rfl, rfl, congrArg (Value.int .i64) (by omega), congrArg (Value.int .i64) (by omega), rfl⟩)))
    · go_wp2_with fail
      go_ret2
      exact ⟨ret_two (by simp [lo4]) (by simp [hi4]), HB.out⟩

theorem tdiv_floor (a b : Int) (hb : b ≠ 0) : fl a b = if a.tmod b ≠ 0 ∧ (decide (a < 0) != decide (b < 0)) = true then a.tdiv b - 1 else a.tdiv b := by
  have key : ∀ (a b z : Int), 0 < b → b * z ≤ a → a < b * z + b → a / b = z := by
    intro a b z hb h1 h2
    apply Int.le_antisymm
    · have : a / b < z + 1 := Int.ediv_lt_of_lt_mul hb (by rw [Int.add_mul, Int.mul_comm z b]; omega)
      omega
    · exact Int.le_ediv_of_mul_le hb (by rw [Int.mul_comm]; exact h1)
  have e := Int.mul_tdiv_add_tmod a b
  unfold fl
  by_cases hp : 0 < b
  · rw [if_pos hp]
    have hlt := Int.tmod_lt_of_pos a hp
    have hge : a < 0 → -b < a.tmod b := by
      intro h
      have := Int.tmod_lt_of_pos (-a) hp
      rw [Int.neg_tmod] at this
      omega
    have hs : 0 ≤ a → 0 ≤ a.tmod b := fun h => Int.tmod_nonneg b h
    have hs2 : a < 0 → a.tmod b ≤ 0 := by
      intro h
      have := Int.tmod_nonneg b (show 0 ≤ -a by omega)
      rw [Int.neg_tmod] at this
      omega
    generalize a.tdiv b = q at *
    generalize a.tmod b = r at *
    have e3 : b * (q - 1) = b * q - b := by rw [Int.mul_sub, Int.mul_one]
    have db : decide (b < 0) = false := decide_eq_false (by omega)
    rw [db]
    by_cases ha : a < 0
    · rw [decide_eq_true ha]
      by_cases hr : r = 0
      · rw [if_neg (by simp [hr])]
        exact key a b q hp (by omega) (by omega)
      · rw [if_pos (by simp [hr])]
        have := hge ha; have := hs2 ha
        exact key a b (q - 1) hp (by omega) (by omega)
    · rw [decide_eq_false ha, if_neg (by simp)]
      have := hs (by omega)
      exact key a b q hp (by omega) (by omega)
  · rw [if_neg hp]
    have hn : 0 < -b := by omega
    have e2 : a.tmod (-b) = a.tmod b := Int.tmod_neg a b
    have hlt := Int.tmod_lt_of_pos a hn
    have hge : a < 0 → b < a.tmod b := by
      intro h
      have := Int.tmod_lt_of_pos (-a) hn
      rw [Int.neg_tmod, e2] at this
      omega
    have hs : 0 ≤ a → 0 ≤ a.tmod b := fun h => Int.tmod_nonneg b h
    have hs2 : a < 0 → a.tmod b ≤ 0 := by
      intro h
      have := Int.tmod_nonneg b (show 0 ≤ -a by omega)
      rw [Int.neg_tmod] at this
      omega
    rw [e2] at hlt
    clear e2
    generalize a.tdiv b = q at *
    generalize a.tmod b = r at *
    have e3 : -b * (q - 1) = -(b * q) + b := by rw [Int.mul_sub, Int.mul_one, Int.neg_mul]; omega
    have e4 : -b * q = -(b * q) := Int.neg_mul b q
    have db : decide (b < 0) = true := decide_eq_true (by omega)
    rw [db]
    by_cases ha : a < 0
    · rw [decide_eq_true ha, if_neg (by simp)]
      have := hge ha; have := hs2 ha
      exact key (-a) (-b) q hn (by omega) (by omega)
    · rw [decide_eq_false ha]
      by_cases hr : r = 0
      · rw [if_neg (by simp [hr])]
        exact key (-a) (-b) q hn (by omega) (by omega)
      · rw [if_pos (by simp [hr])]
        have := hs (by omega)
        exact key (-a) (-b) (q - 1) hn (by omega) (by omega)


set_option maxHeartbeats 1000000 in
set_option maxRecDepth 100000 in
theorem floor_any (a b : Int) (w : World) (hb : b ≠ 0) (h1 : -2251799813685248 ≤ a) (h2 : a ≤ 2251799813685248) (h3 : -2147483647 ≤ b) (h4 : b ≤ 2147483647) : Calls Try.prog 81 #[.int .i64 a, .int .i64 b] w fun e w' => e = .returned (.int .i64 (fl a b)) ∧ w = w' := by
  have HF := Lib.hid (tdiv_floor a b hb)
  have hq : -2251799813685248 ≤ a.tdiv b ∧ a.tdiv b ≤ 2251799813685248 := by
    have := Int.natAbs_tdiv_le_natAbs a b
    omega
  obtain ⟨q1, q2⟩ := hq
  by_cases hr : a.tmod b = 0
  · go_enter Try.func81, Try.ntmps81
    go_wp2_with fail
    go_ret
    exact ⟨ret_int (by rw [HF.out, if_neg (by simp [hr])]), rfl⟩
  · by_cases ha : a < 0
    · by_cases hbn : b < 0
      · go_enter Try.func81, Try.ntmps81
        go_wp2_with fail
        go_ret
        exact ⟨ret_int (by rw [HF.out, if_neg (by simp [ha, hbn])]), rfl⟩
      · go_enter Try.func81, Try.ntmps81
        go_wp2_with fail
        go_ret
        exact ⟨ret_int (by rw [HF.out, if_pos (by simp [hr, ha, hbn])]), rfl⟩
    · have hr2 : ¬ a % b = 0 := by rwa [← Int.tmod_eq_emod_of_nonneg (by omega)]
      by_cases hbn : b < 0
      · go_enter Try.func81, Try.ntmps81
        go_wp2_with fail
        go_ret
        exact ⟨ret_int (by rw [HF.out, if_pos ⟨hr, by simp [hbn]; omega⟩]), rfl⟩
      · go_enter Try.func81, Try.ntmps81
        go_wp2_with fail
        go_ret
        exact ⟨ret_int (by rw [HF.out, if_neg (by rw [decide_eq_false (show ¬ a < 0 by omega), decide_eq_false (show ¬ b < 0 by omega)]; simp)]), rfl⟩

set_option maxHeartbeats 1000000 in
set_option maxRecDepth 100000 in
theorem mulF_any (x y : Sp) (w : World) (fx : Fin x) (fy : Fin y) : Calls Try.prog 76 #[x.v, y.v] w fun e w' => e = .returned (mulF x y).v ∧ Below w.heap.size w w' := by
  obtain ⟨hx, hy, hz, hb⟩ := three_boxes w x y ⟨0, 0, false⟩
  have HZ := Lib.hid hz; have HB := Lib.hid hb
  clear hx hy hz hb
  obtain ⟨lo, hi, all⟩ := x
  obtain ⟨l2, h2, all2⟩ := y
  obtain ⟨a0, a1, a2, a3⟩ := fx
  obtain ⟨b0, b1, b2, b3⟩ := fy
  simp only at a0 a1 a2 a3 b0 b1 b2 b3
  subst a0; subst b0
  obtain ⟨m1, m2⟩ := mul_bound (a := lo) (b := l2) (by omega) (by omega) (by omega) (by omega)
  obtain ⟨m3, m4⟩ := mul_bound (a := lo) (b := h2) (by omega) (by omega) (by omega) (by omega)
  obtain ⟨m5, m6⟩ := mul_bound (a := hi) (b := l2) (by omega) (by omega) (by omega) (by omega)
  obtain ⟨m7, m8⟩ := mul_bound (a := hi) (b := h2) (by omega) (by omega) (by omega) (by omega)
  have HM : Hid (mulF ⟨lo, hi, false⟩ ⟨l2, h2, false⟩ = made (lo4 (lo * l2) (lo * h2) (hi * l2) (hi * h2) / 1048576) (-(-(hi4 (lo * l2) (lo * h2) (hi * l2) (hi * h2)) / 1048576))) := rfl
  have n1 : -4611686014132420609 ≤ lo4 (lo * l2) (lo * h2) (hi * l2) (hi * h2) ∧ lo4 (lo * l2) (lo * h2) (hi * l2) (hi * h2) ≤ 4611686014132420609 := by unfold lo4; omega
  have n2 : -4611686014132420609 ≤ hi4 (lo * l2) (lo * h2) (hi * l2) (hi * h2) ∧ hi4 (lo * l2) (lo * h2) (hi * l2) (hi * h2) ≤ 4611686014132420609 := by unfold hi4; omega
  have HE := Lib.hid (fun w => ends_any (lo * l2) (lo * h2) (hi * l2) (hi * h2) w)
  generalize lo4 (lo * l2) (lo * h2) (hi * l2) (hi * h2) = L at *
  generalize hi4 (lo * l2) (lo * h2) (hi * l2) (hi * h2) = H at *
  obtain ⟨n1, n1'⟩ := n1
  obtain ⟨n2, n2'⟩ := n2
  go_enter Try.func76, Try.ntmps76
  go_wp2_with fail
  refine (HE.out _).mono ?_; rintro e w3 ⟨rfl, hb⟩
  clear HE
  replace HZ := Lib.hid (HZ.out.below hb rfl)
  replace HB := Lib.hid (below_go HB.out HB.out.size hb rfl rfl rfl rfl)
  clear hb
  go_wp2_with fail
  refine (made_any (L / 1048576) (-(-H / 1048576)) _).mono ?_; rintro e w4 ⟨rfl, hb⟩
  (replace HZ := Lib.hid (HZ.out.below hb rfl); replace HB := Lib.hid (below_go HB.out HB.out.size hb rfl rfl rfl rfl); clear hb; (try clear f c0 c1 c2); (try clear g d0 d1 d2); (have k := (HZ).out.warm; have b0 := (HZ).out.cell0; have b1 := (HZ).out.cell1; have b2 := (HZ).out.cell2))
  go_wp2_with fail
  exact ret_sp Try.results76 rfl (HZ.out.put (made (L / 1048576) (-(-H / 1048576)))) ⟨by rw [HM.out], below_put HB.out (by omega) _ _ _⟩

end Go.Proofs.Ytehjfjdopeadfaa
