/- The walk of the statement SpanHolds. -/
import Derived.Test.YtehjfjdopeadfaaSpTi
import Derived.Test.YtehjfjdopeadfaaSpN
set_option linter.unusedVariables false
set_option linter.unusedSimpArgs false
namespace Go.Proofs.Ytehjfjdopeadfaa
open Go.RowKit SpMath

theorem withinB_of {s : Sp} {n b : Int} (h : Within s n b) : withinB s n b = true := by
  unfold withinB
  rcases h with h | ⟨h1, h2⟩
  · rw [h]; rfl
  · rw [decide_eq_true h1, decide_eq_true h2, Bool.and_self, Bool.or_true]

set_option maxHeartbeats 4000000 in
set_option maxRecDepth 100000 in
theorem SpanHolds_walk (xl xh : Int) (xa : Bool) (yl yh : Int) (ya : Bool) (a b : Int) (v0 : (Lit.int .i64 xl).wf = true) (v1 : (Lit.int .i64 xh).wf = true) (v2 : (Lit.int .i64 yl).wf = true) (v3 : (Lit.int .i64 yh).wf = true) (v4 : (Lit.int .i64 a).wf = true) (v5 : (Lit.int .i64 b).wf = true) {w : World} :
    Calls Try.prog 12 #[.agg #[.int .i64 xl, .int .i64 xh, .bool xa], .agg #[.int .i64 yl, .int .i64 yh, .bool ya], .int .i64 a, .int .i64 b] w fun e w' => e = .returned (.bool true) ∧ Below w.heap.size w w' := by
  clear v0 v1 v2 v3
  have V4 := Lib.hid v4; have V5 := Lib.hid v5
  clear v4 v5
  have K := Lib.hid (Keep.begin2 w (Obj.box ⟨xl, xh, xa⟩) (Obj.box ⟨yl, yh, ya⟩))
  generalize hx : (⟨xl, xh, xa⟩ : Sp) = x at K
  generalize hy : (⟨yl, yh, ya⟩ : Sp) = y at K
  have ex : (Value.agg #[.int .i64 xl, .int .i64 xh, .bool xa]) = x.v := by rw [← hx]
  have ey : (Value.agg #[.int .i64 yl, .int .i64 yh, .bool ya]) = y.v := by rw [← hy]
  rw [ex, ey]
  clear ex ey hx hy
  by_cases hg : has x a = true ∧ has y b = true ∧ -2147483647 ≤ a ∧ a ≤ 2147483647 ∧ -2147483647 ≤ b ∧ b ≤ 2147483647
  · obtain ⟨g1, g2, r1, r2, r3, r4⟩ := hg
    have G1 := Lib.hid g1; have G2 := Lib.hid g2
    have W1 := Lib.hid (withinB_of (holds_add g1 g2))
    have W2 := Lib.hid (withinB_of (holds_sub g1 g2))
    have W3 := Lib.hid (withinB_of (holds_mul g1 g2))
    have W4 := Lib.hid (withinB_of (holds_sqr g1))
    have W5 := Lib.hid (withinB_of (holds_neg g1))
    have HD := Lib.hid (holds_div g1 g2)
    have HR := Lib.hid (fun h0 => holds_sqrt g1 h0)
    have OD := Lib.hid (ok_fin (ok_div x y))
    have OR := Lib.hid (ok_fin (ok_sqrt x))
    clear g1 g2
    obtain ⟨m1, m2⟩ := mul_bound r1 r2 r3 r4
    obtain ⟨m3, m4⟩ := mul_bound r1 r2 r1 r2
    go_enter Try.func12, Try.ntmps12
    (go_wp2_with fail; (refine (((awake_any _))).mono ?_; rintro e w2 ⟨rfl, hb⟩; replace K := Lib.hid (Keep.stays _ _ K.out hb); clear hb))
    (have f1 := (K.out.sp (.tail _ (.head _))).warm; have c10 := (K.out.sp (.tail _ (.head _))).cell0; have c11 := (K.out.sp (.tail _ (.head _))).cell1; have c12 := (K.out.sp (.tail _ (.head _))).cell2)
    (have f2 := (K.out.sp (.head _)).warm; have c20 := (K.out.sp (.head _)).cell0; have c21 := (K.out.sp (.head _)).cell1; have c22 := (K.out.sp (.head _)).cell2)
    go_wp2_with fail
    (refine ((has_any x a V4.out _)).mono ?_; rintro e w2 ⟨rfl, hb⟩; replace K := Lib.hid (Keep.stays _ _ K.out hb); clear hb; rw [G1.out])
    (((try clear f1); (try clear c10 c11 c12)); ((try clear f2); (try clear c20 c21 c22)); (have f1 := (K.out.sp (.tail _ (.head _))).warm; have c10 := (K.out.sp (.tail _ (.head _))).cell0; have c11 := (K.out.sp (.tail _ (.head _))).cell1; have c12 := (K.out.sp (.tail _ (.head _))).cell2); (have f2 := (K.out.sp (.head _)).warm; have c20 := (K.out.sp (.head _)).cell0; have c21 := (K.out.sp (.head _)).cell1; have c22 := (K.out.sp (.head _)).cell2))
    go_wp2_with fail
    (refine ((has_any y b V5.out _)).mono ?_; rintro e w2 ⟨rfl, hb⟩; replace K := Lib.hid (Keep.stays _ _ K.out hb); clear hb; rw [G2.out])
    (((try clear f1); (try clear c10 c11 c12)); ((try clear f2); (try clear c20 c21 c22)); (have f1 := (K.out.sp (.tail _ (.head _))).warm; have c10 := (K.out.sp (.tail _ (.head _))).cell0; have c11 := (K.out.sp (.tail _ (.head _))).cell1; have c12 := (K.out.sp (.tail _ (.head _))).cell2); (have f2 := (K.out.sp (.head _)).warm; have c20 := (K.out.sp (.head _)).cell0; have c21 := (K.out.sp (.head _)).cell1; have c22 := (K.out.sp (.head _)).cell2))
    (go_wp2_with fail; (refine (((add_any x y _))).mono ?_; rintro e w2 ⟨rfl, hb⟩; replace K := Lib.hid (Keep.stays _ _ K.out hb); clear hb))
    go_wp2_with fail
    (refine ((within_any (add x y) (a + b) 1 _ (ok_fin (ok_add x y)) (by omega) (by omega))).mono ?_; rintro e w2 ⟨rfl, hb⟩; replace K := Lib.hid (Keep.stays _ _ K.out hb); clear hb; rw [W1.out])
    (((try clear f1); (try clear c10 c11 c12)); ((try clear f2); (try clear c20 c21 c22)); (have f1 := (K.out.sp (.tail _ (.head _))).warm; have c10 := (K.out.sp (.tail _ (.head _))).cell0; have c11 := (K.out.sp (.tail _ (.head _))).cell1; have c12 := (K.out.sp (.tail _ (.head _))).cell2); (have f2 := (K.out.sp (.head _)).warm; have c20 := (K.out.sp (.head _)).cell0; have c21 := (K.out.sp (.head _)).cell1; have c22 := (K.out.sp (.head _)).cell2))
    (go_wp2_with fail; (refine (((sub_any x y _))).mono ?_; rintro e w2 ⟨rfl, hb⟩; replace K := Lib.hid (Keep.stays _ _ K.out hb); clear hb))
    go_wp2_with fail
    (refine ((within_any (sub x y) (a - b) 1 _ (ok_fin (ok_sub x y)) (by omega) (by omega))).mono ?_; rintro e w2 ⟨rfl, hb⟩; replace K := Lib.hid (Keep.stays _ _ K.out hb); clear hb; rw [W2.out])
    (((try clear f1); (try clear c10 c11 c12)); ((try clear f2); (try clear c20 c21 c22)); (have f1 := (K.out.sp (.tail _ (.head _))).warm; have c10 := (K.out.sp (.tail _ (.head _))).cell0; have c11 := (K.out.sp (.tail _ (.head _))).cell1; have c12 := (K.out.sp (.tail _ (.head _))).cell2); (have f2 := (K.out.sp (.head _)).warm; have c20 := (K.out.sp (.head _)).cell0; have c21 := (K.out.sp (.head _)).cell1; have c22 := (K.out.sp (.head _)).cell2))
    (go_wp2_with fail; (refine (((mul_any x y _))).mono ?_; rintro e w2 ⟨rfl, hb⟩; replace K := Lib.hid (Keep.stays _ _ K.out hb); clear hb))
    go_wp2_with fail
    (refine ((within_any (mul x y) (a * b) 1048576 _ (ok_fin (ok_mul x y)) (by omega) (by omega))).mono ?_; rintro e w2 ⟨rfl, hb⟩; replace K := Lib.hid (Keep.stays _ _ K.out hb); clear hb; rw [W3.out])
    (((try clear f1); (try clear c10 c11 c12)); ((try clear f2); (try clear c20 c21 c22)); (have f1 := (K.out.sp (.tail _ (.head _))).warm; have c10 := (K.out.sp (.tail _ (.head _))).cell0; have c11 := (K.out.sp (.tail _ (.head _))).cell1; have c12 := (K.out.sp (.tail _ (.head _))).cell2); (have f2 := (K.out.sp (.head _)).warm; have c20 := (K.out.sp (.head _)).cell0; have c21 := (K.out.sp (.head _)).cell1; have c22 := (K.out.sp (.head _)).cell2))
    (go_wp2_with fail; (refine (((sqr_any x _))).mono ?_; rintro e w2 ⟨rfl, hb⟩; replace K := Lib.hid (Keep.stays _ _ K.out hb); clear hb))
    go_wp2_with fail
    (refine ((within_any (sqr x) (a * a) 1048576 _ (ok_fin (ok_sqr x)) (by omega) (by omega))).mono ?_; rintro e w2 ⟨rfl, hb⟩; replace K := Lib.hid (Keep.stays _ _ K.out hb); clear hb; rw [W4.out])
    (((try clear f1); (try clear c10 c11 c12)); ((try clear f2); (try clear c20 c21 c22)); (have f1 := (K.out.sp (.tail _ (.head _))).warm; have c10 := (K.out.sp (.tail _ (.head _))).cell0; have c11 := (K.out.sp (.tail _ (.head _))).cell1; have c12 := (K.out.sp (.tail _ (.head _))).cell2); (have f2 := (K.out.sp (.head _)).warm; have c20 := (K.out.sp (.head _)).cell0; have c21 := (K.out.sp (.head _)).cell1; have c22 := (K.out.sp (.head _)).cell2))
    (go_wp2_with fail; (refine (((neg_any x _))).mono ?_; rintro e w2 ⟨rfl, hb⟩; replace K := Lib.hid (Keep.stays _ _ K.out hb); clear hb))
    go_wp2_with fail
    (refine ((within_any (neg x) (-a) 1 _ (ok_fin (ok_neg x)) (by omega) (by omega))).mono ?_; rintro e w2 ⟨rfl, hb⟩; replace K := Lib.hid (Keep.stays _ _ K.out hb); clear hb; rw [W5.out])
    (((try clear f1); (try clear c10 c11 c12)); ((try clear f2); (try clear c20 c21 c22)); (have f1 := (K.out.sp (.tail _ (.head _))).warm; have c10 := (K.out.sp (.tail _ (.head _))).cell0; have c11 := (K.out.sp (.tail _ (.head _))).cell1; have c12 := (K.out.sp (.tail _ (.head _))).cell2); (have f2 := (K.out.sp (.head _)).warm; have c20 := (K.out.sp (.head _)).cell0; have c21 := (K.out.sp (.head _)).cell1; have c22 := (K.out.sp (.head _)).cell2))
    (go_wp2_with fail; (refine (((div_any x y _))).mono ?_; rintro e w2 ⟨rfl, hb⟩; replace K := Lib.hid (Keep.stays _ _ K.out hb); clear hb))
    ((try clear f1); (try clear c10 c11 c12))
    ((try clear f2); (try clear c20 c21 c22))
    (go_upto_region 12 with fail; replace K := Lib.hid (K.out.alloc (Obj.box (div x y))); generalize w2.heap.size = gg at *; refine out_keep K.out ?_; clear K; intro W K; replace K := Lib.hid K; clear w2)
    rcases hd : div x y with ⟨dl, dh, da⟩
    rw [hd] at K HD OD
    clear hd
    (have f3 := (K.out.sp (.head _)).warm; have c30 := (K.out.sp (.head _)).cell0; have c31 := (K.out.sp (.head _)).cell1; have c32 := (K.out.sp (.head _)).cell2)
    cases da with
    | true =>
      clear HD OD
      go_upto_region 13 with fail
      (have f1 := (K.out.sp (.tail _ (.tail _ (.head _)))).warm; have c10 := (K.out.sp (.tail _ (.tail _ (.head _)))).cell0; have c11 := (K.out.sp (.tail _ (.tail _ (.head _)))).cell1; have c12 := (K.out.sp (.tail _ (.tail _ (.head _)))).cell2)
      (go_wp2_with fail; (refine (((sqrt_any x _))).mono ?_; rintro e w2 ⟨rfl, hb⟩; replace K := Lib.hid (Keep.stays _ _ K.out hb); clear hb))
      ((try clear f1); (try clear c10 c11 c12))
      ((try clear f3); (try clear c30 c31 c32))
      (go_upto_region 14 with fail; replace K := Lib.hid (K.out.alloc (Obj.box (sqrt x))); generalize w2.heap.size = gg at *; refine out_keep K.out ?_; clear K; intro W K; replace K := Lib.hid K; clear w2)
      rcases hr : sqrt x with ⟨rl, rh, ra⟩
      rw [hr] at K HR OR
      clear hr
      (have f4 := (K.out.sp (.head _)).warm; have c40 := (K.out.sp (.head _)).cell0; have c41 := (K.out.sp (.head _)).cell1; have c42 := (K.out.sp (.head _)).cell2)
      cases ra with
      | true =>
        clear HR OR
        go_wp2_with fail
        go_ret
        exact ⟨rfl, K.out.B⟩
      | false =>
        have fr := OR.out.resolve_left (by simp)
        obtain ⟨-, r5, r6, r7⟩ := fr
        simp only at r5 r6 r7
        by_cases ha : a < 0
        · clear HR OR
          go_wp2_with fail
          go_ret
          exact ⟨rfl, K.out.B⟩
        · obtain ⟨z1, z2⟩ := (HR.out (by omega)).resolve_left (by simp)
          simp only at z1 z2
          clear HR OR
          obtain ⟨y1, y2⟩ := mul_bound (a := rl) (b := rl) (by omega) (by omega) (by omega) (by omega)
          obtain ⟨y3, y4⟩ := mul_bound (a := rh) (b := rh) (by omega) (by omega) (by omega) (by omega)
          go_wp2_with fail
          go_ret
          exact ⟨rfl, K.out.B⟩
    | false =>
      have fd := OD.out.resolve_left (by simp)
      obtain ⟨-, d5, d6, d7⟩ := fd
      simp only at d5 d6 d7
      obtain ⟨y1, y2⟩ := mul_bound (a := dl) (b := b) (by omega) (by omega) (by omega) (by omega)
      obtain ⟨y3, y4⟩ := mul_bound (a := dh) (b := b) (by omega) (by omega) (by omega) (by omega)
      rcases HD.out.resolve_left (by simp) with ⟨z1, z2, z3⟩ | ⟨z1, z2, z3⟩
      · simp only at z2 z3
        clear HD OD
        go_upto_region 13 with fail
        clear y1 y2 y3 y4 z1 z2 z3
        (have f1 := (K.out.sp (.tail _ (.tail _ (.head _)))).warm; have c10 := (K.out.sp (.tail _ (.tail _ (.head _)))).cell0; have c11 := (K.out.sp (.tail _ (.tail _ (.head _)))).cell1; have c12 := (K.out.sp (.tail _ (.tail _ (.head _)))).cell2)
        (go_wp2_with fail; (refine (((sqrt_any x _))).mono ?_; rintro e w2 ⟨rfl, hb⟩; replace K := Lib.hid (Keep.stays _ _ K.out hb); clear hb))
        ((try clear f1); (try clear c10 c11 c12))
        ((try clear f3); (try clear c30 c31 c32))
        (go_upto_region 14 with fail; replace K := Lib.hid (K.out.alloc (Obj.box (sqrt x))); generalize w2.heap.size = gg at *; refine out_keep K.out ?_; clear K; intro W K; replace K := Lib.hid K; clear w2)
        rcases hr : sqrt x with ⟨rl, rh, ra⟩
        rw [hr] at K HR OR
        clear hr
        (have f4 := (K.out.sp (.head _)).warm; have c40 := (K.out.sp (.head _)).cell0; have c41 := (K.out.sp (.head _)).cell1; have c42 := (K.out.sp (.head _)).cell2)
        cases ra with
        | true =>
          clear HR OR
          go_wp2_with fail
          go_ret
          exact ⟨rfl, K.out.B⟩
        | false =>
          have fr := OR.out.resolve_left (by simp)
          obtain ⟨-, r5, r6, r7⟩ := fr
          simp only at r5 r6 r7
          by_cases ha : a < 0
          · clear HR OR
            go_wp2_with fail
            go_ret
            exact ⟨rfl, K.out.B⟩
          · obtain ⟨z1, z2⟩ := (HR.out (by omega)).resolve_left (by simp)
            simp only at z1 z2
            clear HR OR
            obtain ⟨y1, y2⟩ := mul_bound (a := rl) (b := rl) (by omega) (by omega) (by omega) (by omega)
            obtain ⟨y3, y4⟩ := mul_bound (a := rh) (b := rh) (by omega) (by omega) (by omega) (by omega)
            go_wp2_with fail
            go_ret
            exact ⟨rfl, K.out.B⟩
      · simp only at z2 z3
        clear HD OD
        go_upto_region 13 with fail
        clear y1 y2 y3 y4 z1 z2 z3
        (have f1 := (K.out.sp (.tail _ (.tail _ (.head _)))).warm; have c10 := (K.out.sp (.tail _ (.tail _ (.head _)))).cell0; have c11 := (K.out.sp (.tail _ (.tail _ (.head _)))).cell1; have c12 := (K.out.sp (.tail _ (.tail _ (.head _)))).cell2)
        (go_wp2_with fail; (refine (((sqrt_any x _))).mono ?_; rintro e w2 ⟨rfl, hb⟩; replace K := Lib.hid (Keep.stays _ _ K.out hb); clear hb))
        ((try clear f1); (try clear c10 c11 c12))
        ((try clear f3); (try clear c30 c31 c32))
        (go_upto_region 14 with fail; replace K := Lib.hid (K.out.alloc (Obj.box (sqrt x))); generalize w2.heap.size = gg at *; refine out_keep K.out ?_; clear K; intro W K; replace K := Lib.hid K; clear w2)
        rcases hr : sqrt x with ⟨rl, rh, ra⟩
        rw [hr] at K HR OR
        clear hr
        (have f4 := (K.out.sp (.head _)).warm; have c40 := (K.out.sp (.head _)).cell0; have c41 := (K.out.sp (.head _)).cell1; have c42 := (K.out.sp (.head _)).cell2)
        cases ra with
        | true =>
          clear HR OR
          go_wp2_with fail
          go_ret
          exact ⟨rfl, K.out.B⟩
        | false =>
          have fr := OR.out.resolve_left (by simp)
          obtain ⟨-, r5, r6, r7⟩ := fr
          simp only at r5 r6 r7
          by_cases ha : a < 0
          · clear HR OR
            go_wp2_with fail
            go_ret
            exact ⟨rfl, K.out.B⟩
          · obtain ⟨z1, z2⟩ := (HR.out (by omega)).resolve_left (by simp)
            simp only at z1 z2
            clear HR OR
            obtain ⟨y1, y2⟩ := mul_bound (a := rl) (b := rl) (by omega) (by omega) (by omega) (by omega)
            obtain ⟨y3, y4⟩ := mul_bound (a := rh) (b := rh) (by omega) (by omega) (by omega) (by omega)
            go_wp2_with fail
            go_ret
            exact ⟨rfl, K.out.B⟩
  · have HG := Lib.hid hg
    clear hg
    go_enter Try.func12, Try.ntmps12
    (go_wp2_with fail; (refine (((awake_any _))).mono ?_; rintro e w2 ⟨rfl, hb⟩; replace K := Lib.hid (Keep.stays _ _ K.out hb); clear hb))
    (have f1 := (K.out.sp (.tail _ (.head _))).warm; have c10 := (K.out.sp (.tail _ (.head _))).cell0; have c11 := (K.out.sp (.tail _ (.head _))).cell1; have c12 := (K.out.sp (.tail _ (.head _))).cell2)
    (have f2 := (K.out.sp (.head _)).warm; have c20 := (K.out.sp (.head _)).cell0; have c21 := (K.out.sp (.head _)).cell1; have c22 := (K.out.sp (.head _)).cell2)
    (go_wp2_with fail; (refine (((has_any x a V4.out _))).mono ?_; rintro e w2 ⟨rfl, hb⟩; replace K := Lib.hid (Keep.stays _ _ K.out hb); clear hb))
    (((try clear f1); (try clear c10 c11 c12)); ((try clear f2); (try clear c20 c21 c22)); (have f1 := (K.out.sp (.tail _ (.head _))).warm; have c10 := (K.out.sp (.tail _ (.head _))).cell0; have c11 := (K.out.sp (.tail _ (.head _))).cell1; have c12 := (K.out.sp (.tail _ (.head _))).cell2); (have f2 := (K.out.sp (.head _)).warm; have c20 := (K.out.sp (.head _)).cell0; have c21 := (K.out.sp (.head _)).cell1; have c22 := (K.out.sp (.head _)).cell2))
    (go_wp2_with fail; (refine (((has_any y b V5.out _))).mono ?_; rintro e w2 ⟨rfl, hb⟩; replace K := Lib.hid (Keep.stays _ _ K.out hb); clear hb))
    cases g1 : has x a with
    | false =>
      go_wp2_with fail
      go_ret
      exact ⟨rfl, K.out.B⟩
    | true =>
      cases g2 : has y b with
      | false =>
        go_wp2_with fail
        go_ret
        exact ⟨rfl, K.out.B⟩
      | true =>
        by_cases r1 : a < -2147483647
        · go_wp2_with fail
          go_ret
          exact ⟨rfl, K.out.B⟩
        · by_cases r2 : 2147483647 < a
          · go_wp2_with fail
            go_ret
            exact ⟨rfl, K.out.B⟩
          · by_cases r3 : b < -2147483647
            · go_wp2_with fail
              go_ret
              exact ⟨rfl, K.out.B⟩
            · have r4 : 2147483647 < b := by
                apply Classical.byContradiction
                intro h
                exact HG.out ⟨g1, g2, by omega, by omega, by omega, by omega⟩
              go_wp2_with fail
              go_ret
              exact ⟨rfl, K.out.B⟩
end Go.Proofs.Ytehjfjdopeadfaa
