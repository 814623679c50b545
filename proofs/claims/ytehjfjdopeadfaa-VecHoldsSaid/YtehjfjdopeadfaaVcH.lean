/- The walk of the statement VecHolds. -/
import Derived.Test.YtehjfjdopeadfaaVcP
import Derived.Test.YtehjfjdopeadfaaVcO
set_option linter.unusedVariables false
set_option linter.unusedSimpArgs false
namespace Go.Proofs.Ytehjfjdopeadfaa
open Go.RowKit SpMath

theorem Keep.arw {w0 w : World} {l : List (Nat × Obj)} {b : Nat} {a c d : Int} (K : Keep w0 l w) (m : (b, Obj.arr a c d) ∈ l) (o : Nat) : w.frozen? ⟨b, o, none⟩ = false := K.warm m o

/-- What the law lets in of two numbers and two spans. -/
def letIn (x : Sp) (a : Int) (y : Sp) (b : Int) : Prop := has x a = true ∧ has y b = true ∧ -1000000 ≤ a ∧ a ≤ 1000000 ∧ -1000000 ≤ b ∧ b ≤ 1000000

theorem prod_mil {a b : Int} (h1 : -1000000 ≤ a) (h2 : a ≤ 1000000) (h3 : -1000000 ≤ b) (h4 : b ≤ 1000000) : -1000000000000 ≤ a * b ∧ a * b ≤ 1000000000000 := by
  have h := Int.natAbs_mul a b
  have h' := Nat.mul_le_mul (show a.natAbs ≤ 1000000 by omega) (show b.natAbs ≤ 1000000 by omega)
  rw [← h] at h'
  omega

theorem inside_sure {x : Sp} {n : Int} (ho : Ok x) (h : InR x n 1048576) (w : World) : Calls Try.prog 18 #[x.v, .int .i64 n, .int .i64 1048576] w fun e w' => e = .returned (.bool true) ∧ Below w.heap.size w w' := by
  have := inside_any x n 1048576 w (ok_fin ho) (by decide) (by decide)
  rwa [withinB_of_inr ho h] at this

set_option maxHeartbeats 16000000 in
set_option maxRecDepth 100000 in
theorem VecHolds_walk (v u : Vc) (a0 a1 a2 b0 b1 b2 : Int) (wa0 : (Lit.int .i64 a0).wf = true) (wa1 : (Lit.int .i64 a1).wf = true) (wa2 : (Lit.int .i64 a2).wf = true) (wb0 : (Lit.int .i64 b0).wf = true) (wb1 : (Lit.int .i64 b1).wf = true) (wb2 : (Lit.int .i64 b2).wf = true) {w : World} :
    Calls Try.prog 3 #[v.v, u.v, .agg #[.int .i64 a0, .int .i64 a1, .int .i64 a2], .agg #[.int .i64 b0, .int .i64 b1, .int .i64 b2]] w fun e w' => e = .returned (.bool true) ∧ Below w.heap.size w w' := by
  have WA0 := Lib.hid wa0; have WA1 := Lib.hid wa1; have WA2 := Lib.hid wa2
  have WB0 := Lib.hid wb0; have WB1 := Lib.hid wb1; have WB2 := Lib.hid wb2
  clear wa0 wa1 wa2 wb0 wb1 wb2
  have K := Lib.hid (Keep.begin4 w (Obj.vec 25 v) (Obj.vec 25 u) (Obj.arr a0 a1 a2) (Obj.arr b0 b1 b2))
  go_enter Try.func3, Try.ntmps3
  go_upto_region 1 with fail
  (refine out_keep K.out ?_; clear K; intro W K; replace K := Lib.hid K)
  (go_wp2_with fail; (refine (((vawake_any _))).mono ?_; rintro e w2 ⟨rfl, hb⟩; replace K := Lib.hid (Keep.stays _ _ K.out hb); clear hb))
  go_wp2_with fail
  go_loopg [10] 3 (fun g iv wr => (g = 3 ∧ iv = .int .i64 0 ∧ (True) ∧ Keep w [(w.heap.size + 1 + 1 + 1, Obj.arr b0 b1 b2), (w.heap.size + 1 + 1, Obj.arr a0 a1 a2), (w.heap.size + 1, Obj.vec 25 u), (w.heap.size, Obj.vec 25 v)] wr) ∨ (g = 2 ∧ iv = .int .i64 1 ∧ (letIn v.x a0 u.x b0) ∧ Keep w [(w.heap.size + 1 + 1 + 1, Obj.arr b0 b1 b2), (w.heap.size + 1 + 1, Obj.arr a0 a1 a2), (w.heap.size + 1, Obj.vec 25 u), (w.heap.size, Obj.vec 25 v)] wr) ∨ (g = 1 ∧ iv = .int .i64 2 ∧ (letIn v.x a0 u.x b0 ∧ letIn v.y a1 u.y b1) ∧ Keep w [(w.heap.size + 1 + 1 + 1, Obj.arr b0 b1 b2), (w.heap.size + 1 + 1, Obj.arr a0 a1 a2), (w.heap.size + 1, Obj.vec 25 u), (w.heap.size, Obj.vec 25 v)] wr) ∨ (g = 0 ∧ iv = .int .i64 3 ∧ (letIn v.x a0 u.x b0 ∧ letIn v.y a1 u.y b1 ∧ letIn v.z a2 u.z b2) ∧ Keep w [(w.heap.size + 1 + 1 + 1, Obj.arr b0 b1 b2), (w.heap.size + 1 + 1, Obj.arr a0 a1 a2), (w.heap.size + 1, Obj.vec 25 u), (w.heap.size, Obj.vec 25 v)] wr))
  case atStart => exact .inl ⟨rfl, rfl, trivial, K.out⟩
  case round =>
    clear K
    rcases hrel with ⟨rfl, rfl, hc, k⟩ | ⟨rfl, rfl, hc, k⟩ | ⟨rfl, rfl, hc, k⟩ | ⟨rfl, rfl, hc, k⟩
    · have K := Lib.hid k
      have HC := Lib.hid hc
      clear k hc
      go_wp2_with fail
      (refine region_quiet _ (by kernel_rfl) (by kernel_rfl) K.out.drew ?_; haveI ne := Keep.ne K)
      (have c10 := Keep.av0 K (.tail _ (.tail _ (.tail _ (.head _)))); have c11 := Keep.av1 K (.tail _ (.tail _ (.tail _ (.head _)))); have c12 := Keep.av2 K (.tail _ (.tail _ (.tail _ (.head _)))); have c13 := Keep.av3 K (.tail _ (.tail _ (.tail _ (.head _)))); have c14 := Keep.av4 K (.tail _ (.tail _ (.tail _ (.head _)))); have c15 := Keep.av5 K (.tail _ (.tail _ (.tail _ (.head _)))); have c16 := Keep.av6 K (.tail _ (.tail _ (.tail _ (.head _)))); have c17 := Keep.av7 K (.tail _ (.tail _ (.tail _ (.head _)))); have c18 := Keep.av8 K (.tail _ (.tail _ (.tail _ (.head _)))))
      (have c20 := Keep.av0 K (.tail _ (.tail _ (.head _))); have c21 := Keep.av1 K (.tail _ (.tail _ (.head _))); have c22 := Keep.av2 K (.tail _ (.tail _ (.head _))); have c23 := Keep.av3 K (.tail _ (.tail _ (.head _))); have c24 := Keep.av4 K (.tail _ (.tail _ (.head _))); have c25 := Keep.av5 K (.tail _ (.tail _ (.head _))); have c26 := Keep.av6 K (.tail _ (.tail _ (.head _))); have c27 := Keep.av7 K (.tail _ (.tail _ (.head _))); have c28 := Keep.av8 K (.tail _ (.tail _ (.head _))))
      obtain ⟨c70, c71, c72⟩ := Keep.aar K (.tail _ (.head _))
      obtain ⟨c80, c81, c82⟩ := Keep.aar K (.head _)
      repeat (go_big_quiet_step ((go_at_call 17; with_reducible exact At.call Keep.stays (has_any v.x a0 WA0.out _))))
      (refine wpQuiet_nil ?_; clear ne K; intro W K; replace K := Lib.hid K)
      go_wp2_with fail
      (refine region_quiet _ (by kernel_rfl) (by kernel_rfl) K.out.drew ?_; haveI ne := Keep.ne K)
      repeat (go_big_quiet_step ((go_at_call 17; with_reducible exact At.call Keep.stays (has_any u.x b0 WB0.out _))))
      (refine wpQuiet_nil ?_; clear ne K; intro W K; replace K := Lib.hid K)
      ((try clear f1); (try clear c10 c11 c12 c13 c14 c15 c16 c17 c18))
      ((try clear f2); (try clear c20 c21 c22 c23 c24 c25 c26 c27 c28))
      clear c70 c71 c72 c80 c81 c82
      obtain ⟨f7, c70, c71, c72⟩ := K.out.arc (.tail _ (.head _))
      obtain ⟨f8, c80, c81, c82⟩ := K.out.arc (.head _)
      by_cases hl : letIn v.x a0 u.x b0
      · have HL := hl
        replace HL := Lib.hid HL
        obtain ⟨g1, g2, g3, g4, g5, g6⟩ := hl
        go_wp2_with fail
        go_roundg 2
        case measure => omega
        case rel =>
          replace HL := HL.out
          exact .inr (.inl ⟨rfl, rfl, HL, K.out⟩)
      · have HL := Lib.hid hl
        clear hl
        cases g1 : has v.x a0 with
        | false =>
          go_wp2_with fail
          go_ret
          exact ⟨rfl, K.out.B⟩
        | true =>
          cases g2 : has u.x b0 with
          | false =>
            go_wp2_with fail
            go_ret
            exact ⟨rfl, K.out.B⟩
          | true =>
            by_cases r1 : a0 < -1000000
            · go_wp2_with fail
              go_ret
              exact ⟨rfl, K.out.B⟩
            · by_cases r2 : 1000000 < a0
              · go_wp2_with fail
                go_ret
                exact ⟨rfl, K.out.B⟩
              · by_cases r3 : b0 < -1000000
                · go_wp2_with fail
                  go_ret
                  exact ⟨rfl, K.out.B⟩
                · have r4 : 1000000 < b0 := by
                    apply Classical.byContradiction
                    intro h
                    exact HL.out ⟨g1, g2, by omega, by omega, by omega, by omega⟩
                  go_wp2_with fail
                  go_ret
                  exact ⟨rfl, K.out.B⟩
    · have K := Lib.hid k
      have HC := Lib.hid hc
      clear k hc
      go_wp2_with fail
      (refine region_quiet _ (by kernel_rfl) (by kernel_rfl) K.out.drew ?_; haveI ne := Keep.ne K)
      (have c10 := Keep.av0 K (.tail _ (.tail _ (.tail _ (.head _)))); have c11 := Keep.av1 K (.tail _ (.tail _ (.tail _ (.head _)))); have c12 := Keep.av2 K (.tail _ (.tail _ (.tail _ (.head _)))); have c13 := Keep.av3 K (.tail _ (.tail _ (.tail _ (.head _)))); have c14 := Keep.av4 K (.tail _ (.tail _ (.tail _ (.head _)))); have c15 := Keep.av5 K (.tail _ (.tail _ (.tail _ (.head _)))); have c16 := Keep.av6 K (.tail _ (.tail _ (.tail _ (.head _)))); have c17 := Keep.av7 K (.tail _ (.tail _ (.tail _ (.head _)))); have c18 := Keep.av8 K (.tail _ (.tail _ (.tail _ (.head _)))))
      (have c20 := Keep.av0 K (.tail _ (.tail _ (.head _))); have c21 := Keep.av1 K (.tail _ (.tail _ (.head _))); have c22 := Keep.av2 K (.tail _ (.tail _ (.head _))); have c23 := Keep.av3 K (.tail _ (.tail _ (.head _))); have c24 := Keep.av4 K (.tail _ (.tail _ (.head _))); have c25 := Keep.av5 K (.tail _ (.tail _ (.head _))); have c26 := Keep.av6 K (.tail _ (.tail _ (.head _))); have c27 := Keep.av7 K (.tail _ (.tail _ (.head _))); have c28 := Keep.av8 K (.tail _ (.tail _ (.head _))))
      obtain ⟨c70, c71, c72⟩ := Keep.aar K (.tail _ (.head _))
      obtain ⟨c80, c81, c82⟩ := Keep.aar K (.head _)
      repeat (go_big_quiet_step ((go_at_call 17; with_reducible exact At.call Keep.stays (has_any v.y a1 WA1.out _))))
      (refine wpQuiet_nil ?_; clear ne K; intro W K; replace K := Lib.hid K)
      go_wp2_with fail
      (refine region_quiet _ (by kernel_rfl) (by kernel_rfl) K.out.drew ?_; haveI ne := Keep.ne K)
      repeat (go_big_quiet_step ((go_at_call 17; with_reducible exact At.call Keep.stays (has_any u.y b1 WB1.out _))))
      (refine wpQuiet_nil ?_; clear ne K; intro W K; replace K := Lib.hid K)
      ((try clear f1); (try clear c10 c11 c12 c13 c14 c15 c16 c17 c18))
      ((try clear f2); (try clear c20 c21 c22 c23 c24 c25 c26 c27 c28))
      clear c70 c71 c72 c80 c81 c82
      obtain ⟨f7, c70, c71, c72⟩ := K.out.arc (.tail _ (.head _))
      obtain ⟨f8, c80, c81, c82⟩ := K.out.arc (.head _)
      by_cases hl : letIn v.y a1 u.y b1
      · have HL := hl
        replace HL := Lib.hid HL
        obtain ⟨g1, g2, g3, g4, g5, g6⟩ := hl
        go_wp2_with fail
        go_roundg 1
        case measure => omega
        case rel =>
          replace HL := HL.out
          exact .inr (.inr (.inl ⟨rfl, rfl, ⟨HC.out, HL⟩, K.out⟩))
      · have HL := Lib.hid hl
        clear hl
        cases g1 : has v.y a1 with
        | false =>
          go_wp2_with fail
          go_ret
          exact ⟨rfl, K.out.B⟩
        | true =>
          cases g2 : has u.y b1 with
          | false =>
            go_wp2_with fail
            go_ret
            exact ⟨rfl, K.out.B⟩
          | true =>
            by_cases r1 : a1 < -1000000
            · go_wp2_with fail
              go_ret
              exact ⟨rfl, K.out.B⟩
            · by_cases r2 : 1000000 < a1
              · go_wp2_with fail
                go_ret
                exact ⟨rfl, K.out.B⟩
              · by_cases r3 : b1 < -1000000
                · go_wp2_with fail
                  go_ret
                  exact ⟨rfl, K.out.B⟩
                · have r4 : 1000000 < b1 := by
                    apply Classical.byContradiction
                    intro h
                    exact HL.out ⟨g1, g2, by omega, by omega, by omega, by omega⟩
                  go_wp2_with fail
                  go_ret
                  exact ⟨rfl, K.out.B⟩
    · have K := Lib.hid k
      have HC := Lib.hid hc
      clear k hc
      go_wp2_with fail
      (refine region_quiet _ (by kernel_rfl) (by kernel_rfl) K.out.drew ?_; haveI ne := Keep.ne K)
      (have c10 := Keep.av0 K (.tail _ (.tail _ (.tail _ (.head _)))); have c11 := Keep.av1 K (.tail _ (.tail _ (.tail _ (.head _)))); have c12 := Keep.av2 K (.tail _ (.tail _ (.tail _ (.head _)))); have c13 := Keep.av3 K (.tail _ (.tail _ (.tail _ (.head _)))); have c14 := Keep.av4 K (.tail _ (.tail _ (.tail _ (.head _)))); have c15 := Keep.av5 K (.tail _ (.tail _ (.tail _ (.head _)))); have c16 := Keep.av6 K (.tail _ (.tail _ (.tail _ (.head _)))); have c17 := Keep.av7 K (.tail _ (.tail _ (.tail _ (.head _)))); have c18 := Keep.av8 K (.tail _ (.tail _ (.tail _ (.head _)))))
      (have c20 := Keep.av0 K (.tail _ (.tail _ (.head _))); have c21 := Keep.av1 K (.tail _ (.tail _ (.head _))); have c22 := Keep.av2 K (.tail _ (.tail _ (.head _))); have c23 := Keep.av3 K (.tail _ (.tail _ (.head _))); have c24 := Keep.av4 K (.tail _ (.tail _ (.head _))); have c25 := Keep.av5 K (.tail _ (.tail _ (.head _))); have c26 := Keep.av6 K (.tail _ (.tail _ (.head _))); have c27 := Keep.av7 K (.tail _ (.tail _ (.head _))); have c28 := Keep.av8 K (.tail _ (.tail _ (.head _))))
      obtain ⟨c70, c71, c72⟩ := Keep.aar K (.tail _ (.head _))
      obtain ⟨c80, c81, c82⟩ := Keep.aar K (.head _)
      repeat (go_big_quiet_step ((go_at_call 17; with_reducible exact At.call Keep.stays (has_any v.z a2 WA2.out _))))
      (refine wpQuiet_nil ?_; clear ne K; intro W K; replace K := Lib.hid K)
      go_wp2_with fail
      (refine region_quiet _ (by kernel_rfl) (by kernel_rfl) K.out.drew ?_; haveI ne := Keep.ne K)
      repeat (go_big_quiet_step ((go_at_call 17; with_reducible exact At.call Keep.stays (has_any u.z b2 WB2.out _))))
      (refine wpQuiet_nil ?_; clear ne K; intro W K; replace K := Lib.hid K)
      ((try clear f1); (try clear c10 c11 c12 c13 c14 c15 c16 c17 c18))
      ((try clear f2); (try clear c20 c21 c22 c23 c24 c25 c26 c27 c28))
      clear c70 c71 c72 c80 c81 c82
      obtain ⟨f7, c70, c71, c72⟩ := K.out.arc (.tail _ (.head _))
      obtain ⟨f8, c80, c81, c82⟩ := K.out.arc (.head _)
      by_cases hl : letIn v.z a2 u.z b2
      · have HL := hl
        replace HL := Lib.hid HL
        obtain ⟨g1, g2, g3, g4, g5, g6⟩ := hl
        go_wp2_with fail
        go_roundg 0
        case measure => omega
        case rel =>
          replace HL := HL.out
          exact .inr (.inr (.inr ⟨rfl, rfl, ⟨HC.out.1, HC.out.2, HL⟩, K.out⟩))
      · have HL := Lib.hid hl
        clear hl
        cases g1 : has v.z a2 with
        | false =>
          go_wp2_with fail
          go_ret
          exact ⟨rfl, K.out.B⟩
        | true =>
          cases g2 : has u.z b2 with
          | false =>
            go_wp2_with fail
            go_ret
            exact ⟨rfl, K.out.B⟩
          | true =>
            by_cases r1 : a2 < -1000000
            · go_wp2_with fail
              go_ret
              exact ⟨rfl, K.out.B⟩
            · by_cases r2 : 1000000 < a2
              · go_wp2_with fail
                go_ret
                exact ⟨rfl, K.out.B⟩
              · by_cases r3 : b2 < -1000000
                · go_wp2_with fail
                  go_ret
                  exact ⟨rfl, K.out.B⟩
                · have r4 : 1000000 < b2 := by
                    apply Classical.byContradiction
                    intro h
                    exact HL.out ⟨g1, g2, by omega, by omega, by omega, by omega⟩
                  go_wp2_with fail
                  go_ret
                  exact ⟨rfl, K.out.B⟩
    · have K := Lib.hid k
      clear k
      obtain ⟨⟨x1, x2, x3, x4, x5, x6⟩, ⟨y1, y2, y3, y4, y5, y6⟩, ⟨z1, z2, z3, z4, z5, z6⟩⟩ := hc
      have D := Lib.hid (fun w => inside_sure (ok_dot v u) (inr_dot (v := v) (w := u) (d := 1) (e := 1) (by decide) (by decide) (inr_of_has x1) (inr_of_has y1) (inr_of_has z1) (inr_of_has x2) (inr_of_has y2) (inr_of_has z2)) w)
      have N := Lib.hid (fun w => inside_sure (ok_norm2 v) (inr_norm2 (v := v) (d := 1) (by decide) (inr_of_has x1) (inr_of_has y1) (inr_of_has z1)) w)
      obtain ⟨q1, q2, q3⟩ := inr_cross (inr_of_has x1) (inr_of_has y1) (inr_of_has z1) (inr_of_has x2) (inr_of_has y2) (inr_of_has z2)
      have C1 := Lib.hid (fun w => inside_sure (ok_sub (mul v.y u.z) (mul v.z u.y)) q1 w)
      have C2 := Lib.hid (fun w => inside_sure (ok_sub (mul v.z u.x) (mul v.x u.z)) q2 w)
      have C3 := Lib.hid (fun w => inside_sure (ok_sub (mul v.x u.y) (mul v.y u.x)) q3 w)
      clear x1 x2 y1 y2 z1 z2 q1 q2 q3
      obtain ⟨m0, n0⟩ := prod_mil x3 x4 x5 x6
      obtain ⟨m1, n1⟩ := prod_mil y3 y4 y5 y6
      obtain ⟨m2, n2⟩ := prod_mil z3 z4 z5 z6
      obtain ⟨m3, n3⟩ := prod_mil x3 x4 x3 x4
      obtain ⟨m4, n4⟩ := prod_mil y3 y4 y3 y4
      obtain ⟨m5, n5⟩ := prod_mil z3 z4 z3 z4
      obtain ⟨m6, n6⟩ := prod_mil y3 y4 z5 z6
      obtain ⟨m7, n7⟩ := prod_mil z3 z4 y5 y6
      obtain ⟨m8, n8⟩ := prod_mil z3 z4 x5 x6
      obtain ⟨m9, n9⟩ := prod_mil x3 x4 z5 z6
      obtain ⟨m10, n10⟩ := prod_mil x3 x4 y5 y6
      obtain ⟨m11, n11⟩ := prod_mil y3 y4 x5 x6
      go_wp2_with fail
      (refine region_quiet _ (by kernel_rfl) (by kernel_rfl) K.out.drew ?_; haveI ne := Keep.ne K)
      (have c10 := Keep.av0 K (.tail _ (.tail _ (.tail _ (.head _)))); have c11 := Keep.av1 K (.tail _ (.tail _ (.tail _ (.head _)))); have c12 := Keep.av2 K (.tail _ (.tail _ (.tail _ (.head _)))); have c13 := Keep.av3 K (.tail _ (.tail _ (.tail _ (.head _)))); have c14 := Keep.av4 K (.tail _ (.tail _ (.tail _ (.head _)))); have c15 := Keep.av5 K (.tail _ (.tail _ (.tail _ (.head _)))); have c16 := Keep.av6 K (.tail _ (.tail _ (.tail _ (.head _)))); have c17 := Keep.av7 K (.tail _ (.tail _ (.tail _ (.head _)))); have c18 := Keep.av8 K (.tail _ (.tail _ (.tail _ (.head _)))))
      (have c20 := Keep.av0 K (.tail _ (.tail _ (.head _))); have c21 := Keep.av1 K (.tail _ (.tail _ (.head _))); have c22 := Keep.av2 K (.tail _ (.tail _ (.head _))); have c23 := Keep.av3 K (.tail _ (.tail _ (.head _))); have c24 := Keep.av4 K (.tail _ (.tail _ (.head _))); have c25 := Keep.av5 K (.tail _ (.tail _ (.head _))); have c26 := Keep.av6 K (.tail _ (.tail _ (.head _))); have c27 := Keep.av7 K (.tail _ (.tail _ (.head _))); have c28 := Keep.av8 K (.tail _ (.tail _ (.head _))))
      obtain ⟨c70, c71, c72⟩ := Keep.aar K (.tail _ (.head _))
      obtain ⟨c80, c81, c82⟩ := Keep.aar K (.head _)
      repeat (go_big_quiet_step (first | (go_at_call 19; with_reducible exact At.call Keep.stays (dot_any v u _)) | (go_at_call 18; with_reducible exact At.call Keep.stays (D.out _))))
      (refine wpQuiet_nil ?_; clear ne K; intro W K; replace K := Lib.hid K)
      go_wp2_with fail
      (refine region_quiet _ (by kernel_rfl) (by kernel_rfl) K.out.drew ?_; haveI ne := Keep.ne K)
      repeat (go_big_quiet_step (first | (go_at_call 20; with_reducible exact At.call Keep.stays (norm2_any v _)) | (go_at_call 18; with_reducible exact At.call Keep.stays (N.out _))))
      (refine wpQuiet_nil ?_; clear ne K; intro W K; replace K := Lib.hid K)
      ((try clear f1); (try clear c10 c11 c12 c13 c14 c15 c16 c17 c18))
      ((try clear f2); (try clear c20 c21 c22 c23 c24 c25 c26 c27 c28))
      clear c70 c71 c72 c80 c81 c82
      (have f1 := (K.out.vc (.tail _ (.tail _ (.tail _ (.head _))))).warm; have c10 := (K.out.vc (.tail _ (.tail _ (.tail _ (.head _))))).cell0; have c11 := (K.out.vc (.tail _ (.tail _ (.tail _ (.head _))))).cell1; have c12 := (K.out.vc (.tail _ (.tail _ (.tail _ (.head _))))).cell2; have c13 := (K.out.vc (.tail _ (.tail _ (.tail _ (.head _))))).cell3; have c14 := (K.out.vc (.tail _ (.tail _ (.tail _ (.head _))))).cell4; have c15 := (K.out.vc (.tail _ (.tail _ (.tail _ (.head _))))).cell5; have c16 := (K.out.vc (.tail _ (.tail _ (.tail _ (.head _))))).cell6; have c17 := (K.out.vc (.tail _ (.tail _ (.tail _ (.head _))))).cell7; have c18 := (K.out.vc (.tail _ (.tail _ (.tail _ (.head _))))).cell8)
      (have f2 := (K.out.vc (.tail _ (.tail _ (.head _)))).warm; have c20 := (K.out.vc (.tail _ (.tail _ (.head _)))).cell0; have c21 := (K.out.vc (.tail _ (.tail _ (.head _)))).cell1; have c22 := (K.out.vc (.tail _ (.tail _ (.head _)))).cell2; have c23 := (K.out.vc (.tail _ (.tail _ (.head _)))).cell3; have c24 := (K.out.vc (.tail _ (.tail _ (.head _)))).cell4; have c25 := (K.out.vc (.tail _ (.tail _ (.head _)))).cell5; have c26 := (K.out.vc (.tail _ (.tail _ (.head _)))).cell6; have c27 := (K.out.vc (.tail _ (.tail _ (.head _)))).cell7; have c28 := (K.out.vc (.tail _ (.tail _ (.head _)))).cell8)
      go_wp2_with fail
      (refine ((cross_any v u _)).mono ?_; rintro e w2 ⟨rfl, hb⟩; replace K := Lib.hid (Keep.stays _ _ K.out hb); clear hb)
      ((try clear f1); (try clear c10 c11 c12 c13 c14 c15 c16 c17 c18))
      ((try clear f2); (try clear c20 c21 c22 c23 c24 c25 c26 c27 c28))
      (go_upto_region 12 with fail; replace K := Lib.hid (K.out.alloc (Obj.vec 25 (cross v u))); generalize w2.heap.size = gg at *; refine out_keep K.out ?_; clear K; intro W K; replace K := Lib.hid K; clear w2)
      (have f1 := (K.out.vc (.head _)).warm; have c10 := (K.out.vc (.head _)).cell0; have c11 := (K.out.vc (.head _)).cell1; have c12 := (K.out.vc (.head _)).cell2; have c13 := (K.out.vc (.head _)).cell3; have c14 := (K.out.vc (.head _)).cell4; have c15 := (K.out.vc (.head _)).cell5; have c16 := (K.out.vc (.head _)).cell6; have c17 := (K.out.vc (.head _)).cell7; have c18 := (K.out.vc (.head _)).cell8)
      obtain ⟨f7, c70, c71, c72⟩ := K.out.arc (.tail _ (.tail _ (.head _)))
      obtain ⟨f8, c80, c81, c82⟩ := K.out.arc (.tail _ (.head _))
      go_wp2_with fail
      (refine ((C1.out _)).mono ?_; rintro e w2 ⟨rfl, hb⟩; replace K := Lib.hid (Keep.stays _ _ K.out hb); clear hb)
      ((try clear f1); (try clear c10 c11 c12 c13 c14 c15 c16 c17 c18))
      clear f7 c70 c71 c72 f8 c80 c81 c82
      (have f1 := (K.out.vc (.head _)).warm; have c10 := (K.out.vc (.head _)).cell0; have c11 := (K.out.vc (.head _)).cell1; have c12 := (K.out.vc (.head _)).cell2; have c13 := (K.out.vc (.head _)).cell3; have c14 := (K.out.vc (.head _)).cell4; have c15 := (K.out.vc (.head _)).cell5; have c16 := (K.out.vc (.head _)).cell6; have c17 := (K.out.vc (.head _)).cell7; have c18 := (K.out.vc (.head _)).cell8)
      obtain ⟨f7, c70, c71, c72⟩ := K.out.arc (.tail _ (.tail _ (.head _)))
      obtain ⟨f8, c80, c81, c82⟩ := K.out.arc (.tail _ (.head _))
      go_wp2_with fail
      (refine ((C2.out _)).mono ?_; rintro e w2 ⟨rfl, hb⟩; replace K := Lib.hid (Keep.stays _ _ K.out hb); clear hb)
      ((try clear f1); (try clear c10 c11 c12 c13 c14 c15 c16 c17 c18))
      clear f7 c70 c71 c72 f8 c80 c81 c82
      (have f1 := (K.out.vc (.head _)).warm; have c10 := (K.out.vc (.head _)).cell0; have c11 := (K.out.vc (.head _)).cell1; have c12 := (K.out.vc (.head _)).cell2; have c13 := (K.out.vc (.head _)).cell3; have c14 := (K.out.vc (.head _)).cell4; have c15 := (K.out.vc (.head _)).cell5; have c16 := (K.out.vc (.head _)).cell6; have c17 := (K.out.vc (.head _)).cell7; have c18 := (K.out.vc (.head _)).cell8)
      obtain ⟨f7, c70, c71, c72⟩ := K.out.arc (.tail _ (.tail _ (.head _)))
      obtain ⟨f8, c80, c81, c82⟩ := K.out.arc (.tail _ (.head _))
      go_wp2_with fail
      (refine ((C3.out _)).mono ?_; rintro e w2 ⟨rfl, hb⟩; replace K := Lib.hid (Keep.stays _ _ K.out hb); clear hb)
      go_wp2_with fail
      go_ret
      exact ⟨rfl, K.out.B⟩
end Go.Proofs.Ytehjfjdopeadfaa
