/- The walks of the document's Mul and Div. -/
import Derived.Test.YtehjfjdopeadfaaRd
set_option linter.unusedVariables false
set_option linter.unusedSimpArgs false
namespace Go.Proofs.Ytehjfjdopeadfaa
open Go.RowKit SpMath

theorem fl_million (a : Int) : fl a 1048576 = a / 1048576 := if_pos (by decide)

set_option maxHeartbeats 8000000 in
set_option maxRecDepth 100000 in
theorem mul_ref (x y : Sp) (w : World) : Calls Try.prog 53 #[x.v, y.v] w fun e w' => e = .returned (mul x y).v ∧ Below w.heap.size w w' := by
  have K := Lib.hid (Keep.begin3 w (Obj.ref x) (Obj.ref y) (Obj.ref ⟨0, 0, false⟩))
  (go_enter Try.func53, Try.ntmps53; go_upto_region 1 with fail; (refine out_keep K.out ?_; clear K; intro W K; replace K := Lib.hid K); (have f1 := (K.out.rf (.tail _ (.tail _ (.head _)))).warm; have c10 := (K.out.rf (.tail _ (.tail _ (.head _)))).cell0; have c11 := (K.out.rf (.tail _ (.tail _ (.head _)))).cell1; have c12 := (K.out.rf (.tail _ (.tail _ (.head _)))).cell2); go_wp2_with fail; (refine ((right_ref x _)).mono ?_; rintro e w2 ⟨rfl, hb⟩; replace K := Lib.hid (Keep.stays _ _ K.out hb); clear hb); ((try clear f1); (try clear c10 c11 c12)); (go_upto_region 2 with fail; replace K := Lib.hid (K.out.alloc (Obj.ref (right x))); generalize w2.heap.size = gg at *; refine out_keep K.out ?_; clear K; intro W K; replace K := Lib.hid K; clear w2); (have f1 := (K.out.rf (.tail _ (.tail _ (.head _)))).warm; have c10 := (K.out.rf (.tail _ (.tail _ (.head _)))).cell0; have c11 := (K.out.rf (.tail _ (.tail _ (.head _)))).cell1; have c12 := (K.out.rf (.tail _ (.tail _ (.head _)))).cell2); go_wp2_with fail; (refine ((right_ref y _)).mono ?_; rintro e w2 ⟨rfl, hb⟩; replace K := Lib.hid (Keep.stays _ _ K.out hb); clear hb); ((try clear f1); (try clear c10 c11 c12)); (go_upto_region 3 with fail; replace K := Lib.hid (K.out.alloc (Obj.ref (right y))); generalize w2.heap.size = gg at *; refine out_keep K.out ?_; clear K; intro W K; replace K := Lib.hid K; clear w2))
  rcases right_four x y with ⟨lo, hi, l2, h2, hx, hy, hbd, fx, fy⟩ | ⟨hx, fx⟩ | ⟨⟨lo, hi, hx, hb1, hb2, hb3, -⟩, hy, fy⟩
  · have HJ : Hid (mul x y = made (fl (lo4 (lo * l2) (lo * h2) (hi * l2) (hi * h2)) 1048576) (-fl (-hi4 (lo * l2) (lo * h2) (hi * l2) (hi * h2)) 1048576)) := by
      show _ = _
      unfold mul
      rw [both_fin fx fy, fl_million, fl_million]
      unfold mulF
      rw [right_fin fx] at hx; rw [right_fin fy] at hy
      rw [hx, hy]
    rw [hx, hy] at K
    clear hx hy fx fy
    obtain ⟨q1, q2, q3, q4, q5, q6⟩ := hbd
    have HB : Hid (lo4 (lo * l2) (lo * h2) (hi * l2) (hi * h2) ≤ hi4 (lo * l2) (lo * h2) (hi * l2) (hi * h2) ∧ -9000000000000000000 ≤ lo4 (lo * l2) (lo * h2) (hi * l2) (hi * h2) ∧ hi4 (lo * l2) (lo * h2) (hi * l2) (hi * h2) ≤ 9000000000000000000) := by
      have b1 := mul_bound q1 (show lo ≤ 2147483647 by omega) q4 (show l2 ≤ 2147483647 by omega)
      have b2 := mul_bound q1 (show lo ≤ 2147483647 by omega) (show -2147483647 ≤ h2 by omega) q6
      have b3 := mul_bound (show -2147483647 ≤ hi by omega) q3 q4 (show l2 ≤ 2147483647 by omega)
      have b4 := mul_bound (show -2147483647 ≤ hi by omega) q3 (show -2147483647 ≤ h2 by omega) q6
      generalize lo * l2 = p1 at *
      generalize lo * h2 = p2 at *
      generalize hi * l2 = p3 at *
      generalize hi * h2 = p4 at *
      unfold lo4 hi4
      show _ ∧ _
      omega
    (have f1 := (K.out.rf (.tail _ (.head _))).warm; have c10 := (K.out.rf (.tail _ (.head _))).cell0; have c11 := (K.out.rf (.tail _ (.head _))).cell1; have c12 := (K.out.rf (.tail _ (.head _))).cell2)
    (have f2 := (K.out.rf (.head _)).warm; have c20 := (K.out.rf (.head _)).cell0; have c21 := (K.out.rf (.head _)).cell1; have c22 := (K.out.rf (.head _)).cell2)
    go_wp2_with fail
    refine (four_any lo hi l2 h2 _ q1 q2 q3 q4 q5 q6).mono ?_
    rintro e w3 ⟨n, s, d, m, t, b, rfl, hN, hM, zN, zM, ld, lb, hb⟩
    obtain ⟨A, k, rfl, -⟩ := hN.1.len
    obtain ⟨A2, k2, rfl, -⟩ := hM.1.len
    replace K := Lib.hid (Keep.stays _ _ K.out hb)
    have HN := Lib.hid hN; have HM := Lib.hid hM; have ZN := Lib.hid zN; have ZM := Lib.hid zM
    clear hb hN hM zN zM
    ((try clear f1); (try clear c10 c11 c12))
    ((try clear f2); (try clear c20 c21 c22))
    go_upto_region 6 with fail
    replace K := Lib.hid (K.out.alloc2 (Obj.num n (.slice A d.length k)) (Obj.num m (.slice A2 b.length k2)))
    replace HN := Lib.hid (And.intro (HN.out.below (below_two _ (Obj.num n (.slice A d.length k)) (Obj.num m (.slice A2 b.length k2)))) (HM.out.below (below_two _ (Obj.num n (.slice A d.length k)) (Obj.num m (.slice A2 b.length k2)))))
    clear HM
    generalize w3.heap.size = g7 at *
    refine out_with (B := fun W => Num W n (.slice A d.length k) d ∧ Num W m (.slice A2 b.length k2) b) K.out HN.out ?_
    clear K HN
    intro W4 K HN
    replace K := Lib.hid K
    replace HN := Lib.hid HN
    obtain ⟨f1, c10, c11⟩ := K.out.nm (.tail _ (.head _))
    obtain ⟨f2, c20, c21⟩ := K.out.nm (.head _)
    go_wp2_with fail
    refine (tight_any n m _ _ d b 1048576 _ HN.out.1 HN.out.2 (by omega) (by omega) (by omega) (by omega) (by rw [ZN.out, ZM.out]; exact HB.out.1) (by rw [ZN.out]; exact HB.out.2.1) (by rw [ZM.out]; exact HB.out.2.2)).mono ?_
    rintro e w5 ⟨rfl, hb⟩
    rw [ZN.out, ZM.out, ← HJ.out]
    replace K := Lib.hid (Keep.stays _ _ K.out hb)
    clear hb f1 c10 c11 f2 c20 c21
    (have f3 := (K.out.rf (.tail _ (.tail _ (.tail _ (.tail _ (.head _)))))).warm; have c30 := (K.out.rf (.tail _ (.tail _ (.tail _ (.tail _ (.head _)))))).cell0; have c31 := (K.out.rf (.tail _ (.tail _ (.tail _ (.tail _ (.head _)))))).cell1; have c32 := (K.out.rf (.tail _ (.tail _ (.tail _ (.tail _ (.head _)))))).cell2)
    go_wp2_with fail
    exact ret_rf Try.results53 rfl ((K.out.putr_4 (mul x y)).rf (.tail _ (.tail _ (.tail _ (.tail _ (.head _)))))) ⟨rfl, (K.out.putr_4 (mul x y)).B⟩
  · have HJ : Hid (mul x y = ⟨0, 0, true⟩) := both_not fun h => fx h.1
    rw [hx] at K
    clear hx fx
    (have f1 := (K.out.rf (.tail _ (.head _))).warm; have c10 := (K.out.rf (.tail _ (.head _))).cell0; have c11 := (K.out.rf (.tail _ (.head _))).cell1; have c12 := (K.out.rf (.tail _ (.head _))).cell2)
    (have f2 := (K.out.rf (.head _)).warm; have c20 := (K.out.rf (.head _)).cell0; have c21 := (K.out.rf (.head _)).cell1; have c22 := (K.out.rf (.head _)).cell2)
    (have f3 := (K.out.rf (.tail _ (.tail _ (.head _)))).warm; have c30 := (K.out.rf (.tail _ (.tail _ (.head _)))).cell0; have c31 := (K.out.rf (.tail _ (.tail _ (.head _)))).cell1; have c32 := (K.out.rf (.tail _ (.tail _ (.head _)))).cell2)
    go_wp2_with fail
    exact ret_rf Try.results53 rfl ((K.out.putr_2 ⟨0, 0, true⟩).rf (.tail _ (.tail _ (.head _)))) ⟨by rw [HJ.out], (K.out.putr_2 ⟨0, 0, true⟩).B⟩
  · have HJ : Hid (mul x y = ⟨0, 0, true⟩) := both_not fun h => fy h.2
    rw [hx, hy] at K
    clear hx hy fy
    (have f1 := (K.out.rf (.tail _ (.head _))).warm; have c10 := (K.out.rf (.tail _ (.head _))).cell0; have c11 := (K.out.rf (.tail _ (.head _))).cell1; have c12 := (K.out.rf (.tail _ (.head _))).cell2)
    (have f2 := (K.out.rf (.head _)).warm; have c20 := (K.out.rf (.head _)).cell0; have c21 := (K.out.rf (.head _)).cell1; have c22 := (K.out.rf (.head _)).cell2)
    (have f3 := (K.out.rf (.tail _ (.tail _ (.head _)))).warm; have c30 := (K.out.rf (.tail _ (.tail _ (.head _)))).cell0; have c31 := (K.out.rf (.tail _ (.tail _ (.head _)))).cell1; have c32 := (K.out.rf (.tail _ (.tail _ (.head _)))).cell2)
    go_wp2_with fail
    exact ret_rf Try.results53 rfl ((K.out.putr_2 ⟨0, 0, true⟩).rf (.tail _ (.tail _ (.head _)))) ⟨by rw [HJ.out], (K.out.putr_2 ⟨0, 0, true⟩).B⟩
end Go.Proofs.Ytehjfjdopeadfaa
