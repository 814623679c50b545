/- The walk of the document's tight: the tightest span of two quotients. -/
import Derived.Test.YtehjfjdopeadfaaFl
import Derived.Test.YtehjfjdopeadfaaDy
import Derived.Test.YtehjfjdopeadfaaSpRf
set_option linter.unusedVariables false
set_option linter.unusedSimpArgs false
namespace Go.Proofs.Ytehjfjdopeadfaa
open Go.RowKit

theorem fl_in {x y : Int} (hy : 0 < y) (h1 : -9000000000000000000 ≤ x) (h2 : x ≤ 9000000000000000000) : -9000000000000000000 ≤ SpMath.fl x y ∧ SpMath.fl x y ≤ 9000000000000000000 := by
  unfold SpMath.fl
  rw [if_pos hy]
  refine ⟨(Int.le_ediv_iff_mul_le hy).2 ?_, ?_⟩
  · have : -9000000000000000000 * y ≤ -9000000000000000000 * 1 := Int.mul_le_mul_of_nonpos_left (by omega) (by omega)
    omega
  · have : x / y < 9000000000000000001 := (Int.ediv_lt_iff_lt_mul hy).2 (by
      have : 9000000000000000001 * 1 ≤ 9000000000000000001 * y := Int.mul_le_mul_of_nonneg_left (by omega) (by omega)
      omega)
    omega
theorem fl_ends {x z y : Int} (hy : 0 < y) (h : x ≤ z) : SpMath.fl x y ≤ -SpMath.fl (-z) y := by
  unfold SpMath.fl
  rw [if_pos hy, if_pos hy]
  have h1 := Int.ediv_mul_le x (show y ≠ 0 by omega)
  have h2 := Int.ediv_mul_le (-z) (show y ≠ 0 by omega)
  have h3 : (x / y + -z / y) * y ≤ 0 := by rw [Int.add_mul]; omega
  have h4 : ¬ 0 < x / y + -z / y := fun hp => by have := Int.mul_pos hp hy; omega
  omega
theorem zof_ne {n : Bool} {ds : List Int} (h : zof n ds ≠ 0) : ds ≠ [] := by
  rintro rfl
  cases n <;> exact h rfl
theorem sgn_lt (x y : Int) : sgn (x - y) < 0 ↔ x < y := by
  unfold sgn
  split <;> (try split) <;> omega
theorem sgn_pos (x y : Int) : 0 < sgn (x - y) ↔ y < x := by
  unfold sgn
  split <;> (try split) <;> omega
theorem sgn_in (x : Int) : -1 ≤ sgn x ∧ sgn x ≤ 1 := by
  unfold sgn
  split <;> (try split) <;> omega

theorem made_whole {L U : Int} (h : L < -2147483647 ∨ 2147483647 < U) : SpMath.made L U = ⟨0, 0, true⟩ := by
  refine SpMath.right_not ?_
  rintro ⟨-, h1, h2, h3⟩
  simp only at h1 h2 h3
  omega

set_option maxHeartbeats 8000000 in
set_option maxRecDepth 100000 in
theorem tight_any (n m : Bool) (s t : Value) (a b : List Int) (y : Int) (w : World) (h1 : Num w n s a) (h2 : Num w m t b) (l1 : a.length ≤ 100) (l2 : b.length ≤ 100) (y0 : 0 < y) (y1 : y ≤ 1048576)
    (hle : zof n a ≤ zof m b) (r1 : -9000000000000000000 ≤ zof n a) (r2 : zof m b ≤ 9000000000000000000) :
    Calls Try.prog 83 #[.agg #[.bool n, s], .agg #[.bool m, t], .int .i64 y] w fun e w' => e = .returned (SpMath.made (SpMath.fl (zof n a) y) (-(SpMath.fl (-zof m b) y))).v ∧ Below w.heap.size w w' := by
  obtain ⟨A, c, rfl, ha⟩ := h1.1.len
  obtain ⟨B, d, rfl, hb⟩ := h2.1.len
  have K := Lib.hid (Keep.begin3 w (Obj.num n (.slice A a.length c)) (Obj.num m (.slice B b.length d)) (Obj.ref ⟨0, 0, false⟩))
  have H1 := Lib.hid h1; have H2 := Lib.hid h2
  have HLU := Lib.hid (And.intro (fl_ends y0 hle) (And.intro (fl_in y0 r1 (by omega)) (fl_in (x := -zof m b) y0 (by omega) (by omega))))
  clear ha hb h1 h2 hle r1 r2
  go_enter Try.func83, Try.ntmps83
  go_upto_region 1 with fail
  (refine out_keep K.out ?_; clear K; intro W K; replace K := Lib.hid K)
  (refine region_float2 _ 10 ⟨8, 7, Obj.num false (.slice none 0 0)⟩ ⟨9, 8, Obj.num false (.slice none 0 0)⟩ ([(0, 0), (1, 1), (2, 2), (2, 3), (1, 4), (1, 5), (1, 6), (1, 7)]) (by kernel_rfl) (by kernel_rfl) ⟨_, rfl, rfl, rfl, fun a w => rfl, fun md e he => by simp at he⟩ ⟨_, rfl, rfl, rfl, fun a w => rfl, fun md e he => by simp at he⟩ (by decide) (fun _ _ d _ _ => by cases d <;> exact Iff.rfl) Keep.stays K.out.drew ?_; clear K; intro W K hbw; replace K := Lib.hid K; have K0 := K)
  obtain ⟨e10, e11⟩ := Keep.anm K (.tail _ (.tail _ (.head _)))
  (refine Ph.read rfl (by rfl) ?_; apply Exists.intro; refine ⟨fun p => ?_, ?_⟩; (focus (go_simp; (try (with_reducible rfl)); done)); (try simp only [Act.put, List.setIfInBounds_toArray, List.set_cons_zero, List.set_cons_succ]))
  (refine Ph.pure rfl (by rfl) ?_; apply Exists.intro; refine ⟨fun w => ?_, ?_⟩; (focus (go_simp; (try (with_reducible rfl)); done)); (try simp only [Act.put, List.setIfInBounds_toArray, List.set_cons_zero, List.set_cons_succ]))
  clear e10 e11
  (refine Ph.call (f := 84) (args := (#[.int .i64 y])) rfl (by rfl) (by (intro w2; go_simp; try (with_reducible rfl))) ?_; intro w2 hb; replace K := Lib.hid (Keep.stays _ _ K.out hb))
  clear hb
  refine (int_any y _ (by omega) (by omega)).mono ?_
  rintro e w3 ⟨n1, s1, d1, rfl, hN1, hz1, hl1, hb⟩
  obtain ⟨A1, k1, rfl, -⟩ := hN1.1.len
  (refine ⟨_, rfl, hb, ?_⟩; replace K := Lib.hid (Keep.stays _ _ K.out hb); (try simp only [Act.put, List.setIfInBounds_toArray, List.set_cons_zero, List.set_cons_succ]))
  clear hb
  (refine Ph.call (f := 93) (args := (#[.agg #[.bool n, .slice A a.length c], .agg #[.bool n1, .slice A1 d1.length k1]])) rfl (by rfl) (by (intro w2; go_simp; try (with_reducible rfl))) ?_; intro w2 hb; replace K := Lib.hid (Keep.stays _ _ K.out hb))
  refine (quo_any n n1 _ _ a d1 _ (H1.out.below K.out.B) (hN1.below hb) (zof_ne (n := n1) (by omega)) (by omega) (by omega)).mono ?_
  clear hb
  rintro e w4 ⟨n2, s2, d2, rn, rA, rl, rk, rfl, hN2, hz2, hl2, hb⟩
  obtain ⟨A2, k2, rfl, -⟩ := hN2.1.len
  (refine ⟨_, rfl, hb, ?_⟩; replace K := Lib.hid (Keep.stays _ _ K.out hb); (try simp only [Act.put, List.setIfInBounds_toArray, List.set_cons_zero, List.set_cons_succ]))
  rw [hz1] at hz2
  clear hb hz1 hl1 hN1
  (refine Ph.pure rfl (by rfl) ?_; apply Exists.intro; refine ⟨fun w => ?_, ?_⟩; (focus (go_simp; (try (with_reducible rfl)); done)); (try simp only [Act.put, List.setIfInBounds_toArray, List.set_cons_zero, List.set_cons_succ]))
  (refine Ph.pure rfl (by rfl) ?_; apply Exists.intro; refine ⟨fun w => ?_, ?_⟩; (focus (go_simp; (try (with_reducible rfl)); done)); (try simp only [Act.put, List.setIfInBounds_toArray, List.set_cons_zero, List.set_cons_succ]))
  (refine Ph.pure rfl (by rfl) ?_; apply Exists.intro; refine ⟨fun w => ?_, ?_⟩; (focus (go_simp; (try (with_reducible rfl)); done)); (try simp only [Act.put, List.setIfInBounds_toArray, List.set_cons_zero, List.set_cons_succ]))
  (refine Ph.pure rfl (by rfl) ?_; apply Exists.intro; refine ⟨fun w => ?_, ?_⟩; (focus (go_simp; (try (with_reducible rfl)); done)); (try simp only [Act.put, List.setIfInBounds_toArray, List.set_cons_zero, List.set_cons_succ]))
  have HN := Lib.hid hN2
  clear hN2
  (intro w2 hb g7 g8 hg hk hge hke hgk; replace K := Lib.hid (K0.out.held2 (Keep.stays _ _ K.out hb) hg hk hge hke hgk); clear hg hk hge hke K0; have hkg := Ne.symm hgk; simp only [ptr, List.drop_succ_cons, List.drop_zero, Act.put, List.setIfInBounds_toArray, List.set_cons_zero, List.set_cons_succ])
  replace HN := Lib.hid (HN.out.below hb)
  clear hb hbw
  obtain ⟨f7, c70, c71⟩ := K.out.nm (.tail _ (.head _))
  obtain ⟨f8, c80, c81⟩ := K.out.nm (.head _)
  go_upto_region 2 with fail
  refine out_with (B := fun W => Num W n2 (.slice A2 d2.length k2) d2) ((K.out.putn_1 n2 (.slice A2 d2.length k2)).putn_0 rn (.slice rA rl rk)) ((HN.out.put (K.out.nm (.tail _ (.head _))).2.1 _ _).put ((K.out.putn_1 _ _).nm (.head _)).2.1 _ _) ?_
  clear K HN f7 c70 c71 f8 c80 c81 hgk hkg
  intro W3 K hh
  replace K := Lib.hid K
  have HN := Lib.hid hh
  clear hh
  obtain ⟨f1, c10, c11⟩ := K.out.nm (.tail _ (.tail _ (.tail _ (.head _))))
  go_wp2_with fail
  refine (minus_any m _ b _ (H2.out.below K.out.B) (by omega)).mono ?_
  rintro e w5 ⟨n3, s3, d3, rfl, hN3, hz3, hl3, hb⟩
  obtain ⟨A3, k3, rfl, -⟩ := hN3.1.len
  replace K := Lib.hid (Keep.stays _ _ K.out hb)
  replace HN := Lib.hid (HN.out.below hb)
  clear hb
  go_wp2_with fail
  refine (int_any y _ (by omega) (by omega)).mono ?_
  rintro e w6 ⟨n4, s4, d4, rfl, hN4, hz4, hl4, hb⟩
  obtain ⟨A4, k4, rfl, -⟩ := hN4.1.len
  replace K := Lib.hid (Keep.stays _ _ K.out hb)
  replace HN := Lib.hid (HN.out.below hb)
  replace hN3 := hN3.below hb
  clear hb
  go_wp2_with fail
  refine (quo_any n3 n4 _ _ d3 d4 _ hN3 hN4 (zof_ne (n := n4) (by omega)) (by omega) (by omega)).mono ?_
  rintro e w7 ⟨n5, s5, d5, rn2, rA2, rl2, rk2, rfl, hN5, hz5, hl5, hb⟩
  obtain ⟨A5, k5, rfl, -⟩ := hN5.1.len
  replace K := Lib.hid (Keep.stays _ _ K.out hb)
  replace HN := Lib.hid (HN.out.below hb)
  rw [hz3, hz4] at hz5
  have HN5 := Lib.hid hN5
  clear hb hN3 hN4 hz3 hz4 hN5 f1 c10 c11
  go_upto_region 3 with fail
  replace K := Lib.hid (K.out.alloc2 (Obj.num n5 (.slice A5 d5.length k5)) (Obj.num rn2 (.slice rA2 rl2 rk2)))
  have HH := Lib.hid (And.intro (HN.out.below (below_two _ (Obj.num n5 (.slice A5 d5.length k5)) (Obj.num rn2 (.slice rA2 rl2 rk2)))) (HN5.out.below (below_two _ (Obj.num n5 (.slice A5 d5.length k5)) (Obj.num rn2 (.slice rA2 rl2 rk2)))))
  generalize w7.heap.size = g10 at *
  refine out_with (B := fun W => Num W n2 (.slice A2 d2.length k2) d2 ∧ Num W n5 (.slice A5 d5.length k5) d5) K.out HH.out ?_
  clear K HN HN5 HH
  intro W8 K HH
  replace K := Lib.hid K
  replace HH := Lib.hid HH
  go_wp2_with fail
  refine (int_any (-2147483647) _ (by omega) (by omega)).mono ?_
  rintro e w9 ⟨n6, s6, d6, rfl, hN6, hz6, hl6, hb⟩
  obtain ⟨A6, k6, rfl, -⟩ := hN6.1.len
  replace K := Lib.hid (Keep.stays _ _ K.out hb)
  replace HH := Lib.hid (And.intro (HH.out.1.below hb) (And.intro (HH.out.2.below hb) hN6))
  clear hb hN6
  go_upto_region 4 with fail
  replace K := Lib.hid (K.out.alloc (Obj.num n6 (.slice A6 d6.length k6)))
  replace HH := Lib.hid (And.intro (HH.out.1.below (below_one _ (Obj.num n6 (.slice A6 d6.length k6)))) (And.intro (HH.out.2.1.below (below_one _ (Obj.num n6 (.slice A6 d6.length k6)))) (HH.out.2.2.below (below_one _ (Obj.num n6 (.slice A6 d6.length k6))))))
  generalize w9.heap.size = g13 at *
  refine out_with (B := fun W => Num W n2 (.slice A2 d2.length k2) d2 ∧ Num W n5 (.slice A5 d5.length k5) d5 ∧ Num W n6 (.slice A6 d6.length k6) d6) K.out HH.out ?_
  clear K HH
  intro W10 K HH
  replace K := Lib.hid K
  replace HH := Lib.hid HH
  obtain ⟨f1, c10, c11⟩ := K.out.nm (.tail _ (.tail _ (.tail _ (.tail _ (.head _)))))
  obtain ⟨f2, c20, c21⟩ := K.out.nm (.head _)
  go_wp2_with fail
  refine (cmp_any n2 n6 _ _ d2 d6 _ HH.out.1 HH.out.2.2 (by omega) (by omega)).mono ?_
  rintro e w11 ⟨rfl, hb⟩
  replace K := Lib.hid (Keep.stays _ _ K.out hb)
  replace HH := Lib.hid (And.intro (HH.out.1.below hb) (And.intro (HH.out.2.1.below hb) (HH.out.2.2.below hb)))
  clear hb f1 c10 c11 f2 c20 c21
  rw [hz2, hz6]
  have Z2 := Lib.hid hz2; have Z5 := Lib.hid hz5
  clear hz2 hz5
  have HC := Lib.hid (sgn_lt (SpMath.fl (zof n a) y) (-2147483647))
  obtain ⟨hc1, hc2⟩ := sgn_in (SpMath.fl (zof n a) y - -2147483647)
  have HD := Lib.hid (sgn_lt (SpMath.fl (-zof m b) y) (-2147483647))
  obtain ⟨hd1, hd2⟩ := sgn_in (SpMath.fl (-zof m b) y - -2147483647)
  generalize sgn (SpMath.fl (zof n a) y - -2147483647) = cm at *
  generalize hdm : sgn (SpMath.fl (-zof m b) y - -2147483647) = dm at *
  have HDM := Lib.hid hdm
  generalize hL : SpMath.fl (zof n a) y = L at *
  generalize hU : SpMath.fl (-zof m b) y = U at *
  have HLE := Lib.hid hL; have HUE := Lib.hid hU
  clear hL hU hdm
  obtain ⟨hlu, ⟨b1, b2⟩, b3, b4⟩ := HLU.out
  by_cases q1 : cm < 0
  · have HM : Hid (SpMath.made L (-U) = ⟨0, 0, true⟩) := made_whole (.inl (HC.out.1 q1))
    (have f3 := (K.out.rf (.tail _ (.tail _ (.tail _ (.tail _ (.tail _ (.head _))))))).warm; have c30 := (K.out.rf (.tail _ (.tail _ (.tail _ (.tail _ (.tail _ (.head _))))))).cell0; have c31 := (K.out.rf (.tail _ (.tail _ (.tail _ (.tail _ (.tail _ (.head _))))))).cell1; have c32 := (K.out.rf (.tail _ (.tail _ (.tail _ (.tail _ (.tail _ (.head _))))))).cell2)
    (go_wp2_with fail; exact ret_rf Try.results83 rfl ((K.out.putr [_, _, _, _, _] ⟨0, 0, true⟩).rf (.tail _ (.tail _ (.tail _ (.tail _ (.tail _ (.head _))))))) ⟨by rw [HLE.out, HUE.out, HM.out], (K.out.putr [_, _, _, _, _] ⟨0, 0, true⟩).B⟩)
  · have p1 : -2147483647 ≤ L := by have := HC.out.2; omega
    obtain ⟨f1, c10, c11⟩ := K.out.nm (.tail _ (.tail _ (.head _)))
    obtain ⟨f2, c20, c21⟩ := K.out.nm (.head _)
    go_wp2_with fail
    refine (cmp_any n5 n6 _ _ d5 d6 _ HH.out.2.1 HH.out.2.2 (by omega) (by omega)).mono ?_
    rintro e w12 ⟨rfl, hb⟩
    replace K := Lib.hid (Keep.stays _ _ K.out hb)
    replace HH := Lib.hid (And.intro (HH.out.1.below hb) (And.intro (HH.out.2.1.below hb) (HH.out.2.2.below hb)))
    clear hb f1 c10 c11 f2 c20 c21
    rw [Z5.out, hz6, HDM.out]
    by_cases q2 : dm < 0
    · have HM : Hid (SpMath.made L (-U) = ⟨0, 0, true⟩) := made_whole (.inr (by have := HD.out.1 q2; omega))
      (have f3 := (K.out.rf (.tail _ (.tail _ (.tail _ (.tail _ (.tail _ (.head _))))))).warm; have c30 := (K.out.rf (.tail _ (.tail _ (.tail _ (.tail _ (.tail _ (.head _))))))).cell0; have c31 := (K.out.rf (.tail _ (.tail _ (.tail _ (.tail _ (.tail _ (.head _))))))).cell1; have c32 := (K.out.rf (.tail _ (.tail _ (.tail _ (.tail _ (.tail _ (.head _))))))).cell2)
      (go_wp2_with fail; exact ret_rf Try.results83 rfl ((K.out.putr [_, _, _, _, _] ⟨0, 0, true⟩).rf (.tail _ (.tail _ (.tail _ (.tail _ (.tail _ (.head _))))))) ⟨by rw [HLE.out, HUE.out, HM.out], (K.out.putr [_, _, _, _, _] ⟨0, 0, true⟩).B⟩)
    · have p2 : -2147483647 ≤ U := by have := HD.out.2; omega
      obtain ⟨f1, c10, c11⟩ := K.out.nm (.tail _ (.tail _ (.tail _ (.tail _ (.head _)))))
      go_wp2_with fail
      refine (small_any n2 _ d2 _ HH.out.1 (by omega) (by rw [Z2.out]; omega) (by rw [Z2.out]; omega)).mono ?_
      rintro e w13 ⟨rfl, hb⟩
      replace K := Lib.hid (Keep.stays _ _ K.out hb)
      replace HH := Lib.hid (And.intro (HH.out.1.below hb) (And.intro (HH.out.2.1.below hb) (HH.out.2.2.below hb)))
      clear hb f1 c10 c11
      rw [Z2.out]
      obtain ⟨f1, c10, c11⟩ := K.out.nm (.tail _ (.tail _ (.head _)))
      go_wp2_with fail
      refine (small_any n5 _ d5 _ HH.out.2.1 (by omega) (by rw [Z5.out]; omega) (by rw [Z5.out]; omega)).mono ?_
      rintro e w14 ⟨rfl, hb⟩
      replace K := Lib.hid (Keep.stays _ _ K.out hb)
      clear hb f1 c10 c11 HH
      rw [Z5.out]
      (have f3 := (K.out.rf (.tail _ (.tail _ (.tail _ (.tail _ (.tail _ (.head _))))))).warm; have c30 := (K.out.rf (.tail _ (.tail _ (.tail _ (.tail _ (.tail _ (.head _))))))).cell0; have c31 := (K.out.rf (.tail _ (.tail _ (.tail _ (.tail _ (.tail _ (.head _))))))).cell1; have c32 := (K.out.rf (.tail _ (.tail _ (.tail _ (.tail _ (.tail _ (.head _))))))).cell2)
      have q3 : ¬ 2147483647 < L := by omega
      have q4 : ¬ 2147483647 < U := by omega
      have HM : Hid (SpMath.made L (-U) = ⟨L, -U, false⟩) := SpMath.right_fin ⟨rfl, p1, hlu, by show -U ≤ 2147483647; omega⟩
      go_wp2_with fail
      exact ret_rf Try.results83 rfl ((K.out.putr [_, _, _, _, _] ⟨L, -U, false⟩).rf (.tail _ (.tail _ (.tail _ (.tail _ (.tail _ (.head _))))))) ⟨by rw [HLE.out, HUE.out, HM.out], (K.out.putr [_, _, _, _, _] ⟨L, -U, false⟩).B⟩
end Go.Proofs.Ytehjfjdopeadfaa
