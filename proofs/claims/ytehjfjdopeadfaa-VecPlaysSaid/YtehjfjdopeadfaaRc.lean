/- The walks of the document's Neg, Add and Sub. -/
import Derived.Test.YtehjfjdopeadfaaRb
import Derived.Test.YtehjfjdopeadfaaSpN
set_option linter.unusedVariables false
set_option linter.unusedSimpArgs false
namespace Go.Proofs.Ytehjfjdopeadfaa
open Go.RowKit SpMath

theorem fl_one (x : Int) : fl x 1 = x := by unfold fl; rw [if_pos (by decide)]; exact Int.ediv_one x
theorem made_ones (a b : Int) : made (fl a 1) (-fl (-b) 1) = made a b := by rw [fl_one, fl_one, Int.neg_neg]
theorem neg_fin {x : Sp} (h : Fin x) : neg x = ⟨-x.hi, -x.lo, false⟩ := by
  have h0 : of 0 0 = ⟨0, 0, false⟩ := by decide
  have hf : Fin (of 0 0) := by rw [h0]; exact ⟨rfl, by decide, by decide, by decide⟩
  have hk := h
  obtain ⟨-, h1, h2, h3⟩ := hk
  unfold neg sub
  rw [both_fin hf ‹Fin x›, h0]
  show made (0 - x.hi) (0 - x.lo) = _
  rw [Int.zero_sub, Int.zero_sub]
  exact right_fin ⟨rfl, by show -2147483647 ≤ -x.hi; omega, by show -x.hi ≤ -x.lo; omega, by show -x.lo ≤ 2147483647; omega⟩
theorem neg_not {x : Sp} (h : ¬ Fin x) : neg x = ⟨0, 0, true⟩ := both_not fun k => h k.2
theorem add_neg (x y : Sp) : add x (neg y) = sub x y := by
  by_cases hy : Fin y
  · have hk := hy
    obtain ⟨-, h1, h2, h3⟩ := hk
    have hn := neg_fin ‹Fin y›
    have hf : Fin (neg y) := by rw [hn]; exact ⟨rfl, by show -2147483647 ≤ -y.hi; omega, by show -y.hi ≤ -y.lo; omega, by show -y.lo ≤ 2147483647; omega⟩
    by_cases hx : Fin x
    · unfold add sub
      rw [both_fin hx hf, both_fin hx ‹Fin y›]
      unfold addF subF
      rw [hn]
      show made (x.lo + -y.hi) (x.hi + -y.lo) = _
      rw [Int.sub_eq_add_neg, Int.sub_eq_add_neg]
    · unfold add sub
      rw [both_not fun h => hx h.1, both_not fun h => hx h.1]
  · unfold add sub
    rw [both_not fun h => by have := h.2; rw [neg_not hy] at this; exact absurd this.1 (by decide), both_not fun h => hy h.2]

set_option maxHeartbeats 1000000 in
set_option maxRecDepth 100000 in
theorem neg_ref (x : Sp) (w : World) : Calls Try.prog 57 #[x.v] w fun e w' => e = .returned (neg x).v ∧ Below w.heap.size w w' := by
  have K := Lib.hid (Keep.begin2 w (Obj.ref x) (Obj.ref ⟨0, 0, false⟩))
  go_enter Try.func57, Try.ntmps57
  go_upto_region 1 with fail
  (refine out_keep K.out ?_; clear K; intro W K; replace K := Lib.hid K)
  (have f1 := (K.out.rf (.tail _ (.head _))).warm; have c10 := (K.out.rf (.tail _ (.head _))).cell0; have c11 := (K.out.rf (.tail _ (.head _))).cell1; have c12 := (K.out.rf (.tail _ (.head _))).cell2)
  go_wp2_with fail
  (refine ((right_ref x _)).mono ?_; rintro e w2 ⟨rfl, hb⟩; replace K := Lib.hid (Keep.stays _ _ K.out hb); clear hb)
  ((try clear f1); (try clear c10 c11 c12))
  (go_upto_region 2 with fail; replace K := Lib.hid (K.out.alloc (Obj.ref (right x))); generalize w2.heap.size = gg at *; refine out_keep K.out ?_; clear K; intro W K; replace K := Lib.hid K; clear w2)
  rcases right_two x with ⟨lo, hi, hr, h1, h2, h3, hf, hxe⟩ | ⟨hr, hf⟩
  · have HJ : Hid (neg x = ⟨-hi, -lo, false⟩) := by show _ = _; rw [neg_fin hf, hxe]
    rw [hr] at K
    clear hr hf hxe
    (have f1 := (K.out.rf (.head _)).warm; have c10 := (K.out.rf (.head _)).cell0; have c11 := (K.out.rf (.head _)).cell1; have c12 := (K.out.rf (.head _)).cell2)
    (have f3 := (K.out.rf (.tail _ (.head _))).warm; have c30 := (K.out.rf (.tail _ (.head _))).cell0; have c31 := (K.out.rf (.tail _ (.head _))).cell1; have c32 := (K.out.rf (.tail _ (.head _))).cell2)
    go_wp2_with fail
    exact ret_rf Try.results57 rfl ((K.out.putr_1 ⟨-hi, -lo, false⟩).rf (.tail _ (.head _))) ⟨by rw [HJ.out], (K.out.putr_1 ⟨-hi, -lo, false⟩).B⟩
  · have HJ : Hid (neg x = ⟨0, 0, true⟩) := neg_not hf
    rw [hr] at K
    clear hr hf
    (have f1 := (K.out.rf (.head _)).warm; have c10 := (K.out.rf (.head _)).cell0; have c11 := (K.out.rf (.head _)).cell1; have c12 := (K.out.rf (.head _)).cell2)
    (have f3 := (K.out.rf (.tail _ (.head _))).warm; have c30 := (K.out.rf (.tail _ (.head _))).cell0; have c31 := (K.out.rf (.tail _ (.head _))).cell1; have c32 := (K.out.rf (.tail _ (.head _))).cell2)
    go_wp2_with fail
    exact ret_rf Try.results57 rfl ((K.out.putr_1 ⟨0, 0, true⟩).rf (.tail _ (.head _))) ⟨by rw [HJ.out], (K.out.putr_1 ⟨0, 0, true⟩).B⟩

set_option maxHeartbeats 8000000 in
set_option maxRecDepth 100000 in
theorem add_ref (x y : Sp) (w : World) : Calls Try.prog 51 #[x.v, y.v] w fun e w' => e = .returned (add x y).v ∧ Below w.heap.size w w' := by
  have K := Lib.hid (Keep.begin3 w (Obj.ref x) (Obj.ref y) (Obj.ref ⟨0, 0, false⟩))
  (go_enter Try.func51, Try.ntmps51; go_upto_region 1 with fail; (refine out_keep K.out ?_; clear K; intro W K; replace K := Lib.hid K); (have f1 := (K.out.rf (.tail _ (.tail _ (.head _)))).warm; have c10 := (K.out.rf (.tail _ (.tail _ (.head _)))).cell0; have c11 := (K.out.rf (.tail _ (.tail _ (.head _)))).cell1; have c12 := (K.out.rf (.tail _ (.tail _ (.head _)))).cell2); go_wp2_with fail; (refine ((right_ref x _)).mono ?_; rintro e w2 ⟨rfl, hb⟩; replace K := Lib.hid (Keep.stays _ _ K.out hb); clear hb); ((try clear f1); (try clear c10 c11 c12)); (go_upto_region 2 with fail; replace K := Lib.hid (K.out.alloc (Obj.ref (right x))); generalize w2.heap.size = gg at *; refine out_keep K.out ?_; clear K; intro W K; replace K := Lib.hid K; clear w2); (have f1 := (K.out.rf (.tail _ (.tail _ (.head _)))).warm; have c10 := (K.out.rf (.tail _ (.tail _ (.head _)))).cell0; have c11 := (K.out.rf (.tail _ (.tail _ (.head _)))).cell1; have c12 := (K.out.rf (.tail _ (.tail _ (.head _)))).cell2); go_wp2_with fail; (refine ((right_ref y _)).mono ?_; rintro e w2 ⟨rfl, hb⟩; replace K := Lib.hid (Keep.stays _ _ K.out hb); clear hb); ((try clear f1); (try clear c10 c11 c12)); (go_upto_region 3 with fail; replace K := Lib.hid (K.out.alloc (Obj.ref (right y))); generalize w2.heap.size = gg at *; refine out_keep K.out ?_; clear K; intro W K; replace K := Lib.hid K; clear w2))
  rcases right_four x y with ⟨lo, hi, l2, h2, hx, hy, hbd, fx, fy⟩ | ⟨hx, fx⟩ | ⟨⟨lo, hi, hx, hb1, hb2, hb3, -⟩, hy, fy⟩
  · have HJ : Hid (add x y = made (lo + l2) (hi + h2)) := by
      show _ = _
      unfold add
      rw [both_fin fx fy]
      unfold addF
      rw [right_fin fx] at hx; rw [right_fin fy] at hy
      rw [hx, hy]
    rw [hx, hy] at K
    clear hx hy fx fy
    obtain ⟨q1, q2, q3, q4, q5, q6⟩ := hbd
    (have f1 := (K.out.rf (.tail _ (.head _))).warm; have c10 := (K.out.rf (.tail _ (.head _))).cell0; have c11 := (K.out.rf (.tail _ (.head _))).cell1; have c12 := (K.out.rf (.tail _ (.head _))).cell2)
    (have f2 := (K.out.rf (.head _)).warm; have c20 := (K.out.rf (.head _)).cell0; have c21 := (K.out.rf (.head _)).cell1; have c22 := (K.out.rf (.head _)).cell2)
    go_wp2_with fail
    ((try clear f1); (try clear c10 c11 c12))
    ((try clear f2); (try clear c20 c21 c22))
    (refine region_ord _ 13 (by kernel_rfl) (by kernel_rfl) K.out.drew ?_; clear K; intro W K hbw; replace K := Lib.hid K)
    clear hbw
    (have c10 := Keep.ar0 K (.tail _ (.head _)); have c11 := Keep.ar1 K (.tail _ (.head _)); have c12 := Keep.ar2 K (.tail _ (.head _)))
    (have c20 := Keep.ar0 K (.head _); have c21 := Keep.ar1 K (.head _); have c22 := Keep.ar2 K (.head _))
    have hw1 : IntKind.i64.wrap (lo + l2) = lo + l2 := IntWalk.i64_in _ (by omega)
    have hw2 : IntKind.i64.wrap (hi + h2) = hi + h2 := IntWalk.i64_in _ (by omega)
    (refine Ord.take' 0 rfl (by kernel_rfl) (fun _ _ _ _ h => h) K.out (by rfl) ?_; apply Exists.intro; refine ⟨fun p => ?_, ?_⟩; (focus (go_simp; (try (with_reducible rfl)); done)); (try simp only [Act.put, List.setIfInBounds_toArray, List.set_cons_zero, List.set_cons_succ]))
    (refine Ord.take' 1 rfl (by kernel_rfl) (fun _ _ _ _ h => h) K.out (by rfl) ?_; apply Exists.intro; refine ⟨fun p => ?_, ?_⟩; (focus (go_simp; (try (with_reducible rfl)); done)); (try simp only [Act.put, List.setIfInBounds_toArray, List.set_cons_zero, List.set_cons_succ]))
    (refine Ord.take' 2 rfl (by kernel_rfl) (fun _ _ _ _ h => h) K.out (by rfl) ?_; apply Exists.intro; refine ⟨fun p => ?_, ?_⟩; (focus (go_simp; (try (with_reducible rfl)); done)); (try simp only [Act.put, List.setIfInBounds_toArray, List.set_cons_zero, List.set_cons_succ]))
    (refine Ord.take' 3 rfl (by kernel_rfl) (fun _ _ _ _ h => h) K.out (by rfl) ?_; apply Exists.intro; refine ⟨fun p => ?_, ?_⟩; (focus (go_simp; (try (with_reducible rfl)); done)); (try simp only [Act.put, List.setIfInBounds_toArray, List.set_cons_zero, List.set_cons_succ]))
    (refine Ord.take' 4 rfl (by kernel_rfl) (fun _ _ _ _ h => h) K.out (by rfl) ?_; apply Exists.intro; refine ⟨fun p => ?_, ?_⟩; (focus (go_simp; (try (with_reducible rfl)); done)); (try simp only [Act.put, List.setIfInBounds_toArray, List.set_cons_zero, List.set_cons_succ]))
    (refine Ord.take' 6 rfl (by kernel_rfl) (fun _ _ _ _ h => h) K.out (by rfl) ?_; apply Exists.intro; refine ⟨fun p => ?_, ?_⟩; (focus (go_simp; (try (with_reducible rfl)); done)); (try simp only [Act.put, List.setIfInBounds_toArray, List.set_cons_zero, List.set_cons_succ]))
    (refine Ord.take' 7 rfl (by kernel_rfl) (fun _ _ _ _ h => h) K.out (by rfl) ?_; apply Exists.intro; refine ⟨fun p => ?_, ?_⟩; (focus (go_simp; (try (with_reducible rfl)); done)); (try simp only [Act.put, List.setIfInBounds_toArray, List.set_cons_zero, List.set_cons_succ]))
    (refine Ord.take' 8 rfl (by kernel_rfl) (fun _ _ _ _ h => h) K.out (by rfl) ?_; apply Exists.intro; refine ⟨fun p => ?_, ?_⟩; (focus (go_simp; (try (with_reducible rfl)); done)); (try simp only [Act.put, List.setIfInBounds_toArray, List.set_cons_zero, List.set_cons_succ]))
    (refine Ord.take' 9 rfl (by kernel_rfl) (fun _ _ _ _ h => h) K.out (by rfl) ?_; apply Exists.intro; refine ⟨fun p => ?_, ?_⟩; (focus (go_simp; (try (with_reducible rfl)); done)); (try simp only [Act.put, List.setIfInBounds_toArray, List.set_cons_zero, List.set_cons_succ]))
    (refine Ord.take' 10 rfl (by kernel_rfl) (fun _ _ _ _ h => h) K.out (by rfl) ?_; apply Exists.intro; refine ⟨fun p => ?_, ?_⟩; (focus (go_simp; (try (with_reducible rfl)); done)); (try simp only [Act.put, List.setIfInBounds_toArray, List.set_cons_zero, List.set_cons_succ]))
    clear c10 c11 c12 c20 c21 c22 hw1 hw2
    (refine Ord.call 5 (g := 84) (args := (#[.int .i64 (lo + l2)])) rfl (by kernel_rfl) (by rfl) (by (go_simp; try (with_reducible rfl))) ?_)
    refine (int_any (lo + l2) _ (by omega) (by omega)).mono ?_
    rintro e w3 ⟨n1, s1, d1, rfl, hN1, hz1, hl1, hb⟩
    obtain ⟨A1, k1, rfl, -⟩ := hN1.1.len
    (refine ⟨_, rfl, Keep.stays _ _ K.out hb, ?_⟩; replace K := Lib.hid (Keep.stays _ _ K.out hb); simp only [Act.put, List.setIfInBounds_toArray, List.set_cons_zero, List.set_cons_succ])
    clear hb
    (refine Ord.call 11 (g := 84) (args := (#[.int .i64 (hi + h2)])) rfl (by kernel_rfl) (by rfl) (by (go_simp; try (with_reducible rfl))) ?_)
    refine (int_any (hi + h2) _ (by omega) (by omega)).mono ?_
    rintro e w4 ⟨n2, s2, d2, rfl, hN2, hz2, hl2, hb⟩
    obtain ⟨A2, k2, rfl, -⟩ := hN2.1.len
    (refine ⟨_, rfl, Keep.stays _ _ K.out hb, ?_⟩; replace K := Lib.hid (Keep.stays _ _ K.out hb); simp only [Act.put, List.setIfInBounds_toArray, List.set_cons_zero, List.set_cons_succ])
    replace hN1 := hN1.below hb
    clear hb
    (refine Ord.call 12 (g := 83) (args := (#[.agg #[.bool n1, .slice A1 d1.length k1], .agg #[.bool n2, .slice A2 d2.length k2], .int .i64 1])) rfl (by kernel_rfl) (by rfl) (by (go_simp; try (with_reducible rfl))) ?_)
    refine (tight_any n1 n2 _ _ d1 d2 1 _ hN1 hN2 (by omega) (by omega) (by omega) (by omega) (by omega) (by omega) (by omega)).mono ?_
    rintro e w5 ⟨rfl, hb⟩
    rw [hz1, hz2, made_ones, ← HJ.out]
    (refine ⟨_, rfl, Keep.stays _ _ K.out hb, ?_⟩; replace K := Lib.hid (Keep.stays _ _ K.out hb); simp only [Act.put, List.setIfInBounds_toArray, List.set_cons_zero, List.set_cons_succ])
    clear hb hN1 hN2 hz1 hz2 hl1 hl2
    (refine Ord.done (by kernel_rfl) ?_; simp only [List.drop_succ_cons, List.drop_zero, Act.put, List.setIfInBounds_toArray, List.set_cons_zero, List.set_cons_succ])
    (have f3 := (K.out.rf (.tail _ (.tail _ (.head _)))).warm; have c30 := (K.out.rf (.tail _ (.tail _ (.head _)))).cell0; have c31 := (K.out.rf (.tail _ (.tail _ (.head _)))).cell1; have c32 := (K.out.rf (.tail _ (.tail _ (.head _)))).cell2)
    go_wp2_with fail
    exact ret_rf Try.results51 rfl ((K.out.putr_2 (add x y)).rf (.tail _ (.tail _ (.head _)))) ⟨rfl, (K.out.putr_2 (add x y)).B⟩
  · have HJ : Hid (add x y = ⟨0, 0, true⟩) := both_not fun h => fx h.1
    rw [hx] at K
    clear hx fx
    (have f1 := (K.out.rf (.tail _ (.head _))).warm; have c10 := (K.out.rf (.tail _ (.head _))).cell0; have c11 := (K.out.rf (.tail _ (.head _))).cell1; have c12 := (K.out.rf (.tail _ (.head _))).cell2)
    (have f2 := (K.out.rf (.head _)).warm; have c20 := (K.out.rf (.head _)).cell0; have c21 := (K.out.rf (.head _)).cell1; have c22 := (K.out.rf (.head _)).cell2)
    (have f3 := (K.out.rf (.tail _ (.tail _ (.head _)))).warm; have c30 := (K.out.rf (.tail _ (.tail _ (.head _)))).cell0; have c31 := (K.out.rf (.tail _ (.tail _ (.head _)))).cell1; have c32 := (K.out.rf (.tail _ (.tail _ (.head _)))).cell2)
    go_wp2_with fail
    exact ret_rf Try.results51 rfl ((K.out.putr_2 ⟨0, 0, true⟩).rf (.tail _ (.tail _ (.head _)))) ⟨by rw [HJ.out], (K.out.putr_2 ⟨0, 0, true⟩).B⟩
  · have HJ : Hid (add x y = ⟨0, 0, true⟩) := both_not fun h => fy h.2
    rw [hx, hy] at K
    clear hx hy fy
    (have f1 := (K.out.rf (.tail _ (.head _))).warm; have c10 := (K.out.rf (.tail _ (.head _))).cell0; have c11 := (K.out.rf (.tail _ (.head _))).cell1; have c12 := (K.out.rf (.tail _ (.head _))).cell2)
    (have f2 := (K.out.rf (.head _)).warm; have c20 := (K.out.rf (.head _)).cell0; have c21 := (K.out.rf (.head _)).cell1; have c22 := (K.out.rf (.head _)).cell2)
    (have f3 := (K.out.rf (.tail _ (.tail _ (.head _)))).warm; have c30 := (K.out.rf (.tail _ (.tail _ (.head _)))).cell0; have c31 := (K.out.rf (.tail _ (.tail _ (.head _)))).cell1; have c32 := (K.out.rf (.tail _ (.tail _ (.head _)))).cell2)
    go_wp2_with fail
    exact ret_rf Try.results51 rfl ((K.out.putr_2 ⟨0, 0, true⟩).rf (.tail _ (.tail _ (.head _)))) ⟨by rw [HJ.out], (K.out.putr_2 ⟨0, 0, true⟩).B⟩

set_option maxHeartbeats 8000000 in
set_option maxRecDepth 100000 in
theorem sub_ref (x y : Sp) (w : World) : Calls Try.prog 52 #[x.v, y.v] w fun e w' => e = .returned (sub x y).v ∧ Below w.heap.size w w' := by
  have K := Lib.hid (Keep.begin3 w (Obj.ref x) (Obj.ref y) (Obj.ref ⟨0, 0, false⟩))
  go_enter Try.func52, Try.ntmps52
  go_upto_region 1 with fail
  (refine out_keep K.out ?_; clear K; intro W K; replace K := Lib.hid K)
  (refine region_ord _ 4 (by kernel_rfl) (by kernel_rfl) K.out.drew ?_; clear K; intro W K hbw; replace K := Lib.hid K)
  clear hbw
  (have c10 := Keep.ar0 K (.tail _ (.tail _ (.head _))); have c11 := Keep.ar1 K (.tail _ (.tail _ (.head _))); have c12 := Keep.ar2 K (.tail _ (.tail _ (.head _))))
  (have c20 := Keep.ar0 K (.tail _ (.head _)); have c21 := Keep.ar1 K (.tail _ (.head _)); have c22 := Keep.ar2 K (.tail _ (.head _)))
  (refine Ord.take' 0 rfl (by kernel_rfl) (fun _ _ _ _ h => h) K.out (by rfl) ?_; apply Exists.intro; refine ⟨fun p => ?_, ?_⟩; (focus (go_simp; (try (with_reducible rfl)); done)); (try simp only [Act.put, List.setIfInBounds_toArray, List.set_cons_zero, List.set_cons_succ]))
  (refine Ord.take' 1 rfl (by kernel_rfl) (fun _ _ _ _ h => h) K.out (by rfl) ?_; apply Exists.intro; refine ⟨fun p => ?_, ?_⟩; (focus (go_simp; (try (with_reducible rfl)); done)); (try simp only [Act.put, List.setIfInBounds_toArray, List.set_cons_zero, List.set_cons_succ]))
  clear c10 c11 c12 c20 c21 c22
  (refine Ord.call 2 (g := 57) (args := (#[y.v])) rfl (by kernel_rfl) (by rfl) (by (go_simp; try (with_reducible rfl))) ?_)
  refine (neg_ref y _).mono ?_
  rintro e w3 ⟨rfl, hb⟩
  (refine ⟨_, rfl, Keep.stays _ _ K.out hb, ?_⟩; replace K := Lib.hid (Keep.stays _ _ K.out hb); simp only [Act.put, List.setIfInBounds_toArray, List.set_cons_zero, List.set_cons_succ])
  clear hb
  (refine Ord.call 3 (g := 51) (args := (#[x.v, (neg y).v])) rfl (by kernel_rfl) (by rfl) (by (go_simp; try (with_reducible rfl))) ?_)
  refine (add_ref x (neg y) _).mono ?_
  rintro e w3 ⟨rfl, hb⟩
  rw [add_neg]
  (refine ⟨_, rfl, Keep.stays _ _ K.out hb, ?_⟩; replace K := Lib.hid (Keep.stays _ _ K.out hb); simp only [Act.put, List.setIfInBounds_toArray, List.set_cons_zero, List.set_cons_succ])
  clear hb
  (refine Ord.done (by kernel_rfl) ?_; simp only [List.drop_succ_cons, List.drop_zero, Act.put, List.setIfInBounds_toArray, List.set_cons_zero, List.set_cons_succ])
  (have f3 := (K.out.rf (.head _)).warm; have c30 := (K.out.rf (.head _)).cell0; have c31 := (K.out.rf (.head _)).cell1; have c32 := (K.out.rf (.head _)).cell2)
  go_wp2_with fail
  exact ret_rf Try.results52 rfl ((K.out.putr_0 (sub x y)).rf (.head _)) ⟨rfl, (K.out.putr_0 (sub x y)).B⟩
end Go.Proofs.Ytehjfjdopeadfaa
