/- The walk of the document's Sqrt. -/
import Derived.Test.YtehjfjdopeadfaaRi
set_option linter.unusedVariables false
set_option linter.unusedSimpArgs false
namespace Go.Proofs.Ytehjfjdopeadfaa
open Go.RowKit SpMath

theorem num_sign {w : World} {n : Bool} {s : Value} {d : List Int} (h : Num w n s d) (h0 : 0 ≤ zof n d) : n = false := by
  cases n with
  | false => rfl
  | true =>
    have := val_pos h.2.1 h.2.2.1 (h.2.2.2 rfl)
    have e : zof true d = -val d := rfl
    omega
theorem root_unique {r s A : Int} (r0 : 0 ≤ r) (s0 : 0 ≤ s) (h1 : r * r ≤ A) (h2 : A < (r + 1) * (r + 1)) (h3 : s * s ≤ A) (h4 : A < (s + 1) * (s + 1)) : r = s := by
  rcases Int.lt_trichotomy r s with h | h | h
  · have := sq_mono (a := r + 1) (b := s) (by omega) (by omega); omega
  · exact h
  · have := sq_mono (a := s + 1) (b := r) (by omega) (by omega); omega
theorem rt_is {r A : Int} (h0 : 0 ≤ A) (h1 : A < 18014398509481984) (r0 : 0 ≤ r) (h2 : r * r ≤ A) (h3 : A < (r + 1) * (r + 1)) : r = rt A := by
  obtain ⟨a, b, c, -⟩ := rt_spec h0 h1
  exact root_unique r0 a h2 h3 b c
theorem rt_mono {A B : Int} (h0 : 0 ≤ A) (h : A ≤ B) (h1 : B < 18014398509481984) : rt A ≤ rt B := by
  obtain ⟨a, b, c, -⟩ := rt_spec h0 (show A < 18014398509481984 by omega)
  obtain ⟨a', b', c', -⟩ := rt_spec (show 0 ≤ B by omega) h1
  refine Int.not_lt.1 fun hlt => ?_
  have := sq_mono (a := rt B + 1) (b := rt A) (by omega) (by omega)
  omega

set_option maxHeartbeats 8000000 in
set_option maxRecDepth 100000 in
theorem sqrt_ref (x : Sp) (w : World) : Calls Try.prog 59 #[x.v] w fun e w' => e = .returned (sqrt x).v ∧ Below w.heap.size w w' := by
  have K := Lib.hid (Keep.begin2 w (Obj.ref x) (Obj.ref ⟨0, 0, false⟩))
  go_enter Try.func59, Try.ntmps59
  go_upto_region 1 with fail
  (refine out_keep K.out ?_; clear K; intro W K; replace K := Lib.hid K)
  (have f1 := (K.out.rf (.tail _ (.head _))).warm; have c10 := (K.out.rf (.tail _ (.head _))).cell0; have c11 := (K.out.rf (.tail _ (.head _))).cell1; have c12 := (K.out.rf (.tail _ (.head _))).cell2)
  go_wp2_with fail
  (refine ((right_ref x _)).mono ?_; rintro e w2 ⟨rfl, hb⟩; replace K := Lib.hid (Keep.stays _ _ K.out hb); clear hb)
  ((try clear f1); (try clear c10 c11 c12))
  (go_upto_region 2 with fail; replace K := Lib.hid (K.out.alloc (Obj.ref (right x))); generalize w2.heap.size = gg at *; refine out_keep K.out ?_; clear K; intro W K; replace K := Lib.hid K; clear w2)
  rcases right_two x with ⟨lo, hi, hr, q1, q2, q3, hf, hxe⟩ | ⟨hr, hf⟩
  · by_cases hn : hi < 0
    · have HJ : Hid (sqrt x = ⟨0, 0, true⟩) := by show _ = _; unfold sqrt; rw [hr]; exact if_pos (.inr hn)
      rw [hr] at K
      clear hr hf hxe
      (have f1 := (K.out.rf (.head _)).warm; have c10 := (K.out.rf (.head _)).cell0; have c11 := (K.out.rf (.head _)).cell1; have c12 := (K.out.rf (.head _)).cell2)
      (have f3 := (K.out.rf (.tail _ (.head _))).warm; have c30 := (K.out.rf (.tail _ (.head _))).cell0; have c31 := (K.out.rf (.tail _ (.head _))).cell1; have c32 := (K.out.rf (.tail _ (.head _))).cell2)
      go_wp2_with fail
      exact ret_rf Try.results59 rfl ((K.out.putr_1 ⟨0, 0, true⟩).rf (.tail _ (.head _))) ⟨by rw [HJ.out], (K.out.putr_1 ⟨0, 0, true⟩).B⟩
    · have HJ : Hid (sqrt x = made (rt (max 0 lo * 1048576)) (if rt (hi * 1048576) * rt (hi * 1048576) < hi * 1048576 then rt (hi * 1048576) + 1 else rt (hi * 1048576))) := by
        show _ = _
        unfold sqrt
        rw [hr, if_neg (by rintro (h | h); cases h; exact hn h), show max lo 0 = max 0 lo by omega]
      rw [hr] at K
      clear hr hf hxe
      have HM := Lib.hid (rt_mono (A := max 0 lo * 1048576) (B := hi * 1048576) (by omega) (by omega) (by omega))
      have HS := Lib.hid (rt_spec (A := hi * 1048576) (by omega) (by omega))
      have HT := Lib.hid (rt_spec (A := max 0 lo * 1048576) (by omega) (by omega))
      (have f1 := (K.out.rf (.head _)).warm; have c10 := (K.out.rf (.head _)).cell0; have c11 := (K.out.rf (.head _)).cell1; have c12 := (K.out.rf (.head _)).cell2)
      go_wp2_with fail
      refine (int_any 1048576 _ (by omega) (by omega)).mono ?_
      rintro e w3 ⟨n0, s0, d0, rfl, hN, hz, hl0, hb⟩
      obtain ⟨A0, k0, rfl, -⟩ := hN.1.len
      replace K := Lib.hid (Keep.stays _ _ K.out hb)
      have HN := Lib.hid hN
      have Z0 := Lib.hid hz
      clear hb hN hz
      ((try clear f1); (try clear c10 c11 c12))
      go_upto_region 5 with fail
      (replace K := Lib.hid (K.out.alloc (Obj.num n0 (.slice A0 d0.length k0))); replace HN := Lib.hid (HN.out.below (below_one _ (Obj.num n0 (.slice A0 d0.length k0)))))
      generalize w3.heap.size = g4 at *
      (refine out_with (B := fun W => Num W n0 (.slice A0 d0.length k0) d0) K.out HN.out ?_; clear K HN; intro W3 K HN; replace K := Lib.hid K; replace HN := Lib.hid HN)
      (refine region_float1 _ 11 ⟨10, 5, Obj.num false (.slice none 0 0)⟩ ([(0, 0), (0, 1), (1, 2), (0, 4), (2, 3), (2, 5), (2, 6), (1, 7), (1, 8), (1, 9)]) (by kernel_rfl) (by kernel_rfl) ⟨_, rfl, rfl, rfl, fun a w => rfl, fun md e he => by simp at he⟩ (fun _ _ d _ _ => by cases d <;> exact Iff.rfl) Keep.stays K.out.drew ?_; clear K; intro W K hbw; replace K := Lib.hid K; have K0 := K)
      replace HN := Lib.hid (HN.out.below hbw)
      clear hbw
      (have c10 := Keep.ar0 K (.tail _ (.head _)); have c11 := Keep.ar1 K (.tail _ (.head _)); have c12 := Keep.ar2 K (.tail _ (.head _)))
      obtain ⟨e10, e11⟩ := Keep.anm K (.head _)
      (refine Ph.read rfl (by rfl) ?_; apply Exists.intro; refine ⟨fun p => ?_, ?_⟩; (focus (go_simp; (try (with_reducible rfl)); done)); (try simp only [Act.put, List.setIfInBounds_toArray, List.set_cons_zero, List.set_cons_succ]))
      (refine Ph.read rfl (by rfl) ?_; apply Exists.intro; refine ⟨fun p => ?_, ?_⟩; (focus (go_simp; (try (with_reducible rfl)); done)); (try simp only [Act.put, List.setIfInBounds_toArray, List.set_cons_zero, List.set_cons_succ]))
      (refine Ph.pure rfl (by rfl) ?_; apply Exists.intro; refine ⟨fun w => ?_, ?_⟩; (focus (go_simp; (try (with_reducible rfl)); done)); (try simp only [Act.put, List.setIfInBounds_toArray, List.set_cons_zero, List.set_cons_succ]))
      (refine Ph.read rfl (by rfl) ?_; apply Exists.intro; refine ⟨fun p => ?_, ?_⟩; (focus (go_simp; (try (with_reducible rfl)); done)); (try simp only [Act.put, List.setIfInBounds_toArray, List.set_cons_zero, List.set_cons_succ]))
      clear c10 c11 c12 e10 e11
      (refine Ph.call (f := 84) (args := (#[.int .i64 (max 0 lo)])) rfl (by rfl) (by (intro w2; go_simp; try (with_reducible rfl))) ?_; intro w2 hb; replace K := Lib.hid (Keep.stays _ _ K.out hb))
      replace HN := Lib.hid (HN.out.below hb)
      clear hb
      refine (int_any (max 0 lo) _ (by omega) (by omega)).mono ?_
      rintro e u1 ⟨n1, s1, d1, rfl, hN1, hz1, hl1, hb⟩
      obtain ⟨A1, k1, rfl, -⟩ := hN1.1.len
      (refine ⟨_, rfl, hb, ?_⟩; replace K := Lib.hid (Keep.stays _ _ K.out hb); (try simp only [Act.put, List.setIfInBounds_toArray, List.set_cons_zero, List.set_cons_succ]))
      replace HN := Lib.hid (HN.out.below hb)
      clear hb
      (refine Ph.call (f := 88) (args := (#[.agg #[.bool n1, .slice A1 d1.length k1], .agg #[.bool n0, .slice A0 d0.length k0]])) rfl (by rfl) (by (intro w2; go_simp; try (with_reducible rfl))) ?_; intro w2 hb; replace K := Lib.hid (Keep.stays _ _ K.out hb))
      replace HN := Lib.hid (HN.out.below hb)
      replace hN1 := hN1.below hb
      clear hb
      refine (times_any n1 n0 _ _ d1 d0 _ hN1 HN.out (by omega) (by omega)).mono ?_
      rintro e u2 ⟨n2, s2, d2, rfl, hN2, hz2, hl2, hb⟩
      obtain ⟨A2, k2, rfl, -⟩ := hN2.1.len
      (refine ⟨_, rfl, hb, ?_⟩; replace K := Lib.hid (Keep.stays _ _ K.out hb); (try simp only [Act.put, List.setIfInBounds_toArray, List.set_cons_zero, List.set_cons_succ]))
      replace HN := Lib.hid (HN.out.below hb)
      rw [hz1, Z0.out] at hz2
      clear hb hN1 hz1
      obtain rfl : n2 = false := num_sign hN2 (by omega)
      (refine Ph.call (f := 90) (args := (#[.agg #[.bool false, .slice A2 d2.length k2]])) rfl (by rfl) (by (intro w2; go_simp; try (with_reducible rfl))) ?_; intro w2 hb; replace K := Lib.hid (Keep.stays _ _ K.out hb))
      replace HN := Lib.hid (HN.out.below hb)
      replace hN2 := hN2.below hb
      clear hb
      refine (root_any _ d2 _ hN2 (by omega)).mono ?_
      rintro e u3 ⟨nL, sL, dL, rfl, hN3, r0, r1, r2, hl3, hb⟩
      obtain ⟨AL, kL, rfl, -⟩ := hN3.1.len
      (refine ⟨_, rfl, hb, ?_⟩; replace K := Lib.hid (Keep.stays _ _ K.out hb); (try simp only [Act.put, List.setIfInBounds_toArray, List.set_cons_zero, List.set_cons_succ]))
      replace HN := Lib.hid (And.intro (HN.out.below hb) hN3)
      have ZL : Hid (zof nL dL = rt (max 0 lo * 1048576)) := by
        have e2 : zof false d2 = val d2 := rfl
        rw [← e2, hz2] at r1 r2
        exact rt_is (by omega) (by omega) r0 r1 r2
      have mL : dL.length ≤ 40 := by omega
      clear hb hN2 hN3 hz2 r0 r1 r2 hl1 hl2 hl3
      (refine Ph.pure rfl (by rfl) ?_; apply Exists.intro; refine ⟨fun w => ?_, ?_⟩; (focus (go_simp; (try (with_reducible rfl)); done)); (try simp only [Act.put, List.setIfInBounds_toArray, List.set_cons_zero, List.set_cons_succ]))
      (refine Ph.pure rfl (by rfl) ?_; apply Exists.intro; refine ⟨fun w => ?_, ?_⟩; (focus (go_simp; (try (with_reducible rfl)); done)); (try simp only [Act.put, List.setIfInBounds_toArray, List.set_cons_zero, List.set_cons_succ]))
      (refine Ph.pure rfl (by rfl) ?_; apply Exists.intro; refine ⟨fun w => ?_, ?_⟩; (focus (go_simp; (try (with_reducible rfl)); done)); (try simp only [Act.put, List.setIfInBounds_toArray, List.set_cons_zero, List.set_cons_succ]))
      (intro w2 hb g5 hg hge; replace K := Lib.hid (K0.out.held (Keep.stays _ _ K.out hb) hg hge); clear hg hge K0; simp only [ptr, List.drop_succ_cons, List.drop_zero, Act.put, List.setIfInBounds_toArray, List.set_cons_zero, List.set_cons_succ])
      replace HN := Lib.hid (And.intro (HN.out.1.below hb) (HN.out.2.below hb))
      clear hb
      obtain ⟨f1, c10, c11⟩ := K.out.nm (.head _)
      go_upto_region 6 with fail
      refine out_with (B := fun W => Num W n0 (.slice A0 d0.length k0) d0 ∧ Num W nL (.slice AL dL.length kL) dL) (K.out.putn_0 nL (.slice AL dL.length kL)) ⟨HN.out.1.put (K.out.nm (.head _)).2.1 _ _, HN.out.2.put (K.out.nm (.head _)).2.1 _ _⟩ ?_
      clear K HN f1 c10 c11
      intro W4 K HN
      replace K := Lib.hid K
      replace HN := Lib.hid HN
      (refine region_float1 _ 6 ⟨5, 7, Obj.num false (.slice none 0 0)⟩ ([(0, 0), (0, 1), (0, 3), (2, 2), (2, 4)]) (by kernel_rfl) (by kernel_rfl) ⟨_, rfl, rfl, rfl, fun a w => rfl, fun md e he => by simp at he⟩ (fun _ _ d _ _ => by cases d <;> exact Iff.rfl) Keep.stays K.out.drew ?_; clear K; intro W K hbw; replace K := Lib.hid K; have K0 := K)
      replace HN := Lib.hid (And.intro (HN.out.1.below hbw) (HN.out.2.below hbw))
      clear hbw
      (have c10 := Keep.ar0 K (.tail _ (.tail _ (.head _))); have c11 := Keep.ar1 K (.tail _ (.tail _ (.head _))); have c12 := Keep.ar2 K (.tail _ (.tail _ (.head _))))
      obtain ⟨e10, e11⟩ := Keep.anm K (.tail _ (.head _))
      (refine Ph.read rfl (by rfl) ?_; apply Exists.intro; refine ⟨fun p => ?_, ?_⟩; (focus (go_simp; (try (with_reducible rfl)); done)); (try simp only [Act.put, List.setIfInBounds_toArray, List.set_cons_zero, List.set_cons_succ]))
      (refine Ph.read rfl (by rfl) ?_; apply Exists.intro; refine ⟨fun p => ?_, ?_⟩; (focus (go_simp; (try (with_reducible rfl)); done)); (try simp only [Act.put, List.setIfInBounds_toArray, List.set_cons_zero, List.set_cons_succ]))
      (refine Ph.read rfl (by rfl) ?_; apply Exists.intro; refine ⟨fun p => ?_, ?_⟩; (focus (go_simp; (try (with_reducible rfl)); done)); (try simp only [Act.put, List.setIfInBounds_toArray, List.set_cons_zero, List.set_cons_succ]))
      clear c10 c11 c12 e10 e11
      (refine Ph.call (f := 84) (args := (#[.int .i64 hi])) rfl (by rfl) (by (intro w2; go_simp; try (with_reducible rfl))) ?_; intro w2 hb; replace K := Lib.hid (Keep.stays _ _ K.out hb))
      replace HN := Lib.hid (And.intro (HN.out.1.below hb) (HN.out.2.below hb))
      clear hb
      refine (int_any hi _ (by omega) (by omega)).mono ?_
      rintro e u4 ⟨n1, s1, d1, rfl, hN1, hz1, hl1, hb⟩
      obtain ⟨A1, k1, rfl, -⟩ := hN1.1.len
      (refine ⟨_, rfl, hb, ?_⟩; replace K := Lib.hid (Keep.stays _ _ K.out hb); (try simp only [Act.put, List.setIfInBounds_toArray, List.set_cons_zero, List.set_cons_succ]))
      replace HN := Lib.hid (And.intro (HN.out.1.below hb) (HN.out.2.below hb))
      clear hb
      (refine Ph.call (f := 88) (args := (#[.agg #[.bool n1, .slice A1 d1.length k1], .agg #[.bool n0, .slice A0 d0.length k0]])) rfl (by rfl) (by (intro w2; go_simp; try (with_reducible rfl))) ?_; intro w2 hb; replace K := Lib.hid (Keep.stays _ _ K.out hb))
      replace HN := Lib.hid (And.intro (HN.out.1.below hb) (HN.out.2.below hb))
      replace hN1 := hN1.below hb
      clear hb
      refine (times_any n1 n0 _ _ d1 d0 _ hN1 HN.out.1 (by omega) (by omega)).mono ?_
      rintro e u5 ⟨nN, sN, dN, rfl, hN2, hz2, hl2, hb⟩
      obtain ⟨AN, kN, rfl, -⟩ := hN2.1.len
      (refine ⟨_, rfl, hb, ?_⟩; replace K := Lib.hid (Keep.stays _ _ K.out hb); (try simp only [Act.put, List.setIfInBounds_toArray, List.set_cons_zero, List.set_cons_succ]))
      replace HN := Lib.hid (And.intro (HN.out.2.below hb) hN2)
      rw [hz1, Z0.out] at hz2
      obtain rfl : nN = false := num_sign hN2 (by omega)
      have ZN := Lib.hid hz2
      have mN : dN.length ≤ 40 := by omega
      clear hb hN1 hz1 hN2 hz2 hl1 hl2
      (intro w2 hb g7 hg hge; replace K := Lib.hid (K0.out.held (Keep.stays _ _ K.out hb) hg hge); clear hg hge K0; simp only [ptr, List.drop_succ_cons, List.drop_zero, Act.put, List.setIfInBounds_toArray, List.set_cons_zero, List.set_cons_succ])
      replace HN := Lib.hid (And.intro (HN.out.1.below hb) (HN.out.2.below hb))
      clear hb
      obtain ⟨f1, c10, c11⟩ := K.out.nm (.head _)
      go_upto_region 7 with fail
      refine out_with (B := fun W => Num W nL (.slice AL dL.length kL) dL ∧ Num W false (.slice AN dN.length kN) dN) (K.out.putn_0 false (.slice AN dN.length kN)) ⟨HN.out.1.put (K.out.nm (.head _)).2.1 _ _, HN.out.2.put (K.out.nm (.head _)).2.1 _ _⟩ ?_
      clear K HN f1 c10 c11
      intro W5 K HN
      replace K := Lib.hid K
      replace HN := Lib.hid HN
      obtain ⟨f1, c10, c11⟩ := K.out.nm (.head _)
      go_wp2_with fail
      refine (root_any _ dN _ HN.out.2 (by omega)).mono ?_
      rintro e w6 ⟨nH, sH, dH, rfl, hN3, r0, r1, r2, hl3, hb⟩
      obtain ⟨AH, kH, rfl, -⟩ := hN3.1.len
      replace K := Lib.hid (Keep.stays _ _ K.out hb)
      replace HN := Lib.hid (And.intro (HN.out.1.below hb) (And.intro (HN.out.2.below hb) hN3))
      have ZH : Hid (zof nH dH = rt (hi * 1048576)) := by
        have e2 : zof false dN = val dN := rfl
        rw [← e2, ZN.out] at r1 r2
        exact rt_is (by omega) (by omega) r0 r1 r2
      have mH : dH.length ≤ 42 := by omega
      clear hb hN3 r0 r1 r2 hl3 f1 c10 c11
      go_upto_region 8 with fail
      replace K := Lib.hid (K.out.alloc (Obj.num nH (.slice AH dH.length kH)))
      have hb := below_one w6 (Obj.num nH (.slice AH dH.length kH))
      replace HN := Lib.hid (And.intro (HN.out.1.below hb) (And.intro (HN.out.2.1.below hb) (HN.out.2.2.below hb)))
      clear hb
      generalize w6.heap.size = g8 at *
      refine out_with (B := fun W => Num W nL (.slice AL dL.length kL) dL ∧ Num W false (.slice AN dN.length kN) dN ∧ Num W nH (.slice AH dH.length kH) dH) K.out HN.out ?_
      clear K HN
      intro W7 K HN
      replace K := Lib.hid K
      replace HN := Lib.hid HN
      (refine region_ord _ 5 (by kernel_rfl) (by kernel_rfl) K.out.drew ?_; clear K; intro W K hbw; replace K := Lib.hid K)
      replace HN := Lib.hid (And.intro (HN.out.1.below hbw) (And.intro (HN.out.2.1.below hbw) (HN.out.2.2.below hbw)))
      clear hbw
      obtain ⟨e10, e11⟩ := Keep.anm K (.head _)
      obtain ⟨e20, e21⟩ := Keep.anm K (.tail _ (.head _))
      (refine Ord.take' 0 rfl (by kernel_rfl) (fun _ _ _ _ h => h) K.out (by rfl) ?_; apply Exists.intro; refine ⟨fun p => ?_, ?_⟩; (focus (go_simp; (try (with_reducible rfl)); done)); (try simp only [Act.put, List.setIfInBounds_toArray, List.set_cons_zero, List.set_cons_succ]))
      (refine Ord.take' 1 rfl (by kernel_rfl) (fun _ _ _ _ h => h) K.out (by rfl) ?_; apply Exists.intro; refine ⟨fun p => ?_, ?_⟩; (focus (go_simp; (try (with_reducible rfl)); done)); (try simp only [Act.put, List.setIfInBounds_toArray, List.set_cons_zero, List.set_cons_succ]))
      (refine Ord.take' 3 rfl (by kernel_rfl) (fun _ _ _ _ h => h) K.out (by rfl) ?_; apply Exists.intro; refine ⟨fun p => ?_, ?_⟩; (focus (go_simp; (try (with_reducible rfl)); done)); (try simp only [Act.put, List.setIfInBounds_toArray, List.set_cons_zero, List.set_cons_succ]))
      clear e10 e11 e20 e21
      (refine Ord.call 2 (g := 88) (args := (#[.agg #[.bool nH, .slice AH dH.length kH], .agg #[.bool nH, .slice AH dH.length kH]])) rfl (by kernel_rfl) (by rfl) (by (go_simp; try (with_reducible rfl))) ?_)
      refine (times_any nH nH _ _ dH dH _ HN.out.2.2 HN.out.2.2 (by omega) (by omega)).mono ?_
      rintro e u6 ⟨n2, s2, d2, rfl, hN2, hz2, hl2, hb⟩
      obtain ⟨A2, k2, rfl, -⟩ := hN2.1.len
      (refine ⟨_, rfl, Keep.stays _ _ K.out hb, ?_⟩; replace K := Lib.hid (Keep.stays _ _ K.out hb); simp only [Act.put, List.setIfInBounds_toArray, List.set_cons_zero, List.set_cons_succ])
      replace HN := Lib.hid (And.intro (HN.out.1.below hb) (And.intro (HN.out.2.1.below hb) (HN.out.2.2.below hb)))
      clear hb
      (refine Ord.call 4 (g := 89) (args := (#[.agg #[.bool n2, .slice A2 d2.length k2], .agg #[.bool false, .slice AN dN.length kN]])) rfl (by kernel_rfl) (by rfl) (by (go_simp; try (with_reducible rfl))) ?_)
      refine (cmp_any n2 false _ _ d2 dN _ hN2 HN.out.2.1 (by omega) (by omega)).mono ?_
      rintro e u7 ⟨rfl, hb⟩
      (refine ⟨_, rfl, Keep.stays _ _ K.out hb, ?_⟩; replace K := Lib.hid (Keep.stays _ _ K.out hb); simp only [Act.put, List.setIfInBounds_toArray, List.set_cons_zero, List.set_cons_succ])
      replace HN := Lib.hid (And.intro (HN.out.1.below hb) (HN.out.2.2.below hb))
      have HC := Lib.hid (sgn_lt (zof n2 d2) (zof false dN))
      obtain ⟨hc1, hc2⟩ := sgn_in (zof n2 d2 - zof false dN)
      generalize sgn (zof n2 d2 - zof false dN) = cm at *
      rw [hz2, ZN.out, ZH.out] at HC
      clear hb hN2 hz2 hl2
      (refine Ord.done (by kernel_rfl) ?_; simp only [List.drop_succ_cons, List.drop_zero, Act.put, List.setIfInBounds_toArray, List.set_cons_zero, List.set_cons_succ])
      by_cases c : cm < 0
      · have HJ2 := Lib.hid (HJ.out.trans (congrArg (made _) (if_pos (HC.out.1 c))))
        go_wp2_with fail
        (refine region_ord _ 3 (by kernel_rfl) (by kernel_rfl) K.out.drew ?_; clear K; intro W K hbw; replace K := Lib.hid K)
        replace HN := Lib.hid (And.intro (HN.out.1.below hbw) (HN.out.2.below hbw))
        clear hbw
        obtain ⟨e10, e11⟩ := Keep.anm K (.head _)
        (refine Ord.take' 0 rfl (by kernel_rfl) (fun _ _ _ _ h => h) K.out (by rfl) ?_; apply Exists.intro; refine ⟨fun p => ?_, ?_⟩; (focus (go_simp; (try (with_reducible rfl)); done)); (try simp only [Act.put, List.setIfInBounds_toArray, List.set_cons_zero, List.set_cons_succ]))
        clear e10 e11
        (refine Ord.call 1 (g := 84) (args := (#[.int .i64 1])) rfl (by kernel_rfl) (by rfl) (by (go_simp; try (with_reducible rfl))) ?_)
        refine (int_any 1 _ (by omega) (by omega)).mono ?_
        rintro e u8 ⟨n1, s1, d1, rfl, hN1, hz1, hl1, hb⟩
        obtain ⟨A1, k1, rfl, -⟩ := hN1.1.len
        (refine ⟨_, rfl, Keep.stays _ _ K.out hb, ?_⟩; replace K := Lib.hid (Keep.stays _ _ K.out hb); simp only [Act.put, List.setIfInBounds_toArray, List.set_cons_zero, List.set_cons_succ])
        replace HN := Lib.hid (And.intro (HN.out.1.below hb) (HN.out.2.below hb))
        clear hb
        (refine Ord.call 2 (g := 91) (args := (#[.agg #[.bool nH, .slice AH dH.length kH], .agg #[.bool n1, .slice A1 d1.length k1]])) rfl (by kernel_rfl) (by rfl) (by (go_simp; try (with_reducible rfl))) ?_)
        refine (add_num nH n1 _ _ dH d1 _ HN.out.2 hN1 (by omega) (by omega)).mono ?_
        rintro e u9 ⟨nU, sU, dU, rfl, hNU, hzU, hlU, hb⟩
        obtain ⟨AU, kU, rfl, -⟩ := hNU.1.len
        (refine ⟨_, rfl, Keep.stays _ _ K.out hb, ?_⟩; replace K := Lib.hid (Keep.stays _ _ K.out hb); simp only [Act.put, List.setIfInBounds_toArray, List.set_cons_zero, List.set_cons_succ])
        replace HN := Lib.hid (And.intro (HN.out.1.below hb) hNU)
        rw [hz1, ZH.out] at hzU
        have ZU := Lib.hid hzU
        clear hb hN1 hNU hz1 hzU
        (refine Ord.done (by kernel_rfl) ?_; simp only [List.drop_succ_cons, List.drop_zero, Act.put, List.setIfInBounds_toArray, List.set_cons_zero, List.set_cons_succ])
        obtain ⟨f1, c10, c11⟩ := K.out.nm (.head _)
        go_upto_region 11 with fail
        refine out_with (B := fun W => Num W nL (.slice AL dL.length kL) dL ∧ Num W nU (.slice AU dU.length kU) dU) (K.out.putn_0 nU (.slice AU dU.length kU)) ⟨HN.out.1.put (K.out.nm (.head _)).2.1 _ _, HN.out.2.put (K.out.nm (.head _)).2.1 _ _⟩ ?_
        clear K HN f1 c10 c11
        intro W9 K HN
        replace K := Lib.hid K
        replace HN := Lib.hid HN
        (obtain ⟨f1, c10, c11⟩ := K.out.nm (.tail _ (.tail _ (.head _))); obtain ⟨f2, c20, c21⟩ := K.out.nm (.head _); go_wp2_with fail; obtain ⟨t1, t2, t3, t4⟩ := HS.out; obtain ⟨t5, t6, t7, t8⟩ := HT.out; have t9 := HM.out; refine (tight_any nL nU _ _ dL dU 1 _ HN.out.1 HN.out.2 (by omega) (by omega) (by omega) (by omega) (by rw [ZL.out, ZU.out]; omega) (by rw [ZL.out]; omega) (by rw [ZU.out]; omega)).mono ?_; rintro e w9 ⟨rfl, hb⟩; rw [ZL.out, ZU.out, made_ones, ← HJ2.out]; replace K := Lib.hid (Keep.stays _ _ K.out hb); clear hb f1 c10 c11 f2 c20 c21 t1 t2 t3 t4 t5 t6 t7 t8 t9; have f3 := (K.out.rf (.tail _ (.tail _ (.tail _ (.tail _ (.tail _ (.head _))))))).warm; have c30 := (K.out.rf (.tail _ (.tail _ (.tail _ (.tail _ (.tail _ (.head _))))))).cell0; have c31 := (K.out.rf (.tail _ (.tail _ (.tail _ (.tail _ (.tail _ (.head _))))))).cell1; have c32 := (K.out.rf (.tail _ (.tail _ (.tail _ (.tail _ (.tail _ (.head _))))))).cell2; go_wp2_with fail; exact ret_rf Try.results59 rfl ((K.out.putr [_, _, _, _, _] (sqrt x)).rf (.tail _ (.tail _ (.tail _ (.tail _ (.tail _ (.head _))))))) ⟨rfl, (K.out.putr [_, _, _, _, _] (sqrt x)).B⟩)
      · have HJ2 := Lib.hid (HJ.out.trans (congrArg (made _) (if_neg (fun h => c (HC.out.2 h)))))
        go_upto_region 11 with fail
        (obtain ⟨f1, c10, c11⟩ := K.out.nm (.tail _ (.tail _ (.head _))); obtain ⟨f2, c20, c21⟩ := K.out.nm (.head _); go_wp2_with fail; obtain ⟨t1, t2, t3, t4⟩ := HS.out; obtain ⟨t5, t6, t7, t8⟩ := HT.out; have t9 := HM.out; refine (tight_any nL nH _ _ dL dH 1 _ HN.out.1 HN.out.2 (by omega) (by omega) (by omega) (by omega) (by rw [ZL.out, ZH.out]; omega) (by rw [ZL.out]; omega) (by rw [ZH.out]; omega)).mono ?_; rintro e w9 ⟨rfl, hb⟩; rw [ZL.out, ZH.out, made_ones, ← HJ2.out]; replace K := Lib.hid (Keep.stays _ _ K.out hb); clear hb f1 c10 c11 f2 c20 c21 t1 t2 t3 t4 t5 t6 t7 t8 t9; have f3 := (K.out.rf (.tail _ (.tail _ (.tail _ (.tail _ (.tail _ (.head _))))))).warm; have c30 := (K.out.rf (.tail _ (.tail _ (.tail _ (.tail _ (.tail _ (.head _))))))).cell0; have c31 := (K.out.rf (.tail _ (.tail _ (.tail _ (.tail _ (.tail _ (.head _))))))).cell1; have c32 := (K.out.rf (.tail _ (.tail _ (.tail _ (.tail _ (.tail _ (.head _))))))).cell2; go_wp2_with fail; exact ret_rf Try.results59 rfl ((K.out.putr [_, _, _, _, _] (sqrt x)).rf (.tail _ (.tail _ (.tail _ (.tail _ (.tail _ (.head _))))))) ⟨rfl, (K.out.putr [_, _, _, _, _] (sqrt x)).B⟩)
  · have HJ : Hid (sqrt x = ⟨0, 0, true⟩) := by show _ = _; unfold sqrt; rw [hr]; exact if_pos (.inl rfl)
    rw [hr] at K
    clear hr hf
    (have f1 := (K.out.rf (.head _)).warm; have c10 := (K.out.rf (.head _)).cell0; have c11 := (K.out.rf (.head _)).cell1; have c12 := (K.out.rf (.head _)).cell2)
    (have f3 := (K.out.rf (.tail _ (.head _))).warm; have c30 := (K.out.rf (.tail _ (.head _))).cell0; have c31 := (K.out.rf (.tail _ (.head _))).cell1; have c32 := (K.out.rf (.tail _ (.head _))).cell2)
    go_wp2_with fail
    exact ret_rf Try.results59 rfl ((K.out.putr_1 ⟨0, 0, true⟩).rf (.tail _ (.head _))) ⟨by rw [HJ.out], (K.out.putr_1 ⟨0, 0, true⟩).B⟩
end Go.Proofs.Ytehjfjdopeadfaa
