/- The walk of the document's Sqr. -/
import Derived.Test.YtehjfjdopeadfaaRd
import Derived.Test.YtehjfjdopeadfaaSpTi
set_option linter.unusedVariables false
set_option linter.unusedSimpArgs false
namespace Go.Proofs.Ytehjfjdopeadfaa
open Go.RowKit SpMath

theorem max_le' {a b : Int} (h : a ≤ b) : b = max a b := by omega



theorem fl_mil (a : Int) : fl a 1048576 = a / 1048576 := if_pos (by decide)

theorem sqr_doc {lo hi : Int} (q1 : -2147483647 ≤ lo) (q2 : lo ≤ hi) (q3 : hi ≤ 2147483647) : sqr ⟨lo, hi, false⟩ = if lo ≤ 0 ∧ 0 ≤ hi then made (fl 0 1048576) (-fl (-max (lo * lo) (hi * hi)) 1048576) else made (fl (min (lo * lo) (hi * hi)) 1048576) (-fl (-max (lo * lo) (hi * hi)) 1048576) := by
  have fx : Fin ⟨lo, hi, false⟩ := ⟨rfl, q1, q2, q3⟩
  have hm : mul ⟨lo, hi, false⟩ ⟨lo, hi, false⟩ = made (lo4 (lo * lo) (lo * hi) (hi * lo) (hi * hi) / 1048576) (-(-(hi4 (lo * lo) (lo * hi) (hi * lo) (hi * hi)) / 1048576)) := mul_yes fx fx
  simp only [fl_mil]
  have p0 := sq_nonneg lo
  have p1 := sq_nonneg hi
  have pc : hi * lo = lo * hi := Int.mul_comm _ _
  unfold sqr
  rw [hm, pc]
  by_cases h : lo ≤ 0 ∧ 0 ≤ hi
  · have r1 : lo * hi ≤ 0 := Int.mul_nonpos_of_nonpos_of_nonneg h.1 h.2
    have r2 : -(lo * hi) ≤ max (lo * lo) (hi * hi) := by
      rw [← Int.neg_mul]
      by_cases hc : -lo ≤ hi
      · have := Int.mul_le_mul_of_nonneg_right hc h.2
        omega
      · have h1 : -lo * hi ≤ -lo * -lo := Int.mul_le_mul_of_nonneg_left (show hi ≤ -lo by omega) (by omega)
        rw [Int.neg_mul_neg] at h1
        omega
    rw [if_pos h]
    generalize lo * lo = p at *
    generalize hi * hi = q at *
    generalize lo * hi = r at *
    have e1 : lo4 p r r q = r := by unfold lo4; omega
    have e2 : hi4 p r r q = max p q := by unfold hi4; omega
    rw [e1, e2]
    generalize max p q = M at *
    by_cases hM : -(-M / 1048576) ≤ 2147483647
    · have h1 : made (r / 1048576) (-(-M / 1048576)) = ⟨r / 1048576, -(-M / 1048576), false⟩ := right_fin ⟨rfl, by show -2147483647 ≤ r / 1048576; omega, by show r / 1048576 ≤ -(-M / 1048576); omega, hM⟩
      have h2 : made (0 / 1048576) (-(-M / 1048576)) = ⟨0, -(-M / 1048576), false⟩ := right_fin ⟨rfl, by show -2147483647 ≤ (0 : Int) / 1048576; omega, by show (0 : Int) / 1048576 ≤ -(-M / 1048576); omega, hM⟩
      rw [h1, h2, if_pos ⟨fx, rfl, h.1, h.2⟩]
    · have h1 : made (r / 1048576) (-(-M / 1048576)) = ⟨0, 0, true⟩ := right_not (fun f => hM f.2.2.2)
      have h2 : made (0 / 1048576) (-(-M / 1048576)) = ⟨0, 0, true⟩ := right_not (fun f => hM f.2.2.2)
      rw [h1, h2, if_neg (fun f => by have := f.2.1; cases this)]
  · rw [if_neg h, if_neg (fun f => h f.2.2)]
    have hb : (lo * lo ≤ lo * hi ∧ lo * hi ≤ hi * hi) ∨ (hi * hi ≤ lo * hi ∧ lo * hi ≤ lo * lo) := by
      by_cases hl : 0 < lo
      · left
        exact ⟨Int.mul_le_mul_of_nonneg_left q2 (by omega), Int.mul_le_mul_of_nonneg_right q2 (by omega)⟩
      · right
        have hh : hi < 0 := by omega
        exact ⟨Int.mul_le_mul_of_nonpos_right q2 (by omega), Int.mul_le_mul_of_nonpos_left (by omega) q2⟩
    generalize lo * lo = p at *
    generalize hi * hi = q at *
    generalize lo * hi = r at *
    have e1 : lo4 p r r q = min p q := by unfold lo4; omega
    have e2 : hi4 p r r q = max p q := by unfold hi4; omega
    rw [e1, e2]

theorem sqr_not {x : Sp} (h : ¬ Fin x) : sqr x = ⟨0, 0, true⟩ := by
  unfold sqr
  rw [if_neg (fun f => h f.1)]
  exact mul_not fun f => h f.1

set_option maxHeartbeats 8000000 in
set_option maxRecDepth 100000 in
theorem sqr_ref (x : Sp) (w : World) : Calls Try.prog 58 #[x.v] w fun e w' => e = .returned (sqr x).v ∧ Below w.heap.size w w' := by
  have K := Lib.hid (Keep.begin2 w (Obj.ref x) (Obj.ref ⟨0, 0, false⟩))
  go_enter Try.func58, Try.ntmps58
  go_upto_region 1 with fail
  (refine out_keep K.out ?_; clear K; intro W K; replace K := Lib.hid K)
  (have f1 := (K.out.rf (.tail _ (.head _))).warm; have c10 := (K.out.rf (.tail _ (.head _))).cell0; have c11 := (K.out.rf (.tail _ (.head _))).cell1; have c12 := (K.out.rf (.tail _ (.head _))).cell2)
  go_wp2_with fail
  (refine ((right_ref x _)).mono ?_; rintro e w2 ⟨rfl, hb⟩; replace K := Lib.hid (Keep.stays _ _ K.out hb); clear hb)
  ((try clear f1); (try clear c10 c11 c12))
  (go_upto_region 2 with fail; replace K := Lib.hid (K.out.alloc (Obj.ref (right x))); generalize w2.heap.size = gg at *; refine out_keep K.out ?_; clear K; intro W K; replace K := Lib.hid K; clear w2)
  rcases right_two x with ⟨lo, hi, hr, q1, q2, q3, hf, hxe⟩ | ⟨hr, hf⟩
  · have HJ := Lib.hid (sqr_doc q1 q2 q3)
    rw [← hxe] at HJ
    have HB := Lib.hid (And.intro (mul_bound q1 (show lo ≤ 2147483647 by omega) q1 (show lo ≤ 2147483647 by omega)) (And.intro (mul_bound (show -2147483647 ≤ hi by omega) q3 (show -2147483647 ≤ hi by omega) q3) (And.intro (sq_nonneg lo) (sq_nonneg hi))))
    rw [hr] at K
    clear hr hf hxe
    (have f1 := (K.out.rf (.head _)).warm; have c10 := (K.out.rf (.head _)).cell0; have c11 := (K.out.rf (.head _)).cell1; have c12 := (K.out.rf (.head _)).cell2)
    go_wp2_with fail
    ((try clear f1); (try clear c10 c11 c12))
    (refine region_float1 _ 8 ⟨7, 4, Obj.num false (.slice none 0 0)⟩ ([(0, 0), (0, 1), (0, 3), (0, 4), (2, 2), (2, 5), (2, 6)]) (by kernel_rfl) (by kernel_rfl) ⟨_, rfl, rfl, rfl, fun a w => rfl, fun md e he => by simp at he⟩ (fun _ _ d _ _ => by cases d <;> exact Iff.rfl) Keep.stays K.out.drew ?_; clear K; intro W K hbw; replace K := Lib.hid K; have K0 := K)
    clear hbw
    (have c10 := Keep.ar0 K (.head _); have c11 := Keep.ar1 K (.head _); have c12 := Keep.ar2 K (.head _))
    (refine Ph.read rfl (by rfl) ?_; apply Exists.intro; refine ⟨fun p => ?_, ?_⟩; (focus (go_simp; (try (with_reducible rfl)); done)); (try simp only [Act.put, List.setIfInBounds_toArray, List.set_cons_zero, List.set_cons_succ]))
    (refine Ph.read rfl (by rfl) ?_; apply Exists.intro; refine ⟨fun p => ?_, ?_⟩; (focus (go_simp; (try (with_reducible rfl)); done)); (try simp only [Act.put, List.setIfInBounds_toArray, List.set_cons_zero, List.set_cons_succ]))
    (refine Ph.read rfl (by rfl) ?_; apply Exists.intro; refine ⟨fun p => ?_, ?_⟩; (focus (go_simp; (try (with_reducible rfl)); done)); (try simp only [Act.put, List.setIfInBounds_toArray, List.set_cons_zero, List.set_cons_succ]))
    (refine Ph.read rfl (by rfl) ?_; apply Exists.intro; refine ⟨fun p => ?_, ?_⟩; (focus (go_simp; (try (with_reducible rfl)); done)); (try simp only [Act.put, List.setIfInBounds_toArray, List.set_cons_zero, List.set_cons_succ]))
    clear c10 c11 c12
    ((refine Ph.call (f := 84) (args := (#[.int .i64 lo])) rfl (by rfl) (by (intro w2; go_simp; try (with_reducible rfl))) ?_; intro w2 hb; replace K := Lib.hid (Keep.stays _ _ K.out hb)); (try replace HA := Lib.hid (HA.out.below hb)); clear hb; refine (int_any lo _ (by omega) (by omega)).mono ?_; rintro e u1 ⟨n1, s1, d1, rfl, hN1, hz1, hl1, hb⟩; obtain ⟨A1, k1, rfl, -⟩ := hN1.1.len; (refine ⟨_, rfl, hb, ?_⟩; replace K := Lib.hid (Keep.stays _ _ K.out hb); (try simp only [Act.put, List.setIfInBounds_toArray, List.set_cons_zero, List.set_cons_succ])); (try replace HA := Lib.hid (HA.out.below hb)); clear hb; (refine Ph.call (f := 84) (args := (#[.int .i64 lo])) rfl (by rfl) (by (intro w2; go_simp; try (with_reducible rfl))) ?_; intro w2 hb; replace K := Lib.hid (Keep.stays _ _ K.out hb)); (try replace HA := Lib.hid (HA.out.below hb)); replace hN1 := hN1.below hb; clear hb; refine (int_any lo _ (by omega) (by omega)).mono ?_; rintro e u2 ⟨n2, s2, d2, rfl, hN2, hz2, hl2, hb⟩; obtain ⟨A2, k2, rfl, -⟩ := hN2.1.len; (refine ⟨_, rfl, hb, ?_⟩; replace K := Lib.hid (Keep.stays _ _ K.out hb); (try simp only [Act.put, List.setIfInBounds_toArray, List.set_cons_zero, List.set_cons_succ])); (try replace HA := Lib.hid (HA.out.below hb)); replace hN1 := hN1.below hb; clear hb; (refine Ph.call (f := 88) (args := (#[.agg #[.bool n1, .slice A1 d1.length k1], .agg #[.bool n2, .slice A2 d2.length k2]])) rfl (by rfl) (by (intro w2; go_simp; try (with_reducible rfl))) ?_; intro w2 hb; replace K := Lib.hid (Keep.stays _ _ K.out hb)); (try replace HA := Lib.hid (HA.out.below hb)); replace hN1 := hN1.below hb; replace hN2 := hN2.below hb; clear hb; refine (times_any n1 n2 _ _ d1 d2 _ hN1 hN2 (by omega) (by omega)).mono ?_; rintro e u3 ⟨n3, s3, d3, rfl, hN3, hz3, hl3, hb⟩; obtain ⟨A3, k3, rfl, -⟩ := hN3.1.len; (refine ⟨_, rfl, hb, ?_⟩; replace K := Lib.hid (Keep.stays _ _ K.out hb); (try simp only [Act.put, List.setIfInBounds_toArray, List.set_cons_zero, List.set_cons_succ])); (try replace HA := Lib.hid (HA.out.below hb)); rw [hz1, hz2] at hz3; clear hb hN1 hN2 hz1 hz2)
    have HA := Lib.hid hN3
    have ZA := Lib.hid hz3
    have mA : d3.length ≤ 40 := by omega
    generalize n3 = nA at *
    generalize A3 = AA at *
    generalize k3 = kA at *
    generalize d3 = dA at *
    clear hN3 hz3 hl3
    (intro w2 hb g4 hg hge; replace K := Lib.hid (K0.out.held (Keep.stays _ _ K.out hb) hg hge); clear hg hge K0; simp only [ptr, List.drop_succ_cons, List.drop_zero, Act.put, List.setIfInBounds_toArray, List.set_cons_zero, List.set_cons_succ])
    replace HA := Lib.hid (HA.out.below hb)
    clear hb
    obtain ⟨f1, c10, c11⟩ := K.out.nm (.head _)
    go_upto_region 5 with fail
    refine out_with (B := fun W => Num W nA (.slice AA dA.length kA) dA) (K.out.putn_0 nA (.slice AA dA.length kA)) (HA.out.put (K.out.nm (.head _)).2.1 _ _) ?_
    clear K HA f1 c10 c11
    intro W3 K HA
    replace K := Lib.hid K
    replace HA := Lib.hid HA
    (refine region_float1 _ 8 ⟨7, 5, Obj.num false (.slice none 0 0)⟩ ([(0, 0), (0, 1), (0, 3), (0, 4), (2, 2), (2, 5), (2, 6)]) (by kernel_rfl) (by kernel_rfl) ⟨_, rfl, rfl, rfl, fun a w => rfl, fun md e he => by simp at he⟩ (fun _ _ d _ _ => by cases d <;> exact Iff.rfl) Keep.stays K.out.drew ?_; clear K; intro W K hbw; replace K := Lib.hid K; have K0 := K)
    replace HA := Lib.hid (HA.out.below hbw)
    clear hbw
    (have c10 := Keep.ar0 K (.tail _ (.head _)); have c11 := Keep.ar1 K (.tail _ (.head _)); have c12 := Keep.ar2 K (.tail _ (.head _)))
    (refine Ph.read rfl (by rfl) ?_; apply Exists.intro; refine ⟨fun p => ?_, ?_⟩; (focus (go_simp; (try (with_reducible rfl)); done)); (try simp only [Act.put, List.setIfInBounds_toArray, List.set_cons_zero, List.set_cons_succ]))
    (refine Ph.read rfl (by rfl) ?_; apply Exists.intro; refine ⟨fun p => ?_, ?_⟩; (focus (go_simp; (try (with_reducible rfl)); done)); (try simp only [Act.put, List.setIfInBounds_toArray, List.set_cons_zero, List.set_cons_succ]))
    (refine Ph.read rfl (by rfl) ?_; apply Exists.intro; refine ⟨fun p => ?_, ?_⟩; (focus (go_simp; (try (with_reducible rfl)); done)); (try simp only [Act.put, List.setIfInBounds_toArray, List.set_cons_zero, List.set_cons_succ]))
    (refine Ph.read rfl (by rfl) ?_; apply Exists.intro; refine ⟨fun p => ?_, ?_⟩; (focus (go_simp; (try (with_reducible rfl)); done)); (try simp only [Act.put, List.setIfInBounds_toArray, List.set_cons_zero, List.set_cons_succ]))
    clear c10 c11 c12
    ((refine Ph.call (f := 84) (args := (#[.int .i64 hi])) rfl (by rfl) (by (intro w2; go_simp; try (with_reducible rfl))) ?_; intro w2 hb; replace K := Lib.hid (Keep.stays _ _ K.out hb)); (try replace HA := Lib.hid (HA.out.below hb)); clear hb; refine (int_any hi _ (by omega) (by omega)).mono ?_; rintro e u1 ⟨n1, s1, d1, rfl, hN1, hz1, hl1, hb⟩; obtain ⟨A1, k1, rfl, -⟩ := hN1.1.len; (refine ⟨_, rfl, hb, ?_⟩; replace K := Lib.hid (Keep.stays _ _ K.out hb); (try simp only [Act.put, List.setIfInBounds_toArray, List.set_cons_zero, List.set_cons_succ])); (try replace HA := Lib.hid (HA.out.below hb)); clear hb; (refine Ph.call (f := 84) (args := (#[.int .i64 hi])) rfl (by rfl) (by (intro w2; go_simp; try (with_reducible rfl))) ?_; intro w2 hb; replace K := Lib.hid (Keep.stays _ _ K.out hb)); (try replace HA := Lib.hid (HA.out.below hb)); replace hN1 := hN1.below hb; clear hb; refine (int_any hi _ (by omega) (by omega)).mono ?_; rintro e u2 ⟨n2, s2, d2, rfl, hN2, hz2, hl2, hb⟩; obtain ⟨A2, k2, rfl, -⟩ := hN2.1.len; (refine ⟨_, rfl, hb, ?_⟩; replace K := Lib.hid (Keep.stays _ _ K.out hb); (try simp only [Act.put, List.setIfInBounds_toArray, List.set_cons_zero, List.set_cons_succ])); (try replace HA := Lib.hid (HA.out.below hb)); replace hN1 := hN1.below hb; clear hb; (refine Ph.call (f := 88) (args := (#[.agg #[.bool n1, .slice A1 d1.length k1], .agg #[.bool n2, .slice A2 d2.length k2]])) rfl (by rfl) (by (intro w2; go_simp; try (with_reducible rfl))) ?_; intro w2 hb; replace K := Lib.hid (Keep.stays _ _ K.out hb)); (try replace HA := Lib.hid (HA.out.below hb)); replace hN1 := hN1.below hb; replace hN2 := hN2.below hb; clear hb; refine (times_any n1 n2 _ _ d1 d2 _ hN1 hN2 (by omega) (by omega)).mono ?_; rintro e u3 ⟨n3, s3, d3, rfl, hN3, hz3, hl3, hb⟩; obtain ⟨A3, k3, rfl, -⟩ := hN3.1.len; (refine ⟨_, rfl, hb, ?_⟩; replace K := Lib.hid (Keep.stays _ _ K.out hb); (try simp only [Act.put, List.setIfInBounds_toArray, List.set_cons_zero, List.set_cons_succ])); (try replace HA := Lib.hid (HA.out.below hb)); rw [hz1, hz2] at hz3; clear hb hN1 hN2 hz1 hz2)
    have HH := Lib.hid hN3
    have ZH := Lib.hid hz3
    have mH : d3.length ≤ 40 := by omega
    generalize n3 = nH at *
    generalize A3 = AH at *
    generalize k3 = kH at *
    generalize d3 = dH at *
    clear hN3 hz3 hl3
    (intro w2 hb g5 hg hge; replace K := Lib.hid (K0.out.held (Keep.stays _ _ K.out hb) hg hge); clear hg hge K0; simp only [ptr, List.drop_succ_cons, List.drop_zero, Act.put, List.setIfInBounds_toArray, List.set_cons_zero, List.set_cons_succ])
    replace HA := Lib.hid (HA.out.below hb)
    replace HH := Lib.hid (HH.out.below hb)
    clear hb
    obtain ⟨f1, c10, c11⟩ := K.out.nm (.head _)
    go_upto_region 6 with fail
    refine out_with (B := fun W => Num W nA (.slice AA dA.length kA) dA ∧ Num W nH (.slice AH dH.length kH) dH) (K.out.putn_0 nH (.slice AH dH.length kH)) ⟨HA.out.put (K.out.nm (.head _)).2.1 _ _, HH.out.put (K.out.nm (.head _)).2.1 _ _⟩ ?_
    clear K HA HH f1 c10 c11
    intro W4 K HA
    replace K := Lib.hid K
    replace HA := Lib.hid HA
    obtain ⟨f1, c10, c11⟩ := K.out.nm (.head _)
    obtain ⟨f2, c20, c21⟩ := K.out.nm (.tail _ (.head _))
    go_wp2_with fail
    refine (cmp_any nA nH _ _ dA dH _ HA.out.1 HA.out.2 (by omega) (by omega)).mono ?_
    rintro e w5 ⟨rfl, hb⟩
    replace K := Lib.hid (Keep.stays _ _ K.out hb)
    replace HA := Lib.hid (And.intro (HA.out.1.below hb) (HA.out.2.below hb))
    clear hb f1 c10 c11 f2 c20 c21
    have HC := Lib.hid (sgn_pos (zof nA dA) (zof nH dH))
    obtain ⟨hc1, hc2⟩ := sgn_in (zof nA dA - zof nH dH)
    generalize sgn (zof nA dA - zof nH dH) = cm at *
    have hne : g4 ≠ g5 := by have := K.out.one; simp at this; omega
    have hne2 := Ne.symm hne
    obtain ⟨f1, c10, c11⟩ := K.out.nm (.head _)
    obtain ⟨f2, c20, c21⟩ := K.out.nm (.tail _ (.head _))
    by_cases c : 0 < cm
    · have HX := Lib.hid (HC.out.1 c)
      go_upto_region 9 with fail
      refine out_with (B := fun W => Num W nA (.slice AA dA.length kA) dA ∧ Num W nH (.slice AH dH.length kH) dH) ((K.out.putn_1 nH (.slice AH dH.length kH)).putn_0 nA (.slice AA dA.length kA)) ⟨(HA.out.1.put (K.out.nm (.tail _ (.head _))).2.1 _ _).put ((K.out.putn_1 nH (.slice AH dH.length kH)).nm (.head _)).2.1 _ _, (HA.out.2.put (K.out.nm (.tail _ (.head _))).2.1 _ _).put ((K.out.putn_1 nH (.slice AH dH.length kH)).nm (.head _)).2.1 _ _⟩ ?_
      clear K HA f1 c10 c11 f2 c20 c21 hne hne2 c hc1 hc2 HC
      intro W6 K HA
      replace K := Lib.hid K
      replace HA := Lib.hid HA
      have ZL : Hid (zof nH dH = min (lo * lo) (hi * hi)) := (min_lt HX.out).trans (congr (congrArg min ZA.out) ZH.out)
      have ZM : Hid (zof nA dA = max (lo * lo) (hi * hi)) := (max_ge (by have := HX.out; omega : ¬ zof nA dA < zof nH dH)).trans (congr (congrArg max ZA.out) ZH.out)
      (obtain ⟨⟨b1, b2⟩, ⟨b3, b4⟩, b5, b6⟩ := HB.out; by_cases hs : lo ≤ 0 ∧ 0 ≤ hi; (focus (have HJ2 := Lib.hid (HJ.out.trans (if_pos hs)); obtain ⟨s1, s2⟩ := hs; (have f1 := (K.out.rf (.tail _ (.tail _ (.head _)))).warm; have c10 := (K.out.rf (.tail _ (.tail _ (.head _)))).cell0; have c11 := (K.out.rf (.tail _ (.tail _ (.head _)))).cell1; have c12 := (K.out.rf (.tail _ (.tail _ (.head _)))).cell2); go_wp2_with fail; refine (int_any 0 _ (by omega) (by omega)).mono ?_; rintro e w7 ⟨n6, s6, d6, rfl, hN6, hz6, hl6, hb⟩; obtain ⟨A6, k6, rfl, -⟩ := hN6.1.len; replace K := Lib.hid (Keep.stays _ _ K.out hb); replace HA := Lib.hid (And.intro (HA.out.1.below hb) (HA.out.2.below hb)); have HN6 := Lib.hid hN6; have Z6 := Lib.hid hz6; clear hb hN6 hz6; ((try clear f1); (try clear c10 c11 c12)); obtain ⟨f1, c10, c11⟩ := K.out.nm (.tail _ (.head _)); go_upto_region 11 with fail; refine out_with (B := fun W => Num W n6 (.slice A6 d6.length k6) d6 ∧ Num W nA (.slice AA dA.length kA) dA) (K.out.putn_1 n6 (.slice A6 d6.length k6)) ⟨HN6.out.put (K.out.nm (.tail _ (.head _))).2.1 _ _, ((HA.out.1)).put (K.out.nm (.tail _ (.head _))).2.1 _ _⟩ ?_; clear K HA HN6 f1 c10 c11; intro W8 K HA; replace K := Lib.hid K; replace HA := Lib.hid HA; (obtain ⟨f1, c10, c11⟩ := K.out.nm (.tail _ (.head _)); obtain ⟨f2, c20, c21⟩ := K.out.nm (.head _); go_wp2_with fail; refine (tight_any n6 nA _ _ d6 dA 1048576 _ (HA.out.1) (HA.out.2) (by omega) (by omega) (by omega) (by omega) (by rw [(Z6.out), (ZM.out)]; omega) (by rw [(Z6.out)]; omega) (by rw [(ZM.out)]; omega)).mono ?_; rintro e w9 ⟨rfl, hb⟩; rw [(Z6.out), (ZM.out), ← HJ2.out]; replace K := Lib.hid (Keep.stays _ _ K.out hb); clear hb f1 c10 c11 f2 c20 c21; (try ((try clear f1); (try clear c10 c11 c12))); (have f3 := (K.out.rf (.tail _ (.tail _ (.tail _ (.head _))))).warm; have c30 := (K.out.rf (.tail _ (.tail _ (.tail _ (.head _))))).cell0; have c31 := (K.out.rf (.tail _ (.tail _ (.tail _ (.head _))))).cell1; have c32 := (K.out.rf (.tail _ (.tail _ (.tail _ (.head _))))).cell2); go_wp2_with fail; exact ret_rf Try.results58 rfl ((K.out.putr_3 (sqr x)).rf (.tail _ (.tail _ (.tail _ (.head _))))) ⟨rfl, (K.out.putr_3 (sqr x)).B⟩))); (have HJ2 := Lib.hid (HJ.out.trans (if_neg hs)); rcases (show ¬ lo ≤ 0 ∨ (lo ≤ 0 ∧ ¬ 0 ≤ hi) by omega) with s1 | ⟨s1, s2⟩; (focus (clear hs; (have f1 := (K.out.rf (.tail _ (.tail _ (.head _)))).warm; have c10 := (K.out.rf (.tail _ (.tail _ (.head _)))).cell0; have c11 := (K.out.rf (.tail _ (.tail _ (.head _)))).cell1; have c12 := (K.out.rf (.tail _ (.tail _ (.head _)))).cell2); (obtain ⟨f1, c10, c11⟩ := K.out.nm (.tail _ (.head _)); obtain ⟨f2, c20, c21⟩ := K.out.nm (.head _); go_wp2_with fail; refine (tight_any nH nA _ _ dH dA 1048576 _ (HA.out.2) (HA.out.1) (by omega) (by omega) (by omega) (by omega) (by rw [(ZL.out), (ZM.out)]; omega) (by rw [(ZL.out)]; omega) (by rw [(ZM.out)]; omega)).mono ?_; rintro e w9 ⟨rfl, hb⟩; rw [(ZL.out), (ZM.out), ← HJ2.out]; replace K := Lib.hid (Keep.stays _ _ K.out hb); clear hb f1 c10 c11 f2 c20 c21; (try ((try clear f1); (try clear c10 c11 c12))); (have f3 := (K.out.rf (.tail _ (.tail _ (.tail _ (.head _))))).warm; have c30 := (K.out.rf (.tail _ (.tail _ (.tail _ (.head _))))).cell0; have c31 := (K.out.rf (.tail _ (.tail _ (.tail _ (.head _))))).cell1; have c32 := (K.out.rf (.tail _ (.tail _ (.tail _ (.head _))))).cell2); go_wp2_with fail; exact ret_rf Try.results58 rfl ((K.out.putr_3 (sqr x)).rf (.tail _ (.tail _ (.tail _ (.head _))))) ⟨rfl, (K.out.putr_3 (sqr x)).B⟩))); (clear hs; (have f1 := (K.out.rf (.tail _ (.tail _ (.head _)))).warm; have c10 := (K.out.rf (.tail _ (.tail _ (.head _)))).cell0; have c11 := (K.out.rf (.tail _ (.tail _ (.head _)))).cell1; have c12 := (K.out.rf (.tail _ (.tail _ (.head _)))).cell2); (obtain ⟨f1, c10, c11⟩ := K.out.nm (.tail _ (.head _)); obtain ⟨f2, c20, c21⟩ := K.out.nm (.head _); go_wp2_with fail; refine (tight_any nH nA _ _ dH dA 1048576 _ (HA.out.2) (HA.out.1) (by omega) (by omega) (by omega) (by omega) (by rw [(ZL.out), (ZM.out)]; omega) (by rw [(ZL.out)]; omega) (by rw [(ZM.out)]; omega)).mono ?_; rintro e w9 ⟨rfl, hb⟩; rw [(ZL.out), (ZM.out), ← HJ2.out]; replace K := Lib.hid (Keep.stays _ _ K.out hb); clear hb f1 c10 c11 f2 c20 c21; (try ((try clear f1); (try clear c10 c11 c12))); (have f3 := (K.out.rf (.tail _ (.tail _ (.tail _ (.head _))))).warm; have c30 := (K.out.rf (.tail _ (.tail _ (.tail _ (.head _))))).cell0; have c31 := (K.out.rf (.tail _ (.tail _ (.tail _ (.head _))))).cell1; have c32 := (K.out.rf (.tail _ (.tail _ (.tail _ (.head _))))).cell2); go_wp2_with fail; exact ret_rf Try.results58 rfl ((K.out.putr_3 (sqr x)).rf (.tail _ (.tail _ (.tail _ (.head _))))) ⟨rfl, (K.out.putr_3 (sqr x)).B⟩))))
    · have HX := Lib.hid (fun h => c (HC.out.2 h) : ¬ zof nH dH < zof nA dA)
      go_upto_region 9 with fail
      clear f1 c10 c11 f2 c20 c21 hne hne2
      have ZL : Hid (zof nA dA = min (lo * lo) (hi * hi)) := (min_ge HX.out).trans (congr (congrArg min ZA.out) ZH.out)
      have ZM : Hid (zof nH dH = max (lo * lo) (hi * hi)) := (max_le' (Int.not_lt.1 HX.out)).trans (congr (congrArg max ZA.out) ZH.out)
      (obtain ⟨⟨b1, b2⟩, ⟨b3, b4⟩, b5, b6⟩ := HB.out; by_cases hs : lo ≤ 0 ∧ 0 ≤ hi; (focus (have HJ2 := Lib.hid (HJ.out.trans (if_pos hs)); obtain ⟨s1, s2⟩ := hs; (have f1 := (K.out.rf (.tail _ (.tail _ (.head _)))).warm; have c10 := (K.out.rf (.tail _ (.tail _ (.head _)))).cell0; have c11 := (K.out.rf (.tail _ (.tail _ (.head _)))).cell1; have c12 := (K.out.rf (.tail _ (.tail _ (.head _)))).cell2); go_wp2_with fail; refine (int_any 0 _ (by omega) (by omega)).mono ?_; rintro e w7 ⟨n6, s6, d6, rfl, hN6, hz6, hl6, hb⟩; obtain ⟨A6, k6, rfl, -⟩ := hN6.1.len; replace K := Lib.hid (Keep.stays _ _ K.out hb); replace HA := Lib.hid (And.intro (HA.out.1.below hb) (HA.out.2.below hb)); have HN6 := Lib.hid hN6; have Z6 := Lib.hid hz6; clear hb hN6 hz6; ((try clear f1); (try clear c10 c11 c12)); obtain ⟨f1, c10, c11⟩ := K.out.nm (.tail _ (.head _)); go_upto_region 11 with fail; refine out_with (B := fun W => Num W n6 (.slice A6 d6.length k6) d6 ∧ Num W nH (.slice AH dH.length kH) dH) (K.out.putn_1 n6 (.slice A6 d6.length k6)) ⟨HN6.out.put (K.out.nm (.tail _ (.head _))).2.1 _ _, ((HA.out.2)).put (K.out.nm (.tail _ (.head _))).2.1 _ _⟩ ?_; clear K HA HN6 f1 c10 c11; intro W8 K HA; replace K := Lib.hid K; replace HA := Lib.hid HA; (obtain ⟨f1, c10, c11⟩ := K.out.nm (.tail _ (.head _)); obtain ⟨f2, c20, c21⟩ := K.out.nm (.head _); go_wp2_with fail; refine (tight_any n6 nH _ _ d6 dH 1048576 _ (HA.out.1) (HA.out.2) (by omega) (by omega) (by omega) (by omega) (by rw [(Z6.out), (ZM.out)]; omega) (by rw [(Z6.out)]; omega) (by rw [(ZM.out)]; omega)).mono ?_; rintro e w9 ⟨rfl, hb⟩; rw [(Z6.out), (ZM.out), ← HJ2.out]; replace K := Lib.hid (Keep.stays _ _ K.out hb); clear hb f1 c10 c11 f2 c20 c21; (try ((try clear f1); (try clear c10 c11 c12))); (have f3 := (K.out.rf (.tail _ (.tail _ (.tail _ (.head _))))).warm; have c30 := (K.out.rf (.tail _ (.tail _ (.tail _ (.head _))))).cell0; have c31 := (K.out.rf (.tail _ (.tail _ (.tail _ (.head _))))).cell1; have c32 := (K.out.rf (.tail _ (.tail _ (.tail _ (.head _))))).cell2); go_wp2_with fail; exact ret_rf Try.results58 rfl ((K.out.putr_3 (sqr x)).rf (.tail _ (.tail _ (.tail _ (.head _))))) ⟨rfl, (K.out.putr_3 (sqr x)).B⟩))); (have HJ2 := Lib.hid (HJ.out.trans (if_neg hs)); rcases (show ¬ lo ≤ 0 ∨ (lo ≤ 0 ∧ ¬ 0 ≤ hi) by omega) with s1 | ⟨s1, s2⟩; (focus (clear hs; (have f1 := (K.out.rf (.tail _ (.tail _ (.head _)))).warm; have c10 := (K.out.rf (.tail _ (.tail _ (.head _)))).cell0; have c11 := (K.out.rf (.tail _ (.tail _ (.head _)))).cell1; have c12 := (K.out.rf (.tail _ (.tail _ (.head _)))).cell2); (obtain ⟨f1, c10, c11⟩ := K.out.nm (.tail _ (.head _)); obtain ⟨f2, c20, c21⟩ := K.out.nm (.head _); go_wp2_with fail; refine (tight_any nA nH _ _ dA dH 1048576 _ (HA.out.1) (HA.out.2) (by omega) (by omega) (by omega) (by omega) (by rw [(ZL.out), (ZM.out)]; omega) (by rw [(ZL.out)]; omega) (by rw [(ZM.out)]; omega)).mono ?_; rintro e w9 ⟨rfl, hb⟩; rw [(ZL.out), (ZM.out), ← HJ2.out]; replace K := Lib.hid (Keep.stays _ _ K.out hb); clear hb f1 c10 c11 f2 c20 c21; (try ((try clear f1); (try clear c10 c11 c12))); (have f3 := (K.out.rf (.tail _ (.tail _ (.tail _ (.head _))))).warm; have c30 := (K.out.rf (.tail _ (.tail _ (.tail _ (.head _))))).cell0; have c31 := (K.out.rf (.tail _ (.tail _ (.tail _ (.head _))))).cell1; have c32 := (K.out.rf (.tail _ (.tail _ (.tail _ (.head _))))).cell2); go_wp2_with fail; exact ret_rf Try.results58 rfl ((K.out.putr_3 (sqr x)).rf (.tail _ (.tail _ (.tail _ (.head _))))) ⟨rfl, (K.out.putr_3 (sqr x)).B⟩))); (clear hs; (have f1 := (K.out.rf (.tail _ (.tail _ (.head _)))).warm; have c10 := (K.out.rf (.tail _ (.tail _ (.head _)))).cell0; have c11 := (K.out.rf (.tail _ (.tail _ (.head _)))).cell1; have c12 := (K.out.rf (.tail _ (.tail _ (.head _)))).cell2); (obtain ⟨f1, c10, c11⟩ := K.out.nm (.tail _ (.head _)); obtain ⟨f2, c20, c21⟩ := K.out.nm (.head _); go_wp2_with fail; refine (tight_any nA nH _ _ dA dH 1048576 _ (HA.out.1) (HA.out.2) (by omega) (by omega) (by omega) (by omega) (by rw [(ZL.out), (ZM.out)]; omega) (by rw [(ZL.out)]; omega) (by rw [(ZM.out)]; omega)).mono ?_; rintro e w9 ⟨rfl, hb⟩; rw [(ZL.out), (ZM.out), ← HJ2.out]; replace K := Lib.hid (Keep.stays _ _ K.out hb); clear hb f1 c10 c11 f2 c20 c21; (try ((try clear f1); (try clear c10 c11 c12))); (have f3 := (K.out.rf (.tail _ (.tail _ (.tail _ (.head _))))).warm; have c30 := (K.out.rf (.tail _ (.tail _ (.tail _ (.head _))))).cell0; have c31 := (K.out.rf (.tail _ (.tail _ (.tail _ (.head _))))).cell1; have c32 := (K.out.rf (.tail _ (.tail _ (.tail _ (.head _))))).cell2); go_wp2_with fail; exact ret_rf Try.results58 rfl ((K.out.putr_3 (sqr x)).rf (.tail _ (.tail _ (.tail _ (.head _))))) ⟨rfl, (K.out.putr_3 (sqr x)).B⟩))))
  · have HJ : Hid (sqr x = ⟨0, 0, true⟩) := sqr_not hf
    rw [hr] at K
    clear hr hf
    (have f1 := (K.out.rf (.head _)).warm; have c10 := (K.out.rf (.head _)).cell0; have c11 := (K.out.rf (.head _)).cell1; have c12 := (K.out.rf (.head _)).cell2)
    (have f3 := (K.out.rf (.tail _ (.head _))).warm; have c30 := (K.out.rf (.tail _ (.head _))).cell0; have c31 := (K.out.rf (.tail _ (.head _))).cell1; have c32 := (K.out.rf (.tail _ (.head _))).cell2)
    go_wp2_with fail
    exact ret_rf Try.results58 rfl ((K.out.putr_1 ⟨0, 0, true⟩).rf (.tail _ (.head _))) ⟨by rw [HJ.out], (K.out.putr_1 ⟨0, 0, true⟩).B⟩
end Go.Proofs.Ytehjfjdopeadfaa
