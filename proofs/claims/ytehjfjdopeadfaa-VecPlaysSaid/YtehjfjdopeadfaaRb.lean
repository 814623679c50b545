/- The walk of the document's quotient. -/
import Derived.Test.YtehjfjdopeadfaaRa
set_option linter.unusedVariables false
set_option linter.unusedSimpArgs false
namespace Go.Proofs.Ytehjfjdopeadfaa
open Go.RowKit

theorem fl_some {x y : Int} (hy : y ≠ 0) (h1 : -9000000000000000000 ≤ x) (h2 : x ≤ 9000000000000000000) : -9000000000000000000 ≤ SpMath.fl x y ∧ SpMath.fl x y ≤ 9000000000000000000 := by
  by_cases h : 0 < y
  · exact fl_in h h1 h2
  · have e : SpMath.fl x y = SpMath.fl (-x) (-y) := by unfold SpMath.fl; rw [if_neg h, if_pos (by omega)]
    rw [e]
    exact fl_in (by omega) (by omega) (by omega)

set_option maxHeartbeats 8000000 in
set_option maxRecDepth 100000 in
theorem quot_any (a b : Int) (up : Bool) (w : World) (b0 : b ≠ 0) (a1 : -2147483648 ≤ a) (a2 : a ≤ 2147483648) (b1 : -2147483648 ≤ b) (b2 : b ≤ 2147483648) :
    Calls Try.prog 86 #[.int .i64 a, .int .i64 b, .bool up] w fun e w' => e = .returned (.int .i64 (if up then -SpMath.fl (-a * 1048576) b else SpMath.fl (a * 1048576) b)) ∧ Below w.heap.size w w' := by
  have K := Lib.hid (Keep.start w)
  cases up
  case false =>
    have HL := Lib.hid (fl_some (x := a * 1048576) b0 (by omega) (by omega))
    go_enter Try.func86, Try.ntmps86
    go_wp2_with fail
    refine (int_any a _ (by omega) (by omega)).mono ?_
    rintro e w3 ⟨n1, s1, d1, rfl, hN1, hz1, hl1, hb⟩
    obtain ⟨A1, k1, rfl, -⟩ := hN1.1.len
    replace K := Lib.hid (Keep.stays _ _ K.out hb)
    clear hb
    go_wp2_with fail
    refine (int_any 1048576 _ (by omega) (by omega)).mono ?_
    rintro e w4 ⟨n2, s2, d2, rfl, hN2, hz2, hl2, hb⟩
    obtain ⟨A2, k2, rfl, -⟩ := hN2.1.len
    replace K := Lib.hid (Keep.stays _ _ K.out hb)
    replace hN1 := hN1.below hb
    clear hb
    go_wp2_with fail
    refine (times_any n1 n2 _ _ d1 d2 _ hN1 hN2 (by omega) (by omega)).mono ?_
    rintro e w5 ⟨n3, s3, d3, rfl, hN3, hz3, hl3, hb⟩
    obtain ⟨A3, k3, rfl, -⟩ := hN3.1.len
    replace K := Lib.hid (Keep.stays _ _ K.out hb)
    rw [hz1, hz2] at hz3
    have HN := Lib.hid hN3
    have Z3 := Lib.hid hz3
    clear hb hN1 hN2 hN3 hz1 hz2 hz3
    go_upto_region 2 with fail
    (replace K := Lib.hid (K.out.alloc (Obj.num n3 (.slice A3 d3.length k3))); replace HN := Lib.hid (HN.out.below (below_one _ (Obj.num n3 (.slice A3 d3.length k3)))))
    generalize w5.heap.size = g7 at *
    (refine out_with (B := fun W => Num W n3 (.slice A3 d3.length k3) d3) K.out HN.out ?_; clear K HN; intro W5 K HN; replace K := Lib.hid K; replace HN := Lib.hid HN)
    go_wp2_with fail
    (refine region_float2 _ 10 ⟨8, 13, Obj.num false (.slice none 0 0)⟩ ⟨9, 14, Obj.num false (.slice none 0 0)⟩ ([(0, 0), (1, 1), (2, 2), (2, 3), (1, 4), (1, 5), (1, 6), (1, 7)]) (by kernel_rfl) (by kernel_rfl) ⟨_, rfl, rfl, rfl, fun a w => rfl, fun md e he => by simp at he⟩ ⟨_, rfl, rfl, rfl, fun a w => rfl, fun md e he => by simp at he⟩ (by decide) (fun _ _ d _ _ => by cases d <;> exact Iff.rfl) Keep.stays K.out.drew ?_; clear K; intro W K hbw; replace K := Lib.hid K; have K0 := K)
    replace HN := Lib.hid (HN.out.below hbw)
    clear hbw
    obtain ⟨e10, e11⟩ := Keep.anm K (.head _)
    (refine Ph.read rfl (by rfl) ?_; apply Exists.intro; refine ⟨fun p => ?_, ?_⟩; (focus (go_simp; (try (with_reducible rfl)); done)); (try simp only [Act.put, List.setIfInBounds_toArray, List.set_cons_zero, List.set_cons_succ]))
    (refine Ph.pure rfl (by rfl) ?_; apply Exists.intro; refine ⟨fun w => ?_, ?_⟩; (focus (go_simp; (try (with_reducible rfl)); done)); (try simp only [Act.put, List.setIfInBounds_toArray, List.set_cons_zero, List.set_cons_succ]))
    clear e10 e11
    (refine Ph.call (f := 84) (args := (#[.int .i64 b])) rfl (by rfl) (by (intro w2; go_simp; try (with_reducible rfl))) ?_; intro w2 hb; replace K := Lib.hid (Keep.stays _ _ K.out hb))
    replace HN := Lib.hid (HN.out.below hb)
    clear hb
    refine (int_any b _ (by omega) (by omega)).mono ?_
    rintro e w3 ⟨n4, s4, d4, rfl, hN4, hz4, hl4, hb⟩
    obtain ⟨A4, k4, rfl, -⟩ := hN4.1.len
    (refine ⟨_, rfl, hb, ?_⟩; replace K := Lib.hid (Keep.stays _ _ K.out hb); (try simp only [Act.put, List.setIfInBounds_toArray, List.set_cons_zero, List.set_cons_succ]))
    replace HN := Lib.hid (HN.out.below hb)
    clear hb
    (refine Ph.call (f := 93) (args := (#[.agg #[.bool n3, .slice A3 d3.length k3], .agg #[.bool n4, .slice A4 d4.length k4]])) rfl (by rfl) (by (intro w2; go_simp; try (with_reducible rfl))) ?_; intro w2 hb; replace K := Lib.hid (Keep.stays _ _ K.out hb))
    refine (quo_any n3 n4 _ _ d3 d4 _ (HN.out.below hb) (hN4.below hb) (zof_ne (n := n4) (by omega)) (by omega) (by omega)).mono ?_
    clear hb
    rintro e w4 ⟨n5, s5, d5, rn, rA, rl, rk, rfl, hN5, hz5, hl5, hb⟩
    obtain ⟨A5, k5, rfl, -⟩ := hN5.1.len
    (refine ⟨_, rfl, hb, ?_⟩; replace K := Lib.hid (Keep.stays _ _ K.out hb); (try simp only [Act.put, List.setIfInBounds_toArray, List.set_cons_zero, List.set_cons_succ]))
    rw [hz4, Z3.out] at hz5
    clear hb hz4 hl4 hN4
    (refine Ph.pure rfl (by rfl) ?_; apply Exists.intro; refine ⟨fun w => ?_, ?_⟩; (focus (go_simp; (try (with_reducible rfl)); done)); (try simp only [Act.put, List.setIfInBounds_toArray, List.set_cons_zero, List.set_cons_succ]))
    (refine Ph.pure rfl (by rfl) ?_; apply Exists.intro; refine ⟨fun w => ?_, ?_⟩; (focus (go_simp; (try (with_reducible rfl)); done)); (try simp only [Act.put, List.setIfInBounds_toArray, List.set_cons_zero, List.set_cons_succ]))
    (refine Ph.pure rfl (by rfl) ?_; apply Exists.intro; refine ⟨fun w => ?_, ?_⟩; (focus (go_simp; (try (with_reducible rfl)); done)); (try simp only [Act.put, List.setIfInBounds_toArray, List.set_cons_zero, List.set_cons_succ]))
    (refine Ph.pure rfl (by rfl) ?_; apply Exists.intro; refine ⟨fun w => ?_, ?_⟩; (focus (go_simp; (try (with_reducible rfl)); done)); (try simp only [Act.put, List.setIfInBounds_toArray, List.set_cons_zero, List.set_cons_succ]))
    replace HN := Lib.hid hN5
    have Z5 := Lib.hid hz5
    clear hN5 hz5
    (intro w2 hb g13 g14 hg hk hge hke hgk; replace K := Lib.hid (K0.out.held2 (Keep.stays _ _ K.out hb) hg hk hge hke hgk); clear hg hk hge hke K0; have hkg := Ne.symm hgk; simp only [ptr, List.drop_succ_cons, List.drop_zero, Act.put, List.setIfInBounds_toArray, List.set_cons_zero, List.set_cons_succ])
    replace HN := Lib.hid (HN.out.below hb)
    clear hb
    obtain ⟨f7, c70, c71⟩ := K.out.nm (.tail _ (.head _))
    obtain ⟨f8, c80, c81⟩ := K.out.nm (.head _)
    go_upto_region 7 with fail
    refine out_with (B := fun W => Num W n5 (.slice A5 d5.length k5) d5) ((K.out.putn_1 n5 (.slice A5 d5.length k5)).putn_0 rn (.slice rA rl rk)) ((HN.out.put (K.out.nm (.tail _ (.head _))).2.1 _ _).put ((K.out.putn_1 _ _).nm (.head _)).2.1 _ _) ?_
    clear K HN f7 c70 c71 f8 c80 c81 hgk hkg
    intro W3 K hh
    replace K := Lib.hid K
    have HN := Lib.hid hh
    clear hh
    obtain ⟨f1, c10, c11⟩ := K.out.nm (.tail _ (.head _))
    go_wp2_with fail
    refine (small_any n5 _ d5 _ HN.out (by omega) (by rw [Z5.out]; have := HL.out; omega) (by rw [Z5.out]; have := HL.out; omega)).mono ?_
    rintro e w13 ⟨rfl, hb⟩
    replace K := Lib.hid (Keep.stays _ _ K.out hb)
    clear hb f1 c10 c11
    rw [Z5.out]
    go_wp2_with fail
    go_ret
    exact ⟨rfl, K.out.B⟩
  case true =>
    have HL := Lib.hid (fl_some (x := -a * 1048576) b0 (by omega) (by omega))
    go_enter Try.func86, Try.ntmps86
    go_wp2_with fail
    refine (int_any a _ (by omega) (by omega)).mono ?_
    rintro e w3 ⟨n1, s1, d1, rfl, hN1, hz1, hl1, hb⟩
    obtain ⟨A1, k1, rfl, -⟩ := hN1.1.len
    replace K := Lib.hid (Keep.stays _ _ K.out hb)
    clear hb
    go_wp2_with fail
    refine (int_any 1048576 _ (by omega) (by omega)).mono ?_
    rintro e w4 ⟨n2, s2, d2, rfl, hN2, hz2, hl2, hb⟩
    obtain ⟨A2, k2, rfl, -⟩ := hN2.1.len
    replace K := Lib.hid (Keep.stays _ _ K.out hb)
    replace hN1 := hN1.below hb
    clear hb
    go_wp2_with fail
    refine (times_any n1 n2 _ _ d1 d2 _ hN1 hN2 (by omega) (by omega)).mono ?_
    rintro e w5 ⟨n3, s3, d3, rfl, hN3, hz3, hl3, hb⟩
    obtain ⟨A3, k3, rfl, -⟩ := hN3.1.len
    replace K := Lib.hid (Keep.stays _ _ K.out hb)
    rw [hz1, hz2] at hz3
    have HN := Lib.hid hN3
    have Z3 := Lib.hid hz3
    clear hb hN1 hN2 hN3 hz1 hz2 hz3
    go_upto_region 2 with fail
    (replace K := Lib.hid (K.out.alloc (Obj.num n3 (.slice A3 d3.length k3))); replace HN := Lib.hid (HN.out.below (below_one _ (Obj.num n3 (.slice A3 d3.length k3)))))
    generalize w5.heap.size = g7 at *
    (refine out_with (B := fun W => Num W n3 (.slice A3 d3.length k3) d3) K.out HN.out ?_; clear K HN; intro W5 K HN; replace K := Lib.hid K; replace HN := Lib.hid HN)
    obtain ⟨f1, c10, c11⟩ := K.out.nm (.head _)
    go_wp2_with fail
    refine (minus_any n3 _ d3 _ HN.out (by omega)).mono ?_
    rintro e w6 ⟨n4, s4, d4, rfl, hN4, hz4, hl4, hb⟩
    obtain ⟨A4, k4, rfl, -⟩ := hN4.1.len
    replace K := Lib.hid (Keep.stays _ _ K.out hb)
    clear hb f1 c10 c11
    go_wp2_with fail
    refine (int_any b _ (by omega) (by omega)).mono ?_
    rintro e w7 ⟨n5, s5, d5, rfl, hN5, hz5, hl5, hb⟩
    obtain ⟨A5, k5, rfl, -⟩ := hN5.1.len
    replace K := Lib.hid (Keep.stays _ _ K.out hb)
    replace hN4 := hN4.below hb
    clear hb
    go_wp2_with fail
    refine (quo_any n4 n5 _ _ d4 d5 _ hN4 hN5 (zof_ne (n := n5) (by omega)) (by omega) (by omega)).mono ?_
    rintro e w8 ⟨n6, s6, d6, rn, rA, rl, rk, rfl, hN6, hz6, hl6, hb⟩
    obtain ⟨A6, k6, rfl, -⟩ := hN6.1.len
    replace K := Lib.hid (Keep.stays _ _ K.out hb)
    rw [hz4, hz5, Z3.out, ← Int.neg_mul] at hz6
    replace HN := Lib.hid hN6
    have Z6 := Lib.hid hz6
    clear hb hN4 hN5 hN6 hz4 hz5 hz6
    go_upto_region 4 with fail
    replace K := Lib.hid (K.out.alloc2 (Obj.num n6 (.slice A6 d6.length k6)) (Obj.num rn (.slice rA rl rk)))
    replace HN := Lib.hid (HN.out.below (below_two _ (Obj.num n6 (.slice A6 d6.length k6)) (Obj.num rn (.slice rA rl rk))))
    generalize w8.heap.size = g8 at *
    (refine out_with (B := fun W => Num W n6 (.slice A6 d6.length k6) d6) K.out HN.out ?_; clear K HN; intro W8 K HN; replace K := Lib.hid K; replace HN := Lib.hid HN)
    obtain ⟨f1, c10, c11⟩ := K.out.nm (.tail _ (.head _))
    go_wp2_with fail
    refine (small_any n6 _ d6 _ HN.out (by omega) (by rw [Z6.out]; have := HL.out; omega) (by rw [Z6.out]; have := HL.out; omega)).mono ?_
    rintro e w13 ⟨rfl, hb⟩
    replace K := Lib.hid (Keep.stays _ _ K.out hb)
    clear hb f1 c10 c11
    rw [Z6.out]
    have hl := HL.out
    generalize hu : SpMath.fl (-a * 1048576) b = u at *
    have HU := Lib.hid hu
    clear hu
    obtain ⟨u1, u2⟩ := hl
    go_wp2_with fail
    go_ret
    exact ⟨by rw [HU.out]; rfl, K.out.B⟩
end Go.Proofs.Ytehjfjdopeadfaa
