/- The texts Ol, Om, On, Oo of the walk of the law and of all that it calls, in one file. No condition. -/
import Derived.Test.YtmidifgnpjlgcaaGreatY8
/- The walk of Flat. -/
set_option linter.unusedVariables false
set_option linter.unusedSimpArgs false
namespace Go.Proofs.YtmidifgnpjlgcaaGreat
open Go.RowKit

/-- Is it steep nowhere? -/
def flatB (rs : List Rw) (xs : List Int) (n : Nat) (most : Int) : Bool := decide (∀ j, j < n → steepF rs xs j ≤ most ∧ -steepF rs xs j ≤ most)
theorem flat_no {rs : List Rw} {xs : List Int} {n : Nat} {most : Int} {j : Nat} (hj : j < n) (h : ¬ (steepF rs xs j ≤ most ∧ -steepF rs xs j ≤ most)) : flatB rs xs n most = false := by
  unfold flatB
  exact decide_eq_false (fun k => h (k j hj))

set_option maxHeartbeats 8000000 in
set_option maxRecDepth 100000 in
theorem flat_any (rv pv qv cs ds t : Value) (cn dn : Bool) (n : Nat) (rs : List Rw) (xs : List Int) (most : Int) (w : World) (h : Gz w rv pv qv cn cs dn ds n rs) (hx : Sta w t xs n) (hm : i64 most) :
    Calls Tryz.prog 32 #[.agg #[.int .i64 n, rv, pv, qv, .bool cn, cs, .bool dn, ds], t, .int .i64 most] w fun e w' => e = .returned (.bool (flatB rs xs n most)) ∧ Below w.heap.size w w' := by
  obtain ⟨CA, cl, cc, rfl⟩ := h.2.2.1.2.2.sl
  obtain ⟨DA, dl, dc, rfl⟩ := h.2.2.2.1.sl
  have HG := Lib.hid h; have HX := Lib.hid hx
  obtain ⟨m1, m2⟩ := hm
  obtain ⟨hl60, hn11⟩ := h.2.2.2.2
  obtain ⟨RA, rc, rfl, -⟩ := h.1
  obtain ⟨PA, pc, rfl, -⟩ := h.2.2.1.1
  obtain ⟨QA, qc, rfl, -⟩ := h.2.2.1.2.1
  obtain ⟨B, d, rfl, -⟩ := hx.1
  have K := Lib.hid (Keep.begin1 w (.cells #[.int .i64 n, .slice RA rs.length rc, .slice PA n pc, .slice QA n qc, .bool cn, .slice CA cl cc, .bool dn, .slice DA dl dc] 34))
  clear h hx
  go_enter Tryz.func32, Tryz.ntmps32
  go_upto_region 1 with fail
  (refine out_keep K.out ?_; clear K; intro W K; replace K := Lib.hid K)
  (refine region_float1 _ 6 ⟨5, 7, Obj.num false (.slice none 0 0)⟩ ([(0, 0), (0, 1), (0, 2), (2, 3), (2, 4)]) (by kernel_rfl) (by kernel_rfl) ⟨_, rfl, rfl, rfl, fun a w => rfl, fun md e he => by simp at he⟩ (fun _ _ d _ _ => by cases d <;> exact Iff.rfl) Keep.stays K.out.drew ?_; clear K; intro W K hbw; replace K := Lib.hid K; have K0 := K)
  clear hbw
  have x6 := Keep.acell (k := 6) K (.head _) rfl
  have x7 := Keep.acell (k := 7) K (.head _) rfl
  (refine Ph.read rfl (by rfl) ?_; apply Exists.intro; refine ⟨fun p => ?_, ?_⟩; (focus (go_simp; (try (with_reducible rfl)); done)); (try simp only [Act.put, List.setIfInBounds_toArray, List.set_cons_zero, List.set_cons_succ]))
  (refine Ph.read rfl (by rfl) ?_; apply Exists.intro; refine ⟨fun p => ?_, ?_⟩; (focus (go_simp; (try (with_reducible rfl)); done)); (try simp only [Act.put, List.setIfInBounds_toArray, List.set_cons_zero, List.set_cons_succ]))
  (refine Ph.read rfl (by rfl) ?_; apply Exists.intro; refine ⟨fun p => ?_, ?_⟩; (focus (go_simp; (try (with_reducible rfl)); done)); (try simp only [Act.put, List.setIfInBounds_toArray, List.set_cons_zero, List.set_cons_succ]))
  clear x6 x7
  (refine Ph.call (f := 19) (args := (#[.int .i64 most])) rfl (by rfl) (by (intro w2; go_simp; try (with_reducible rfl))) ?_; intro w2 hb; replace K := Lib.hid (Keep.stays _ _ K.out hb))
  clear hb
  refine (int_nz most _ m1 m2).mono ?_
  rintro e w3 ⟨q3, A3, l3, c3, rfl, hN3, hb⟩
  (refine ⟨_, rfl, hb, ?_⟩; replace K := Lib.hid (Keep.stays _ _ K.out hb); (try simp only [Act.put, List.setIfInBounds_toArray, List.set_cons_zero, List.set_cons_succ]))
  clear hb
  have HN := Lib.hid hN3
  clear hN3
  (refine Ph.call (f := 23) (args := (#[.agg #[.bool dn, .slice DA dl dc], .agg #[.bool q3, .slice A3 l3 c3]])) rfl (by rfl) (by (intro w2; go_simp; try (with_reducible rfl))) ?_; intro w2 hb; replace K := Lib.hid (Keep.stays _ _ K.out hb))
  replace HN := Lib.hid (HN.out.below hb)
  clear hb
  refine (mul_nz (HG.out.2.2.2.1.below K.out.B) HN.out (by omega) (by omega)).mono ?_
  rintro e w4 ⟨q4, A4, l4, c4, rfl, hN4, hb⟩
  (refine ⟨_, rfl, hb, ?_⟩; replace K := Lib.hid (Keep.stays _ _ K.out hb); (try simp only [Act.put, List.setIfInBounds_toArray, List.set_cons_zero, List.set_cons_succ]))
  clear hb HN
  have HN := Lib.hid hN4
  clear hN4
  (intro w2 hb gt hg hge; replace K := Lib.hid (K0.out.held (Keep.stays _ _ K.out hb) hg hge); clear hg hge K0; simp only [ptr, List.drop_succ_cons, List.drop_zero, Act.put, List.setIfInBounds_toArray, List.set_cons_zero, List.set_cons_succ])
  replace HN := Lib.hid (HN.out.below hb)
  clear hb
  obtain ⟨f1, c10, c11⟩ := K.out.nm (.head _)
  go_upto_region 2 with fail
  refine out_with (B := fun W => Nz W q4 (.slice A4 l4 c4) (1 * most) (2 + 2 + 1)) (K.out.putn_0 q4 (.slice A4 l4 c4)) (HN.out.put (K.out.nm (.head _)).2.1 _ _) ?_
  clear K HN f1 c10 c11
  intro W2 K HN
  replace K := Lib.hid K
  replace HN := Lib.hid HN
  have x0 := K.out.cell (k := 0) (.tail _ (.head _)) rfl
  have x1 := K.out.cell (k := 1) (.tail _ (.head _)) rfl
  have x2 := K.out.cell (k := 2) (.tail _ (.head _)) rfl
  have x3 := K.out.cell (k := 3) (.tail _ (.head _)) rfl
  have x4 := K.out.cell (k := 4) (.tail _ (.head _)) rfl
  have x5 := K.out.cell (k := 5) (.tail _ (.head _)) rfl
  have x6 := K.out.cell (k := 6) (.tail _ (.head _)) rfl
  have x7 := K.out.cell (k := 7) (.tail _ (.head _)) rfl
  go_wp2_with fail
  refine (steep_any _ _ _ _ _ _ cn dn n rs xs _ (HG.out.below K.out.B) (HX.out.below K.out.B)).mono ?_
  rintro e w5 ⟨u, rfl, ⟨gp, LP, rfl, hgp, hh, hlp, hep⟩, hb⟩
  have K0 := K
  replace K := Lib.hid (Keep.stays _ _ K.out hb)
  replace HN := Lib.hid (HN.out.below hb)
  replace K := Lib.hid (K0.out.held K.out hh hgp)
  have HE := Lib.hid hep
  have HL := Lib.hid hlp
  clear K0 hb hh hgp hlp hep x0 x1 x2 x3 x4 x5 x6 x7
  go_wp2_with fail
  go_loopg [19] n (fun gk iv wr => ∃ (i : Nat), gk + i = n ∧ iv = .int .i64 (i : Int) ∧ Nz wr q4 (.slice A4 l4 c4) (1 * most) (2 + 2 + 1) ∧ Els wr LP 1000 (steepF rs xs) ∧ (∀ j, j < i → steepF rs xs j ≤ most ∧ -steepF rs xs j ≤ most) ∧ Keep w [(gp, Obj.lst LP), (gt, Obj.num q4 (.slice A4 l4 c4)), (w.heap.size, .cells #[.int .i64 n, .slice RA rs.length rc, .slice PA n pc, .slice QA n qc, .bool cn, .slice CA cl cc, .bool dn, .slice DA dl dc] 34)] wr)
  case atStart => exact ⟨0, by omega, rfl, HN.out, HE.out, fun j hj => absurd hj (by omega), K.out⟩
  case round =>
    clear K HE HN
    obtain ⟨i, hgi, rfl, hn, he, hall, k'⟩ := hrel
    have K := Lib.hid k'
    have HN := Lib.hid hn; have HE := Lib.hid he; have HALL := Lib.hid hall
    clear k' hn he hall
    by_cases hi : i < n
    · have hz1 := HE.out i (show i < LP.length by rw [HL.out]; exact hi)
      have HZV : Hid (steepF rs xs i = steepF rs xs i) := rfl
      generalize hzv : steepF rs xs i = z at hz1
      replace HZV := Lib.hid hzv
      clear hzv
      obtain ⟨c0, c1⟩ := K.out.lstc (.head _) i (by rw [HL.out]; exact hi)
      have H1 := Lib.hid hz1
      generalize (LP[i]'(by rw [HL.out]; exact hi)).n = n1 at *
      generalize (LP[i]'(by rw [HL.out]; exact hi)).A = A1 at *
      generalize (LP[i]'(by rw [HL.out]; exact hi)).l = l1 at *
      generalize (LP[i]'(by rw [HL.out]; exact hi)).c = c1' at *
      clear hz1
      go_upto_region 5 with fail
      clear c0 c1
      replace K := Lib.hid (K.out.alloc (Obj.num n1 (.slice A1 l1 c1')))
      replace HN := Lib.hid (HN.out.below (below_one wr (Obj.num n1 (.slice A1 l1 c1'))))
      replace HE := Lib.hid (HE.out.below (below_one wr (Obj.num n1 (.slice A1 l1 c1'))))
      replace H1 := Lib.hid (H1.out.below (below_one wr (Obj.num n1 (.slice A1 l1 c1'))))
      generalize wr.heap.size = g9 at *
      (refine region_ord _ 11 (by kernel_rfl) (by kernel_rfl) K.out.drew ?_; clear K; intro W K hbw; replace K := Lib.hid K)
      replace HN := Lib.hid (HN.out.below hbw)
      replace HE := Lib.hid (HE.out.below hbw)
      replace H1 := Lib.hid (H1.out.below hbw)
      clear hbw
      obtain ⟨e10, e11⟩ := Keep.anm K (.head _)
      obtain ⟨e20, e21⟩ := Keep.anm K (.tail _ (.tail _ (.head _)))
      (refine Ord.take' 0 rfl (by kernel_rfl) (fun _ _ _ _ h => h) K.out (by rfl) ?_; apply Exists.intro; refine ⟨fun p => ?_, ?_⟩; (focus (go_simp; (try (with_reducible rfl)); done)); (try simp only [Act.put, List.setIfInBounds_toArray, List.set_cons_zero, List.set_cons_succ]))
      (refine Ord.take' 1 rfl (by kernel_rfl) (fun _ _ _ _ h => h) K.out (by rfl) ?_; apply Exists.intro; refine ⟨fun p => ?_, ?_⟩; (focus (go_simp; (try (with_reducible rfl)); done)); (try simp only [Act.put, List.setIfInBounds_toArray, List.set_cons_zero, List.set_cons_succ]))
      (refine Ord.call 2 (g := 24) (args := (#[.agg #[.bool n1, .slice A1 l1 c1'], .agg #[.bool q4, .slice A4 l4 c4]])) rfl (by kernel_rfl) (by rfl) (by (go_simp; try (with_reducible rfl))) ?_)
      refine (icmp_nz H1.out HN.out (by omega) (by omega)).mono ?_
      rintro e w6 ⟨rfl, hb⟩
      (refine ⟨_, rfl, Keep.stays _ _ K.out hb, ?_⟩; replace K := Lib.hid (Keep.stays _ _ K.out hb); simp only [Act.put, List.setIfInBounds_toArray, List.set_cons_zero, List.set_cons_succ])
      replace HN := Lib.hid (HN.out.below hb)
      replace HE := Lib.hid (HE.out.below hb)
      replace H1 := Lib.hid (H1.out.below hb)
      clear hb
      generalize hsg : sgn (z - 1 * most) = sg at *
      have HSG := Lib.hid hsg
      clear hsg
      by_cases hs : 0 < sg
      · (refine Ord.take' 3 rfl (by kernel_rfl) (fun _ _ _ _ h => h) K.out (by rfl) ?_; apply Exists.intro; refine ⟨fun p => ?_, ?_⟩; (focus (go_simp; (try (with_reducible rfl)); done)); (try simp only [Act.put, List.setIfInBounds_toArray, List.set_cons_zero, List.set_cons_succ]))
        (refine Ord.take' 4 rfl (by kernel_rfl) (fun _ _ _ _ h => h) K.out (by rfl) ?_; apply Exists.intro; refine ⟨fun p => ?_, ?_⟩; (focus (go_simp; (try (with_reducible rfl)); done)); (try simp only [Act.put, List.setIfInBounds_toArray, List.set_cons_zero, List.set_cons_succ]))
        (refine Ord.skip 5 rfl (by kernel_rfl) (fun _ _ _ h => h) K.out (by rfl) ?_; (try simp only [Act.put, List.setIfInBounds_toArray, List.set_cons_zero, List.set_cons_succ]))
        (refine Ord.skip 6 rfl (by kernel_rfl) (fun _ _ _ h => h) K.out (by rfl) ?_; (try simp only [Act.put, List.setIfInBounds_toArray, List.set_cons_zero, List.set_cons_succ]))
        (refine Ord.skip 7 rfl (by kernel_rfl) (fun _ _ _ h => h) K.out (by rfl) ?_; (try simp only [Act.put, List.setIfInBounds_toArray, List.set_cons_zero, List.set_cons_succ]))
        (refine Ord.skip 8 rfl (by kernel_rfl) (fun _ _ _ h => h) K.out (by rfl) ?_; (try simp only [Act.put, List.setIfInBounds_toArray, List.set_cons_zero, List.set_cons_succ]))
        (refine Ord.skip 9 rfl (by kernel_rfl) (fun _ _ _ h => h) K.out (by rfl) ?_; (try simp only [Act.put, List.setIfInBounds_toArray, List.set_cons_zero, List.set_cons_succ]))
        (refine Ord.take' 10 rfl (by kernel_rfl) (fun _ _ _ _ h => h) K.out (by rfl) ?_; apply Exists.intro; refine ⟨fun p => ?_, ?_⟩; (focus (go_simp; (try (with_reducible rfl)); done)); (try simp only [Act.put, List.setIfInBounds_toArray, List.set_cons_zero, List.set_cons_succ]))
        clear e10 e11 e20 e21
        (refine Ord.done (by kernel_rfl) ?_; simp only [List.drop_succ_cons, List.drop_zero, Act.put, List.setIfInBounds_toArray, List.set_cons_zero, List.set_cons_succ])
        go_wp2_with fail
        go_ret
        exact ⟨ret_bool (flat_no hi (fun h => by rw [HZV.out] at h; have := sgn_pos'.1 (show 0 < sgn (z - 1 * most) by rw [HSG.out]; exact hs); omega)).symm, K.out.B⟩
      · (refine Ord.take' 3 rfl (by kernel_rfl) (fun _ _ _ _ h => h) K.out (by rfl) ?_; apply Exists.intro; refine ⟨fun p => ?_, ?_⟩; (focus (go_simp; (try (with_reducible rfl)); done)); (try simp only [Act.put, List.setIfInBounds_toArray, List.set_cons_zero, List.set_cons_succ]))
        (refine Ord.take' 4 rfl (by kernel_rfl) (fun _ _ _ _ h => h) K.out (by rfl) ?_; apply Exists.intro; refine ⟨fun p => ?_, ?_⟩; (focus (go_simp; (try (with_reducible rfl)); done)); (try simp only [Act.put, List.setIfInBounds_toArray, List.set_cons_zero, List.set_cons_succ]))
        (refine Ord.take' 5 rfl (by kernel_rfl) (fun _ _ _ _ h => h) K.out (by rfl) ?_; apply Exists.intro; refine ⟨fun p => ?_, ?_⟩; (focus (go_simp; (try (with_reducible rfl)); done)); (try simp only [Act.put, List.setIfInBounds_toArray, List.set_cons_zero, List.set_cons_succ]))
        (refine Ord.take' 7 rfl (by kernel_rfl) (fun _ _ _ _ h => h) K.out (by rfl) ?_; apply Exists.intro; refine ⟨fun p => ?_, ?_⟩; (focus (go_simp; (try (with_reducible rfl)); done)); (try simp only [Act.put, List.setIfInBounds_toArray, List.set_cons_zero, List.set_cons_succ]))
        clear e10 e11 e20 e21
        (refine Ord.call 6 (g := 67) (args := (#[.agg #[.bool n1, .slice A1 l1 c1']])) rfl (by kernel_rfl) (by rfl) (by (go_simp; try (with_reducible rfl))) ?_)
        refine (neg_nz H1.out (by omega)).mono ?_
        rintro e w7 ⟨q7, A7, l7, c7, rfl, hN7, hb⟩
        (refine ⟨_, rfl, Keep.stays _ _ K.out hb, ?_⟩; replace K := Lib.hid (Keep.stays _ _ K.out hb); simp only [Act.put, List.setIfInBounds_toArray, List.set_cons_zero, List.set_cons_succ])
        replace HN := Lib.hid (HN.out.below hb)
        replace HE := Lib.hid (HE.out.below hb)
        clear hb H1
        (refine Ord.call 8 (g := 24) (args := (#[.agg #[.bool q7, .slice A7 l7 c7], .agg #[.bool q4, .slice A4 l4 c4]])) rfl (by kernel_rfl) (by rfl) (by (go_simp; try (with_reducible rfl))) ?_)
        refine (icmp_nz hN7 HN.out (by omega) (by omega)).mono ?_
        rintro e w8 ⟨rfl, hb⟩
        (refine ⟨_, rfl, Keep.stays _ _ K.out hb, ?_⟩; replace K := Lib.hid (Keep.stays _ _ K.out hb); simp only [Act.put, List.setIfInBounds_toArray, List.set_cons_zero, List.set_cons_succ])
        replace HN := Lib.hid (HN.out.below hb)
        replace HE := Lib.hid (HE.out.below hb)
        clear hb hN7
        generalize hsg2 : sgn (-z - 1 * most) = sg2 at *
        have HSG2 := Lib.hid hsg2
        clear hsg2
        by_cases hs2 : 0 < sg2
        · (refine Ord.take' 9 rfl (by kernel_rfl) (fun _ _ _ _ h => h) K.out (by rfl) ?_; apply Exists.intro; refine ⟨fun p => ?_, ?_⟩; (focus (go_simp; (try (with_reducible rfl)); done)); (try simp only [Act.put, List.setIfInBounds_toArray, List.set_cons_zero, List.set_cons_succ]))
          (refine Ord.take' 10 rfl (by kernel_rfl) (fun _ _ _ _ h => h) K.out (by rfl) ?_; apply Exists.intro; refine ⟨fun p => ?_, ?_⟩; (focus (go_simp; (try (with_reducible rfl)); done)); (try simp only [Act.put, List.setIfInBounds_toArray, List.set_cons_zero, List.set_cons_succ]))
          (refine Ord.done (by kernel_rfl) ?_; simp only [List.drop_succ_cons, List.drop_zero, Act.put, List.setIfInBounds_toArray, List.set_cons_zero, List.set_cons_succ])
          go_wp2_with fail
          go_ret
          exact ⟨ret_bool (flat_no hi (fun h => by rw [HZV.out] at h; have := sgn_pos'.1 (show 0 < sgn (-z - 1 * most) by rw [HSG2.out]; exact hs2); omega)).symm, K.out.B⟩
        · (refine Ord.take' 9 rfl (by kernel_rfl) (fun _ _ _ _ h => h) K.out (by rfl) ?_; apply Exists.intro; refine ⟨fun p => ?_, ?_⟩; (focus (go_simp; (try (with_reducible rfl)); done)); (try simp only [Act.put, List.setIfInBounds_toArray, List.set_cons_zero, List.set_cons_succ]))
          (refine Ord.take' 10 rfl (by kernel_rfl) (fun _ _ _ _ h => h) K.out (by rfl) ?_; apply Exists.intro; refine ⟨fun p => ?_, ?_⟩; (focus (go_simp; (try (with_reducible rfl)); done)); (try simp only [Act.put, List.setIfInBounds_toArray, List.set_cons_zero, List.set_cons_succ]))
          (refine Ord.done (by kernel_rfl) ?_; simp only [List.drop_succ_cons, List.drop_zero, Act.put, List.setIfInBounds_toArray, List.set_cons_zero, List.set_cons_succ])
          go_wp2_with fail
          go_roundg (gk - 1)
          case measure => omega
          case rel =>
            refine ⟨i + 1, by omega, congrArg (Value.int .i64) (by omega), HN.out, HE.out, fun j hj => ?_, K.out.rest⟩
            by_cases e : j = i
            · rw [e, HZV.out]
              have k1 : ¬ 0 < z - 1 * most := fun h => by have h2 := sgn_pos'.2 h; rw [HSG.out] at h2; omega
              have k2 : ¬ 0 < -z - 1 * most := fun h => by have h2 := sgn_pos'.2 h; rw [HSG2.out] at h2; omega
              omega
            · exact HALL.out j (by omega)
    · go_wp2_with fail
      go_ret
      exact ⟨ret_bool (decide_eq_true (fun j hj => HALL.out j (by omega))).symm, K.out.B⟩
end Go.Proofs.YtmidifgnpjlgcaaGreat
/- Whether rows may be; a matrix of which a function tells each place. -/
set_option linter.unusedVariables false
set_option linter.unusedSimpArgs false
namespace Go.Proofs.YtmidifgnpjlgcaaGreat
open Go.RowKit

noncomputable def rokB (r : Rw) (n : Nat) : Bool := @decide (RwOk r n) (Classical.propDecidable _)
theorem rokB_iff (r : Rw) (n : Nat) : rokB r n = true ↔ RwOk r n := by unfold rokB; exact @decide_eq_true_iff _ (Classical.propDecidable _)

variable {w0 w : World} {l l2 : List (Nat × Obj)}
set_option maxHeartbeats 4000000 in
set_option maxRecDepth 100000 in
theorem not26_any (v : Value) (r : Rw) (g n : Nat) (w : World) (h : Iv w v r.coef) (hc : Cap w g (.int .i64 n)) (hn : n ≤ 1000000) (lc : r.coef.length ≤ 4611686018427387904) :
    Calls Tryz.prog 26 #[.agg #[v, .int .i64 r.z, .int .i64 r.knee, .int .i64 r.weight], .pointer (some ⟨g, 0, none⟩)] w fun e w' => e = .returned (.bool (!rokB r n)) ∧ Below w.heap.size w w' := by
  have K := Lib.hid (Keep.begin1 w (Obj.rw v r))
  have HI := Lib.hid h; have HC := Lib.hid hc
  obtain ⟨A, c, rfl, -⟩ := h
  clear hc
  go_enter Tryz.func26, Tryz.ntmps26
  go_upto_region 1 with fail
  (refine out_keep K.out ?_; clear K; intro W K; replace K := Lib.hid K)
  (have c0 := K.out.cell (k := 0) (.head _) rfl; have c1 := K.out.cell (k := 1) (.head _) rfl; have c2 := K.out.cell (k := 2) (.head _) rfl; have c3 := K.out.cell (k := 3) (.head _) rfl; have f1 := fun o => K.out.warm (.head _) o)
  have cx := kept_cell K.out HC.out.1 HC.out.2
  go_wp2_with fail
  refine (right_any _ r n _ (HI.out.below K.out.B) hn lc).mono ?_
  rintro e w2 ⟨b, rfl, hiff, hb⟩
  obtain rfl : b = rokB r n := by
    cases hb1 : rokB r n with
    | true => exact hiff.2 ((rokB_iff r n).1 hb1)
    | false =>
      cases b with
      | false => rfl
      | true => rw [(rokB_iff r n).2 (hiff.1 rfl)] at hb1; cases hb1
  replace K := Lib.hid (Keep.stays _ _ K.out hb)
  clear hb cx hiff
  ((try clear f1); clear c0 c1 c2 c3)
  obtain ⟨b, hb0⟩ : ∃ b, b = rokB r n := ⟨_, rfl⟩
  have HZ := Lib.hid hb0
  rw [← hb0]
  clear hb0
  go_wp2_with fail
  go_ret
  exact ⟨ret_bool (by rw [HZ.out]), K.out.B⟩

set_option maxHeartbeats 4000000 in
set_option maxRecDepth 100000 in
theorem index64r_any (s : Value) (rs : List Rw) (g n : Nat) (w : World) (h : Rws w s rs) (l : rs.length ≤ 1000000) (hc : Cap w g (.int .i64 n)) (hn : n ≤ 1000000) (lc : ∀ r ∈ rs, r.coef.length ≤ 4611686018427387904) :
    Calls Tryz.prog 64 #[s, .func (.func 26) #[] #[.pointer (some ⟨g, 0, none⟩)]] w fun e w' => ∃ k, e = .returned (.int .i64 k) ∧ (-1 ≤ k ∧ k ≤ 1000000) ∧ (k < 0 ↔ ∀ r ∈ rs, RwOk r n) ∧ Below w.heap.size w w' := by
  obtain ⟨A, c, rfl, -, ha⟩ := h
  have HA := Lib.hid ha; have HC := Lib.hid hc; have LC := Lib.hid lc
  have K := Lib.hid (Keep.start w)
  clear ha hc lc
  go_enter Tryz.func64, Tryz.ntmps64
  go_wp2_with fail
  go_loopg [8] rs.length (fun gk iv wr => ∃ i : Nat, gk + i = rs.length ∧ iv = .int .i64 (i : Int) ∧ (∀ j, j < i → RwOk (rs.getD j Rw.zero) n) ∧ Keep w [] wr)
  case atStart => exact ⟨0, by omega, rfl, fun j hj => absurd hj (by omega), K.out⟩
  case round =>
    clear K
    obtain ⟨i, hgi, rfl, hall, k⟩ := hrel
    have K := Lib.hid k
    have HL := Lib.hid hall
    clear k hall
    by_cases hi : i < rs.length
    · obtain ⟨b, off, B, d, rfl, hlt, hI, x0, x1, x2, x3⟩ := HA.out i hi
      have X0 := kept_cell K.out hlt x0; have X1 := kept_cell K.out hlt x1; have X2 := kept_cell K.out hlt x2; have X3 := kept_cell K.out hlt x3
      have HI := Lib.hid (hI.below K.out.B)
      have HLC := Lib.hid (LC.out _ (mem_of_lt hi))
      obtain ⟨r, hr⟩ : ∃ r, r = rs.getD i Rw.zero := ⟨_, rfl⟩
      have HR := Lib.hid hr
      rw [← hr] at X0 X1 X2 X3 HI HLC
      clear hI x0 x1 x2 x3 hr
      go_wp2_with fail
      refine (not26_any _ r g n _ HI.out (HC.out.below K.out.B) hn HLC.out).mono ?_
      rintro e w2 ⟨rfl, hb⟩
      replace K := Lib.hid (Keep.stays _ _ K.out hb)
      clear hb X0 X1 X2 X3
      have HB := Lib.hid (rokB_iff r n)
      generalize rokB r n = b at *
      cases b
      · go_wp2_with fail
        go_ret
        exact ⟨_, rfl, by omega, ⟨fun h => by omega, fun h => by have k := HB.out.2 (HR.out ▸ h _ (mem_of_lt hi)); cases k⟩, K.out.B⟩
      · go_wp2_with fail
        go_roundg (gk - 1)
        case measure => omega
        case rel =>
          refine ⟨i + 1, by omega, congrArg (Value.int .i64) (by omega), fun j hj => ?_, K.out⟩
          by_cases e : j = i
          · rw [e, ← HR.out]; exact HB.out.1 (by simp)
          · exact HL.out j (by omega)
    · go_wp2_with fail
      go_ret
      refine ⟨_, rfl, by omega, ⟨fun _ r hr => ?_, fun _ => by omega⟩, K.out.B⟩
      obtain ⟨j, hj, rfl⟩ := List.mem_iff_getElem.1 hr
      have := HL.out j (by omega)
      rw [List.getD_eq_getElem?_getD, List.getElem?_eq_getElem hj] at this
      exact this

set_option maxHeartbeats 4000000 in
set_option maxRecDepth 100000 in
theorem contains25_any (s : Value) (rs : List Rw) (g n : Nat) (w : World) (h : Rws w s rs) (l : rs.length ≤ 1000000) (hc : Cap w g (.int .i64 n)) (hn : n ≤ 1000000) (lc : ∀ r ∈ rs, r.coef.length ≤ 4611686018427387904) :
    Calls Tryz.prog 25 #[s, .func (.func 26) #[] #[.pointer (some ⟨g, 0, none⟩)]] w fun e w' => ∃ b : Int, e = .returned (.bool (decide (0 ≤ b))) ∧ (b < 0 ↔ ∀ r ∈ rs, RwOk r n) ∧ Below w.heap.size w w' := by
  have K := Lib.hid (Keep.start w)
  have H := Lib.hid h; have HC := Lib.hid hc; have LC := Lib.hid lc
  clear h hc lc
  go_enter Tryz.func25, Tryz.ntmps25
  go_wp2_with fail
  refine (index64r_any s rs g n _ (H.out.below K.out.B) l (HC.out.below K.out.B) hn LC.out).mono ?_
  rintro e w2 ⟨k, rfl, ⟨k1, k2⟩, hk, hb⟩
  replace K := Lib.hid (Keep.stays _ _ K.out hb)
  have HK := Lib.hid hk
  clear hb hk
  go_wp2_with fail
  go_ret
  exact ⟨k, rfl, HK.out, K.out.B⟩
end Go.Proofs.YtmidifgnpjlgcaaGreat
/- A matrix of which a function tells each place. -/
set_option linter.unusedVariables false
set_option linter.unusedSimpArgs false
namespace Go.Proofs.YtmidifgnpjlgcaaGreat
open Go.RowKit

/-- A row of numbers of one's own. -/
def Lr (w : World) (x : Value) (m N : Nat) (f : Nat → Int) : Prop := ∃ L, Lwn w 0 x L ∧ L.length = m ∧ Els w L N f
theorem Lr.below {w w' : World} {x : Value} {m N : Nat} {f : Nat → Int} (h : Lr w x m N f) (hb : Below w.heap.size w w') : Lr w' x m N f := by
  obtain ⟨L, h1, h2, h3⟩ := h
  exact ⟨L, h1.below hb, h2, h3.below hb⟩
theorem Lr.turn {w w' : World} {x : Value} {m N : Nat} {f : Nat → Int} {o : Option Nat} (h : Lr w x m N f) (hT : Turn o w w') (ho : Tagged w o 27) (hc : ∀ k, o = some k → ∀ z, w.cell? ⟨k, 0, none⟩ ≠ some (.int .u32 z)) : Lr w' x m N f := by
  obtain ⟨L, h1, h2, h3⟩ := h
  refine ⟨L, ⟨owns_turn h1.1 hT ho (by decide), fun k hk z => ?_⟩, h2, h3.turn (fun _ _ _ _ hN => hN.turn hT hc)⟩
  have hlt := h1.lt k hk
  have hne : o ≠ some k := by
    intro eo
    obtain ⟨cs, hcs⟩ := ho k eo
    rcases h1.1.2 with ⟨rfl, _⟩ | ⟨g, cap, cur, rfl, hb, hh, _⟩
    · simp [Value.ownBlock] at hk
    · have : g = k := by simpa [Value.ownBlock] using hk
      subst this
      rw [hh] at hcs
      injection hcs with hcs
      injection hcs with _ hcs
      exact absurd hcs (by decide)
  rw [cell_of_heap (hT.2 k hlt hne)]
  exact h1.2 k hk z
/-- A matrix of one's own. -/
def Mo27 (w : World) (v : Value) (n N : Nat) (f : Nat → Nat → Int) : Prop := ∃ vs, Swn w 0 27 v vs ∧ vs.length = n ∧ All vs (fun i x => Lr w x n N (f i))
theorem Mo27.below {w w' : World} {v : Value} {n N : Nat} {f : Nat → Nat → Int} (h : Mo27 w v n N f) (hb : Below w.heap.size w w') : Mo27 w' v n N f := by
  obtain ⟨vs, h1, h2, h3⟩ := h
  exact ⟨vs, h1.below hb, h2, h3.mono fun j x _ hx => hx.below hb⟩
theorem Mo27.mv {w : World} {v : Value} {n N : Nat} {f : Nat → Nat → Int} (h : Mo27 w v n N f) : Mv w v n n N f := by
  obtain ⟨vs, h1, h2, h3⟩ := h
  obtain ⟨A, c, hv, h0, hat⟩ := h1.at
  rw [h2] at hv
  refine ⟨A, c, hv, h0, fun j hj => ?_⟩
  obtain ⟨g, hA, -, hlt, hcell⟩ := hat j (by omega)
  obtain ⟨L, l1, l2, l3⟩ := h3 j (show j < vs.length by omega)
  obtain ⟨B, d, hB⟩ := l1.sl
  rw [hB] at hcell l1
  rw [l2] at hcell
  have hl := l1.lv l3
  rw [l2] at hl
  exact ⟨g, B, d, hA, hlt, hcell, hl⟩

variable {w0 w : World} {l l2 : List (Nat × Obj)}
set_option maxHeartbeats 8000000 in
set_option maxRecDepth 100000 in
theorem made29_any (gA gP gQ gR : Value) (cn dn : Bool) (gC gD : Value) (n N : Nat) (f : Nat → Nat → Int) (w : World) (hF : ∀ i j : Nat, i < n → j < n → ∀ w', Below w.heap.size w w' → Calls Tryz.prog 29 #[.int .i64 i, .int .i64 j] w' (Told1 w' N (f i j))) (hn : n ≤ 1000000) (hs : (∃ A l c, gR = .slice A l c) ∧ (∃ A l c, gP = .slice A l c) ∧ (∃ A l c, gQ = .slice A l c) ∧ (∃ A l c, gC = .slice A l c) ∧ (∃ A l c, gD = .slice A l c)) :
    Calls Tryz.prog 28 #[.agg #[.int .i64 n, gR, gP, gQ, .bool cn, gC, .bool dn, gD], .func (.func 29) #[] #[]] w fun e w' => ∃ v, e = .returned v ∧ Mo27 w' v n N f ∧ Below w.heap.size w w' := by
  obtain ⟨⟨A1, l1, c1, rfl⟩, ⟨A2, l2, c2, rfl⟩, ⟨A3, l3, c3, rfl⟩, ⟨A4, l4, c4, rfl⟩, ⟨A5, l5, c5, rfl⟩⟩ := hs
  have K := Lib.hid (Keep.begin1 w (.cells #[.int .i64 n, .slice A1 l1 c1, .slice A2 l2 c2, .slice A3 l3 c3, .bool cn, .slice A4 l4 c4, .bool dn, .slice A5 l5 c5] 34))
  have HF := Lib.hid hF
  have hsz := Lib.hid (Nat.succ_le_of_lt (K.out.lt (.head _)))
  clear hF
  go_enter Tryz.func28, Tryz.ntmps28
  have x0 := K.out.cell (k := 0) (.head _) rfl
  go_wp2_with fail
  clear x0
  go_loopg [5, 11] n (fun gk ov iv wr => ∃ (i : Nat) (vs : List Value), gk + i = n ∧ iv = .int .i64 (i : Int) ∧ Swn wr (w.heap.size + 1) 27 ov vs ∧ vs.length = i ∧ All vs (fun i x => Lr wr x n N (f i)) ∧ Keep w [(w.heap.size, .cells #[.int .i64 n, .slice A1 l1 c1, .slice A2 l2 c2, .slice A3 l3 c3, .bool cn, .slice A4 l4 c4, .bool dn, .slice A5 l5 c5] 34)] wr ∧ w.heap.size + 1 ≤ wr.heap.size)
  case atStart => exact ⟨0, [], by omega, rfl, Swn.nil _ _ _, rfl, All.nil _, K.out, hsz.out⟩
  case round =>
    clear K hsz
    rename World => wo
    obtain ⟨i, vs, hgi, rfl, hown, hvl, hall, k', hsz'⟩ := hrel
    have HO := Lib.hid (And.intro hown (And.intro hvl hall))
    have K := Lib.hid k'
    have hsz := Lib.hid hsz'
    clear hown hvl hall k' hsz'
    by_cases hi : i < n
    · have x0 := K.out.cell (k := 0) (.head _) rfl
      go_wp2_with fail
      clear x0
      have KI := Lib.hid (Below.refl wo.heap.size wo)
      go_loopg [7, 16] n (fun g2 rv jv wr2 => ∃ (j : Nat) (L : List Nm), g2 + j = n ∧ jv = .int .i64 (j : Int) ∧ Lwn wr2 wo.heap.size rv L ∧ L.length = j ∧ Els wr2 L N (f i) ∧ Below wo.heap.size wo wr2)
      case atStart => exact ⟨0, [], by omega, rfl, Lwn.nil _ _, rfl, Els.nil _ _ _, KI.out⟩
      case round =>
        clear KI
        obtain ⟨j, L, hgj, rfl, hown, hl, he, hb2⟩ := hrel
        have HR := Lib.hid (And.intro hown (And.intro hl he))
        have KI := Lib.hid (Keep.of hb2)
        clear hown hl he hb2
        by_cases hj : j < n
        · go_wp2_with fail
          refine (HF.out i j hi hj _ (K.out.B.trans (KI.out.B.mono K.out.B.size))).mono ?_
          rintro e w2 ⟨q, A, ll, lc, rfl, hN, hb⟩
          replace HR := Lib.hid (And.intro (HR.out.1.below hb) (And.intro HR.out.2.1 (HR.out.2.2.below hb)))
          replace KI := Lib.hid (Keep.stays _ _ KI.out hb)
          have HN := Lib.hid hN
          clear hb hN
          go_wp2_with (at_builtin; refine app1l rfl (.tmp 19) (.tmp 24) rfl wo.heap.size u7 L q A ll lc rfl HR.out.1 rfl (by rw [HR.out.2.1]; omega) KI.out.B.size ?_; intro v' w' hown' hnz' hkeep')
          have Y := Lib.hid (And.intro hown' (And.intro (hkeep' _ _ KI.out (by simp) (Nat.le_refl _)).B (And.intro (HR.out.2.2.turn hnz') (hnz' _ _ _ _ HN.out))))
          have HYL : Hid ((L ++ [(⟨q, A, ll, lc⟩ : Nm)]).length = j + 1) := by show _ = _; rw [List.length_append, HR.out.2.1]; rfl
          clear hown' hkeep' hnz' HR KI HN
          go_roundg (n - (j + 1))
          case measure => omega
          case rel =>
            have hll : L.length = j := by have := HYL.out; simp at this; omega
            exact ⟨j + 1, _, by omega, congrArg (Value.int .i64) (by omega), Y.out.1, HYL.out, Y.out.2.2.1.snoc _ (by rw [hll]; exact Y.out.2.2.2), Y.out.2.1⟩
        · have HLn : Hid (L.length = n) := by have := HR.out.2.1; show _ = _; omega
          obtain ⟨RA, rcp, rfl⟩ := HR.out.1.sl
          have HRr : Hid (Lr _ (.slice RA L.length rcp) n N (f i)) := Lib.hid ⟨L, ⟨owns_mono HR.out.1.1 (Nat.zero_le _), HR.out.1.2⟩, HLn.out, HR.out.2.2⟩
          replace K := Lib.hid (Keep.stays _ _ K.out KI.out.B)
          replace HO := Lib.hid (And.intro (HO.out.1.below KI.out.B) (And.intro HO.out.2.1 (HO.out.2.2.mono fun j x _ hx => hx.below KI.out.B)))
          replace hsz := Lib.hid (Nat.le_trans hsz.out KI.out.B.size)
          clear HR KI
          rw [HLn.out] at HRr
          rw [HLn.out]
          go_wp2_with (at_builtin; refine app1s 26 27 Tryz.underlying26 info27 rfl (.tmp 27) (.tmp 29) rfl (w.heap.size + 1) u5 vs RA n rcp rfl HO.out.1 rfl (by rw [HO.out.2.1]; omega) hsz.out ?_; intro v' w' hown' hturn' hkeep')
          have hcell := HO.out.1.2.1
          have Y := Lib.hid (And.intro hown' (And.intro (hkeep' _ _ K.out (by simp) (Nat.le_succ _)) (And.intro (HO.out.2.2.mono fun j x _ hx => hx.turn hturn' HO.out.1.tag hcell) (HRr.out.turn hturn' HO.out.1.tag hcell))))
          have HYL : Hid ((vs ++ [Value.slice RA n rcp]).length = i + 1) := by show _ = _; rw [List.length_append, HO.out.2.1]; rfl
          clear hown' hkeep' hturn' HO K hcell HRr
          go_roundg (n - (i + 1))
          case measure => omega
          case rel =>
            have hll : vs.length = i := by have := HYL.out; simp at this; omega
            exact ⟨i + 1, _, by omega, congrArg (Value.int .i64) (by omega), Y.out.1, HYL.out, Y.out.2.2.1.snoc _ (by rw [hll]; exact Y.out.2.2.2), Y.out.2.1, Y.out.2.1.lt (.head _)⟩
    · have HI : Hid (vs.length = n) := by have := HO.out.2.1; show _ = _; omega
      obtain ⟨OA, oc, rfl, -⟩ := HO.out.1.at
      go_wp2_with fail
      go_ret
      exact ⟨_, rfl, ⟨vs, ⟨owns_mono HO.out.1.1 (Nat.zero_le _), HO.out.1.2⟩, HI.out, HO.out.2.2⟩, K.out.B⟩

end Go.Proofs.YtmidifgnpjlgcaaGreat
/- The walk of New. -/
set_option linter.unusedVariables false
set_option linter.unusedSimpArgs false
namespace Go.Proofs.YtmidifgnpjlgcaaGreat
open Go.RowKit

theorem ret_g1 {fn : Func} {p u g : Nat} {tmps : Array Value} {w : World} {n : Int} {s1 s2 s3 s4 s5 : Value} {cn dn : Bool} {R : Ending → World → Prop} (h : fn.results = #[.cell p 34, .tmp u]) (hp : tmps.getD p undef = .pointer (some ⟨g, 0, none⟩))
    (hb : w.heap[g]? = some (.cells #[.int .i64 n, s1, s2, s3, .bool cn, s4, .bool dn, s5] 34)) (hR : R (.returned (.tuple #[.agg #[.int .i64 n, s1, s2, s3, .bool cn, s4, .bool dn, s5], tmps.getD u undef])) w) : bodyPost Tryz.prog fn R .ret { tmps := tmps, defers := [] } w := by
  refine bodyPost_ret ?_ rfl hR
  have hp' : tmps[p]?.getD undef = .pointer (some ⟨g, 0, none⟩) := by simpa using hp
  have e1 := run_loadVar_row (P := Tryz.prog) w g 34 34 _ _ _ hb Tryz.underlying34 rfl (by kernel_rfl)
  simp [results, h, hp', asAddr, e1]

set_option maxHeartbeats 4000000 in
set_option maxRecDepth 100000 in
theorem zero29_any (i j : Int) (w : World) : Calls Tryz.prog 29 #[.int .i64 i, .int .i64 j] w (Told1 w 0 0) := by
  have K := Lib.hid (Keep.begin1 w (Obj.num false (.slice none 0 0)))
  go_enter Tryz.func29, Tryz.ntmps29
  go_upto_region 1 with fail
  (refine out_keep K.out ?_; clear K; intro W K; replace K := Lib.hid K)
  obtain ⟨f1, c10, c11⟩ := K.out.nm (.head _)
  go_wp2_with fail
  refine ret_nm Tryz.results29 rfl ((K.out.putn_0 _ _).nb (.head _)) ?_
  exact ⟨false, none, 0, 0, rfl, Nz.nil _, (K.out.putn_0 _ _).B⟩

def gzero : Array Value := #[.int .i64 0, .slice none 0 0, .slice none 0 0, .slice none 0 0, .bool false, .slice none 0 0, .bool false, .slice none 0 0]
theorem Keep.gb {w0 w : World} {l : List (Nat × Obj)} {b : Nat} {vs : Array Value} {t : TypeId} (K : Keep w0 l w) (m : (b, Obj.cells vs t) ∈ l) : w.heap[b]? = some (.cells vs t) := K.box _ m
theorem set8 (a0 a1 a2 a3 a4 a5 a6 a7 u0 u1 u2 u3 u4 u5 u6 u7 : Value) : ((((((((#[a0, a1, a2, a3, a4, a5, a6, a7] : Array Value).setIfInBounds 0 u0).setIfInBounds 1 u1).setIfInBounds 2 u2).setIfInBounds 3 u3).setIfInBounds 4 u4).setIfInBounds 5 u5).setIfInBounds 6 u6).setIfInBounds 7 u7 = #[u0, u1, u2, u3, u4, u5, u6, u7] := by simp only [List.setIfInBounds_toArray, List.set_cons_zero, List.set_cons_succ]
theorem Keep.put8 {w0 w : World} {l2 : List (Nat × Obj)} {b : Nat} {a0 a1 a2 a3 a4 a5 a6 a7 : Value} {t : TypeId} (l1 : List (Nat × Obj)) (K : Keep w0 (l1 ++ (b, .cells #[a0, a1, a2, a3, a4, a5, a6, a7] t) :: l2) w) (u0 u1 u2 u3 u4 u5 u6 u7 : Value) :
    Keep w0 (l1 ++ (b, .cells #[u0, u1, u2, u3, u4, u5, u6, u7] t) :: l2) ((((((((w.setCell ⟨b, 0, none⟩ u0).setCell ⟨b, 1, none⟩ u1).setCell ⟨b, 2, none⟩ u2).setCell ⟨b, 3, none⟩ u3).setCell ⟨b, 4, none⟩ u4).setCell ⟨b, 5, none⟩ u5).setCell ⟨b, 6, none⟩ u6).setCell ⟨b, 7, none⟩ u7) := by
  have := (((((((K.set l1 0 u0).set l1 1 u1).set l1 2 u2).set l1 3 u3).set l1 4 u4).set l1 5 u5).set l1 6 u6).set l1 7 u7
  rw [set8] at this
  exact this

theorem Turn.set (w : World) (g i : Nat) (u : Value) : Turn (some g) w (w.setCell ⟨g, i, none⟩ u) :=
  ⟨by simp [World.setCell], fun k hk hne => by rw [Below.heap_setCell _ _ _ _ (by show k ≠ g; exact fun e => hne (by rw [e]))]⟩
theorem Turn.trans {o : Option Nat} {a b c : World} (h : Turn o a b) (k : Turn o b c) : Turn o a c := ⟨Nat.le_trans h.1 k.1, fun j hj hne => (k.2 j (Nat.lt_of_lt_of_le hj h.1) hne).trans (h.2 j hj hne)⟩
theorem Turn.put8 (w : World) (g : Nat) (u0 u1 u2 u3 u4 u5 u6 u7 : Value) : Turn (some g) w ((((((((w.setCell ⟨g, 0, none⟩ u0).setCell ⟨g, 1, none⟩ u1).setCell ⟨g, 2, none⟩ u2).setCell ⟨g, 3, none⟩ u3).setCell ⟨g, 4, none⟩ u4).setCell ⟨g, 5, none⟩ u5).setCell ⟨g, 6, none⟩ u6).setCell ⟨g, 7, none⟩ u7) :=
  (((((((Turn.set _ _ _ _).trans (Turn.set _ _ _ _)).trans (Turn.set _ _ _ _)).trans (Turn.set _ _ _ _)).trans (Turn.set _ _ _ _)).trans (Turn.set _ _ _ _)).trans (Turn.set _ _ _ _)).trans (Turn.set _ _ _ _)
theorem Keep.not32 {w0 w : World} {l : List (Nat × Obj)} {b : Nat} {vs : Array Value} {t : TypeId} {v : Value} (K : Keep w0 l w) (m : (b, Obj.cells vs t) ∈ l) (h0 : vs[0]? = some v) (hv : ∀ z, v ≠ .int .u32 z) : ∀ k, some b = some k → ∀ z, w.cell? ⟨k, 0, none⟩ ≠ some (.int .u32 z) := by
  intro k hk z
  injection hk with hk
  subst hk
  rw [K.cell m h0]
  intro e
  injection e with e
  exact hv z e
theorem Keep.tagg {w0 w : World} {l : List (Nat × Obj)} {b : Nat} {vs : Array Value} {t : TypeId} (K : Keep w0 l w) (m : (b, Obj.cells vs t) ∈ l) : Tagged w (some b) t := fun k hk => by
  injection hk with hk
  subst hk
  exact ⟨_, K.box _ m⟩
theorem Keep.set3 {w0 w : World} {l2 : List (Nat × Obj)} (l1 : List (Nat × Obj)) {b : Nat} {a0 a1 a2 a3 a4 a5 a6 a7 : Value} {t : TypeId} (K : Keep w0 (l1 ++ (b, .cells #[a0, a1, a2, a3, a4, a5, a6, a7] t) :: l2) w) (u : Value) : Keep w0 (l1 ++ (b, .cells #[a0, a1, a2, u, a4, a5, a6, a7] t) :: l2) (w.setCell ⟨b, 3, none⟩ u) := by
  have := K.set l1 3 u
  simp only [List.setIfInBounds_toArray, List.set_cons_zero, List.set_cons_succ] at this
  exact this
theorem Keep.set2 {w0 w : World} {l2 : List (Nat × Obj)} (l1 : List (Nat × Obj)) {b : Nat} {a0 a1 a2 a3 a4 a5 a6 a7 : Value} {t : TypeId} (K : Keep w0 (l1 ++ (b, .cells #[a0, a1, a2, a3, a4, a5, a6, a7] t) :: l2) w) (u : Value) : Keep w0 (l1 ++ (b, .cells #[a0, a1, u, a3, a4, a5, a6, a7] t) :: l2) (w.setCell ⟨b, 2, none⟩ u) := by
  have := K.set l1 2 u
  simp only [List.setIfInBounds_toArray, List.set_cons_zero, List.set_cons_succ] at this
  exact this

theorem Lr.turnE {w w' : World} {x : Value} {m N : Nat} {f : Nat → Int} {o : Option Nat} {e : TypeId} (he : e ≠ 30) (h : Lr w x m N f) (hT : Turn o w w') (ho : Tagged w o e) (hc : ∀ k, o = some k → ∀ z, w.cell? ⟨k, 0, none⟩ ≠ some (.int .u32 z)) : Lr w' x m N f := by
  obtain ⟨L, h1, h2, h3⟩ := h
  refine ⟨L, ⟨owns_turn h1.1 hT ho he, fun k hk z => ?_⟩, h2, h3.turn (fun _ _ _ _ hN => hN.turn hT hc)⟩
  have hlt := h1.lt k hk
  have hne : o ≠ some k := by
    intro eo
    obtain ⟨cs, hcs⟩ := ho k eo
    rcases h1.1.2 with ⟨rfl, _⟩ | ⟨g, cap, cur, rfl, hb, hh, _⟩
    · simp [Value.ownBlock] at hk
    · have : g = k := by simpa [Value.ownBlock] using hk
      subst this
      rw [hh] at hcs
      injection hcs with hcs
      injection hcs with _ hcs
      exact he hcs.symm
  rw [cell_of_heap (hT.2 k hlt hne)]
  exact h1.2 k hk z
theorem Mo27.turn {w w' : World} {v : Value} {n N : Nat} {f : Nat → Nat → Int} {o : Option Nat} {e : TypeId} (h : Mo27 w v n N f) (hT : Turn o w w') (ho : Tagged w o e) (he : e ≠ 30) (he2 : e ≠ 27) (hc : ∀ k, o = some k → ∀ z, w.cell? ⟨k, 0, none⟩ ≠ some (.int .u32 z)) : Mo27 w' v n N f := by
  obtain ⟨vs, h1, h2, h3⟩ := h
  exact ⟨vs, h1.turn hT ho he2, h2, h3.mono fun j x _ hx => hx.turnE he hT ho hc⟩

set_option maxHeartbeats 8000000 in
set_option maxRecDepth 100000 in
theorem new_any (rv : Value) (rs : List Rw) (n : Nat) (w : World) (h : Rws w rv rs) (h1 : 1 ≤ n) (h2 : n ≤ 11) (h3 : rs.length ≤ 60) (lc : ∀ r ∈ rs, r.coef.length ≤ 4611686018427387904) :
    Calls Tryz.prog 7 #[.int .i64 n, rv] w fun e w' => ((e = .returned (.tuple #[.agg gzero, .int .i64 160]) ∧ ¬ ∀ r ∈ rs, RwOk r n) ∨ ∃ pv qv dn ds, e = .returned (.tuple #[.agg #[.int .i64 n, rv, pv, qv, .bool false, .slice none 0 0, .bool dn, ds], .int .i64 0]) ∧ Gz w' rv pv qv false (.slice none 0 0) dn ds n rs) ∧ Below w.heap.size w w' := by
  have K := Lib.hid (Keep.begin2 w (.cells #[.int .i64 n] 3) (.cells #[.int .i64 0, .slice none 0 0, .slice none 0 0, .slice none 0 0, .bool false, .slice none 0 0, .bool false, .slice none 0 0] 34))
  have HR := Lib.hid h; have LC := Lib.hid lc
  obtain ⟨RA, rc, rfl, -⟩ := h
  clear lc
  go_enter Tryz.func7, Tryz.ntmps7
  go_upto_region 1 with fail
  (refine out_keep K.out ?_; clear K; intro W K; replace K := Lib.hid K)
  have x0 := K.out.cell (k := 0) (.tail _ (.head _)) rfl
  have HC : Hid (Cap W w.heap.size (.int .i64 n)) := Lib.hid ⟨K.out.lt (.tail _ (.head _)), K.out.cell (.tail _ (.head _)) rfl⟩
  go_wp2_with fail
  refine (contains25_any _ rs w.heap.size n W (HR.out.below K.out.B) (by omega) HC.out (by omega) LC.out).mono ?_
  rintro e w2 ⟨b, rfl, hb0, hb⟩
  replace K := Lib.hid (Keep.stays _ _ K.out hb)
  have HB := Lib.hid hb0
  clear hb hb0 x0 HC
  by_cases hbn : 0 ≤ b
  · have HBAD : Hid (¬ ∀ r ∈ rs, RwOk r n) := fun h => absurd (HB.out.2 h) (by omega)
    clear HB
    have f1 := fun o => K.out.warm (.head _) o
    have y0 := K.out.cell (k := 0) (.head _) rfl
    have y1 := K.out.cell (k := 1) (.head _) rfl
    have y2 := K.out.cell (k := 2) (.head _) rfl
    have y3 := K.out.cell (k := 3) (.head _) rfl
    have y4 := K.out.cell (k := 4) (.head _) rfl
    have y5 := K.out.cell (k := 5) (.head _) rfl
    have y6 := K.out.cell (k := 6) (.head _) rfl
    have y7 := K.out.cell (k := 7) (.head _) rfl
    go_wp2_with fail
    have K2 := Lib.hid (Keep.put8 [] K.out (.int .i64 0) (.slice none 0 0) (.slice none 0 0) (.slice none 0 0) (.bool false) (.slice none 0 0) (.bool false) (.slice none 0 0))
    refine ret_g1 Tryz.results7 rfl (K2.out.gb (.head _)) ?_
    exact ⟨.inl ⟨rfl, HBAD.out⟩, K2.out.B⟩
  · have HOK := Lib.hid (HB.out.1 (by omega))
    clear HB
    go_upto_region 7 with fail
    refine region_float1 _ 5 ⟨4, 6, .cells #[.int .i64 0, .slice none 0 0, .slice none 0 0, .slice none 0 0, .bool false, .slice none 0 0, .bool false, .slice none 0 0] 34⟩ ([(0, 0), (0, 1), (2, 2), (0, 3)]) (by kernel_rfl) (by kernel_rfl) ⟨_, rfl, rfl, rfl, fun a w => rfl, fun md e he => by simp at he⟩ (fun _ _ d _ _ => by cases d <;> exact Iff.rfl) Keep.stays K.out.drew ?_
    clear K; intro W3 K hbw; replace K := Lib.hid K; have K0 := K
    clear hbw
    have x0 := Keep.acell (k := 0) K (.tail _ (.head _)) rfl
    (refine Ph.read rfl (by rfl) ?_; apply Exists.intro; refine ⟨fun p => ?_, ?_⟩; (focus (go_simp; (try (with_reducible rfl)); done)); (try simp only [Act.put, List.setIfInBounds_toArray, List.set_cons_zero, List.set_cons_succ]))
    (refine Ph.read rfl (by rfl) ?_; apply Exists.intro; refine ⟨fun p => ?_, ?_⟩; (focus (go_simp; (try (with_reducible rfl)); done)); (try simp only [Act.put, List.setIfInBounds_toArray, List.set_cons_zero, List.set_cons_succ]))
    clear x0
    (refine Ph.call (f := 19) (args := (#[.int .i64 1])) rfl (by rfl) (by (intro w2; go_simp; try (with_reducible rfl))) ?_; intro w2 hb; replace K := Lib.hid (Keep.stays _ _ K.out hb))
    clear hb
    refine (int_nz 1 _ (by omega) (by omega)).mono ?_
    rintro e w4 ⟨dn, DA, dl, dc, rfl, hN, hb⟩
    (refine ⟨_, rfl, hb, ?_⟩; replace K := Lib.hid (Keep.stays _ _ K.out hb); (try simp only [Act.put, List.setIfInBounds_toArray, List.set_cons_zero, List.set_cons_succ]))
    have HN := Lib.hid hN
    clear hb hN
    (refine Ph.read rfl (by rfl) ?_; apply Exists.intro; refine ⟨fun p => ?_, ?_⟩; (focus (go_simp; (try (with_reducible rfl)); done)); (try simp only [Act.put, List.setIfInBounds_toArray, List.set_cons_zero, List.set_cons_succ]))
    (intro w2 hb gt hg hge; replace K := Lib.hid (K0.out.held (Keep.stays _ _ K.out hb) hg hge); clear hg hge K0; simp only [ptr, List.drop_succ_cons, List.drop_zero, Act.put, List.setIfInBounds_toArray, List.set_cons_zero, List.set_cons_succ])
    replace HN := Lib.hid (HN.out.below hb)
    clear hb
    have y0 := K.out.cell (k := 0) (.head _) rfl
    have y1 := K.out.cell (k := 1) (.head _) rfl
    have y2 := K.out.cell (k := 2) (.head _) rfl
    have y3 := K.out.cell (k := 3) (.head _) rfl
    have y4 := K.out.cell (k := 4) (.head _) rfl
    have y5 := K.out.cell (k := 5) (.head _) rfl
    have y6 := K.out.cell (k := 6) (.head _) rfl
    have y7 := K.out.cell (k := 7) (.head _) rfl
    have f1 := fun o => K.out.warm (.head _) o
    go_upto_region 8 with fail
    clear y0 y1 y2 y3 y4 y5 y6 y7 f1
    refine out_with (B := fun W => Nz W dn (.slice DA dl dc) 1 2) (Keep.put8 [] K.out (.int .i64 n) (.slice RA rs.length rc) (.slice none 0 0) (.slice none 0 0) (.bool false) (.slice none 0 0) (.bool dn) (.slice DA dl dc)) ?_ ?_
    · exact HN.out.turn (Turn.put8 w2 gt _ _ _ _ _ _ _ _) (K.out.not32 (.head _) rfl (by intro z e; cases e))
    clear K HN
    intro W5 K HN
    replace K := Lib.hid K
    replace HN := Lib.hid HN
    have hmk := mk_lst n (by omega) n rfl
    have x0 := K.out.cell (k := 0) (.tail _ (.tail _ (.head _))) rfl
    have hlt := K.out.lt (.head _)
    have hne : (gt : Nat) ≠ W5.heap.size := Nat.ne_of_lt hlt
    have y3 := K.out.cell (k := 3) (.head _) rfl
    have f1 := fun o => K.out.warm (.head _) o
    have K2 := K.out.alloc (Obj.lst (List.replicate n Nm.zero))
    have z3 := K2.cell (k := 3) (.tail _ (.head _)) rfl
    have h1' := fun o => K2.warm (.tail _ (.head _)) o
    clear K2
    go_upto_region 9 with fail
    clear hmk x0 y3 z3 f1 h1' hlt hne
    have hne32 := K.out.not32 (.head _) rfl (by intro z e; cases e)
    replace HN := Lib.hid (HN.out.turn (Turn.set W5 gt 3 (.slice (some ⟨W5.heap.size, 0, none⟩) n n)) hne32)
    replace K := Lib.hid (Keep.set3 [] K.out (.slice (some ⟨W5.heap.size, 0, none⟩) n n))
    replace HN := Lib.hid (HN.out.below (below_one _ (Obj.lst (List.replicate n Nm.zero))))
    replace K := Lib.hid (K.out.alloc (Obj.lst (List.replicate n Nm.zero)))
    have hsz : (W5.setCell ⟨gt, 3, none⟩ (.slice (some ⟨W5.heap.size, 0, none⟩) n n)).heap.size = W5.heap.size := by simp [World.setCell]
    rw [hsz] at K
    clear hsz hne32
    generalize W5.heap.size = g8 at *
    refine out_with (B := fun W => Nz W dn (.slice DA dl dc) 1 2) K.out HN.out ?_
    clear K HN
    intro W6 K HN
    replace K := Lib.hid K
    replace HN := Lib.hid HN
    have y0 := K.out.cell (k := 0) (.tail _ (.head _)) rfl
    have y1 := K.out.cell (k := 1) (.tail _ (.head _)) rfl
    have y2 := K.out.cell (k := 2) (.tail _ (.head _)) rfl
    have y3 := K.out.cell (k := 3) (.tail _ (.head _)) rfl
    have y4 := K.out.cell (k := 4) (.tail _ (.head _)) rfl
    have y5 := K.out.cell (k := 5) (.tail _ (.head _)) rfl
    have y6 := K.out.cell (k := 6) (.tail _ (.head _)) rfl
    have y7 := K.out.cell (k := 7) (.tail _ (.head _)) rfl
    have f1 := fun o => K.out.warm (.tail _ (.head _)) o
    go_wp2_with fail
    refine (made29_any (.bool false) _ _ _ false dn _ _ n 0 (fun _ _ => 0) W6 (fun i j _ _ w' _ => zero29_any i j w') (by omega) ⟨⟨RA, _, rc, rfl⟩, ⟨none, 0, 0, rfl⟩, ⟨_, _, _, rfl⟩, ⟨none, 0, 0, rfl⟩, ⟨DA, dl, dc, rfl⟩⟩).mono ?_
    rintro e w7 ⟨v, rfl, hM, hb⟩
    obtain ⟨PA, pc, rfl, -⟩ : ∃ A c, v = .slice A n c ∧ True := by obtain ⟨A, c, h, -⟩ := hM.mv; exact ⟨A, c, h, trivial⟩
    replace K := Lib.hid (Keep.stays _ _ K.out hb)
    replace HN := Lib.hid (HN.out.below hb)
    have HM := Lib.hid hM
    clear hb hM y0 y1 y2 y3 y4 y5 y6 y7 f1
    have y0 := K.out.cell (k := 0) (.tail _ (.head _)) rfl
    have y1 := K.out.cell (k := 1) (.tail _ (.head _)) rfl
    have y2 := K.out.cell (k := 2) (.tail _ (.head _)) rfl
    have y3 := K.out.cell (k := 3) (.tail _ (.head _)) rfl
    have y4 := K.out.cell (k := 4) (.tail _ (.head _)) rfl
    have y5 := K.out.cell (k := 5) (.tail _ (.head _)) rfl
    have y6 := K.out.cell (k := 6) (.tail _ (.head _)) rfl
    have y7 := K.out.cell (k := 7) (.tail _ (.head _)) rfl
    have f1 := fun o => K.out.warm (.tail _ (.head _)) o
    go_upto_region 10 with fail
    clear y0 y1 y2 y3 y4 y5 y6 y7 f1
    have hne32 := K.out.not32 (.tail _ (.head _)) rfl (by intro z e; cases e)
    have htag := K.out.tagg (.tail _ (.head _))
    have hT := Turn.set w7 gt 2 (.slice PA n pc)
    replace HN := Lib.hid (HN.out.turn hT hne32)
    replace HM := Lib.hid (HM.out.turn hT htag (by decide) (by decide) hne32)
    replace K := Lib.hid (Keep.set2 [_] K.out (.slice PA n pc))
    clear hne32 htag hT
    refine out_with (B := fun W => Nz W dn (.slice DA dl dc) 1 2 ∧ Mo27 W (.slice PA n pc) n 0 (fun _ _ => 0)) K.out ⟨HN.out, HM.out⟩ ?_
    clear K HN HM
    intro W8 K HN
    replace K := Lib.hid K
    replace HN := Lib.hid HN
    have y0 := K.out.cell (k := 0) (.tail _ (.head _)) rfl
    have y1 := K.out.cell (k := 1) (.tail _ (.head _)) rfl
    have y2 := K.out.cell (k := 2) (.tail _ (.head _)) rfl
    have y3 := K.out.cell (k := 3) (.tail _ (.head _)) rfl
    have y4 := K.out.cell (k := 4) (.tail _ (.head _)) rfl
    have y5 := K.out.cell (k := 5) (.tail _ (.head _)) rfl
    have y6 := K.out.cell (k := 6) (.tail _ (.head _)) rfl
    have y7 := K.out.cell (k := 7) (.tail _ (.head _)) rfl
    have z0 := K.out.cell (k := 0) (.tail _ (.tail _ (.head _))) rfl
    have z1 := K.out.cell (k := 1) (.tail _ (.tail _ (.head _))) rfl
    have z2 := K.out.cell (k := 2) (.tail _ (.tail _ (.head _))) rfl
    have z3 := K.out.cell (k := 3) (.tail _ (.tail _ (.head _))) rfl
    have z4 := K.out.cell (k := 4) (.tail _ (.tail _ (.head _))) rfl
    have z5 := K.out.cell (k := 5) (.tail _ (.tail _ (.head _))) rfl
    have z6 := K.out.cell (k := 6) (.tail _ (.tail _ (.head _))) rfl
    have z7 := K.out.cell (k := 7) (.tail _ (.tail _ (.head _))) rfl
    have f1 := fun o => K.out.warm (.tail _ (.tail _ (.head _))) o
    have hgg : (gt : Nat) ≠ w.heap.size + 1 := by have := K.out.one; simp at this; omega
    have hgg2 := Ne.symm hgg
    go_wp2_with fail
    clear y0 y1 y2 y3 y4 y5 y6 y7 z0 z1 z2 z3 z4 z5 z6 z7 f1 hgg hgg2
    have hne32 := K.out.not32 (.tail _ (.tail _ (.head _))) rfl (by intro z e; cases e)
    have htag := K.out.tagg (.tail _ (.tail _ (.head _)))
    have hT := Turn.put8 W8 (w.heap.size + 1) (.int .i64 n) (.slice RA rs.length rc) (.slice PA n pc) (.slice (some ⟨g8, 0, none⟩) n n) (.bool false) (.slice none 0 0) (.bool dn) (.slice DA dl dc)
    have K2 := Lib.hid (Keep.put8 [_, _] K.out (.int .i64 n) (.slice RA rs.length rc) (.slice PA n pc) (.slice (some ⟨g8, 0, none⟩) n n) (.bool false) (.slice none 0 0) (.bool dn) (.slice DA dl dc))
    replace HN := Lib.hid (And.intro (HN.out.1.turn hT hne32) (HN.out.2.turn hT htag (by decide) (by decide) hne32))
    refine ret_g1 Tryz.results7 rfl (K2.out.gb (.tail _ (.tail _ (.head _)))) ?_
    have hQ : Lo _ 0 (.slice (some ⟨g8, 0, none⟩) n n) n 0 (fun _ => 0) := ⟨g8, _, rfl, Nat.zero_le _, K2.out.gb (.head _), by simp, Els.zero _ _ _⟩
    exact ⟨.inr ⟨_, _, dn, _, rfl, HR.out.below K2.out.B, HOK.out, ⟨HN.out.2.mv, hQ.lv, Nz.nil _⟩, HN.out.1, h3, h2⟩, K2.out.B⟩
end Go.Proofs.YtmidifgnpjlgcaaGreat
