/- The walks of the document's Sub and Quo. -/
import Derived.Test.YtehjfjdopeadfaaDa
set_option linter.unusedVariables false
set_option linter.unusedSimpArgs false
namespace Go.Proofs.Ytehjfjdopeadfaa
open Go.RowKit

theorem out_with {E : World} {A B G : World → Prop} (h1 : A E) (h2 : B E) (g : ∀ W, A W → B W → G W) : G E := g E h1 h2

set_option maxHeartbeats 8000000 in
set_option maxRecDepth 100000 in
theorem sub_num (n m : Bool) (s t : Value) (a b : List Int) (w : World) (h1 : Num w n s a) (h2 : Num w m t b) (l1 : a.length ≤ 1000) (l2 : b.length ≤ 1000) :
    Calls Try.prog 102 #[.agg #[.bool n, s], .agg #[.bool m, t]] w fun e w' => ∃ q v out, e = .returned (.agg #[.bool q, v]) ∧ Num w' q v out ∧ zof q out = zof n a - zof m b ∧ out.length ≤ max a.length b.length + 1 ∧ Below w.heap.size w w' := by
  obtain ⟨A, c, rfl, ha⟩ := h1.1.len
  obtain ⟨B, d, rfl, hb⟩ := h2.1.len
  have K := Lib.hid (Keep.begin3 w (Obj.num n (.slice A a.length c)) (Obj.num m (.slice B b.length d)) (Obj.num false (.slice none 0 0)))
  have H1 := Lib.hid h1; have H2 := Lib.hid h2
  clear ha hb h1 h2
  go_enter Try.func102, Try.ntmps102
  go_upto_region 1 with fail
  (refine out_keep K.out ?_; clear K; intro W K; replace K := Lib.hid K)
  (refine region_ord _ 4 (by kernel_rfl) (by kernel_rfl) K.out.drew ?_; clear K; intro W K hbw; replace K := Lib.hid K)
  obtain ⟨e10, e11⟩ := Keep.anm K (.tail _ (.tail _ (.head _)))
  obtain ⟨e20, e21⟩ := Keep.anm K (.tail _ (.head _))
  (refine Ord.take' 0 rfl (by kernel_rfl) (fun _ _ _ _ h => h) K.out (by rfl) ?_; apply Exists.intro; refine ⟨fun p => ?_, ?_⟩; (focus (go_simp; (try (with_reducible rfl)); done)); (try simp only [Act.put, List.setIfInBounds_toArray, List.set_cons_zero, List.set_cons_succ]))
  (refine Ord.take' 1 rfl (by kernel_rfl) (fun _ _ _ _ h => h) K.out (by rfl) ?_; apply Exists.intro; refine ⟨fun p => ?_, ?_⟩; (focus (go_simp; (try (with_reducible rfl)); done)); (try simp only [Act.put, List.setIfInBounds_toArray, List.set_cons_zero, List.set_cons_succ]))
  (refine Ord.call 2 (g := 94) (args := (#[.agg #[.bool m, .slice B b.length d]])) rfl (by kernel_rfl) (by rfl) (by (go_simp; try (with_reducible rfl))) ?_)
  refine (minus_any m _ b _ (H2.out.below K.out.B) (by omega)).mono ?_
  rintro e w2 ⟨m', t', b', rfl, hN, hz, hl, hb⟩
  obtain ⟨A2, c2, rfl, -⟩ := hN.1.len
  (refine ⟨_, rfl, Keep.stays _ _ K.out hb, ?_⟩; replace K := Lib.hid (Keep.stays _ _ K.out hb); simp only [Act.put, List.setIfInBounds_toArray, List.set_cons_zero, List.set_cons_succ])
  clear hb
  (refine Ord.call 3 (g := 91) (args := (#[.agg #[.bool n, .slice A a.length c], .agg #[.bool m', .slice A2 b'.length c2]])) rfl (by kernel_rfl) (by rfl) (by (go_simp; try (with_reducible rfl))) ?_)
  refine (add_num n m' _ _ a b' _ (H1.out.below K.out.B) hN l1 (by omega)).mono ?_
  rintro e w3 ⟨n2, s2, d2, rfl, hN2, hz2, hl2, hb⟩
  obtain ⟨A3, c3, rfl, -⟩ := hN2.1.len
  (refine ⟨_, rfl, Keep.stays _ _ K.out hb, ?_⟩; replace K := Lib.hid (Keep.stays _ _ K.out hb); simp only [Act.put, List.setIfInBounds_toArray, List.set_cons_zero, List.set_cons_succ])
  have HN := Lib.hid hN2
  have HV : Hid (zof n2 d2 = zof n a - zof m b) := by
    show _ = _
    rw [hz2, hz]
    omega
  clear hb hN hN2 hz hz2 e10 e11 e20 e21 hbw
  (refine Ord.done (by kernel_rfl) ?_; simp only [List.drop_succ_cons, List.drop_zero, Act.put, List.setIfInBounds_toArray, List.set_cons_zero, List.set_cons_succ])
  obtain ⟨f1, c10, c11⟩ := K.out.nm (.head _)
  go_wp2_with fail
  refine ret_nm Try.results102 rfl ((K.out.putn_0 n2 _).nb (.head _)) ?_
  exact ⟨n2, _, d2, rfl, HN.out.put (K.out.nm (.head _)).2.1 _ _, HV.out, by omega, (K.out.putn_0 n2 _).B⟩

theorem fl_unique {x y Q R : Int} (h : x = Q * y + R) (hr : (0 ≤ R ∧ R < y) ∨ (y < R ∧ R ≤ 0)) : SpMath.fl x y = Q := by
  unfold SpMath.fl
  rcases hr with ⟨h1, h2⟩ | ⟨h1, h2⟩
  · rw [if_pos (by omega), h, Int.add_comm, Int.add_mul_ediv_right _ _ (by omega), Int.ediv_eq_zero_of_lt h1 h2]
    omega
  · rw [if_neg (by omega), h, show -(Q * y + R) = -R + Q * -y by rw [Int.mul_neg]; omega, Int.add_mul_ediv_right _ _ (by omega), Int.ediv_eq_zero_of_lt (by omega) (by omega)]
    omega

theorem quo_keep {n m : Bool} {A B Q R : Int} (h : A = Q * B + R) (h0 : 0 ≤ R) (h1 : R < B) (hc : R = 0 ∨ n = m) : SpMath.fl (if n then -A else A) (if m then -B else B) = if !n == m then -Q else Q := by
  rcases hc with rfl | rfl
  · cases n <;> cases m <;> simp only [Bool.false_eq_true, if_false, if_true]
    · exact fl_unique (R := 0) (by simp_all) (by omega)
    · exact fl_unique (R := 0) (by simp_all [Int.neg_mul_neg]) (by omega)
    · exact fl_unique (R := 0) (by simp_all [Int.neg_mul]) (by omega)
    · exact fl_unique (R := 0) (by simp_all [Int.mul_neg]) (by omega)
  · cases n <;> simp only [Bool.false_eq_true, if_false, if_true]
    · exact fl_unique (R := R) (by simp_all) (by omega)
    · exact fl_unique (R := -R) (by simp only [h, beq_self_eq_true, Bool.not_true, Bool.false_eq_true, if_false]; rw [Int.mul_neg]; omega) (by omega)
theorem quo_less {n m : Bool} {A B Q R : Int} (h : A = Q * B + R) (h0 : 0 < R) (h1 : R < B) (hc : n ≠ m) : SpMath.fl (if n then -A else A) (if m then -B else B) = (if !n == m then -Q else Q) - 1 := by
  cases n <;> cases m <;> simp only [Bool.false_eq_true, if_false, if_true] <;> first | exact absurd rfl hc | skip
  · refine fl_unique (R := R - B) ?_ (by omega)
    have : (!false == true) = true := rfl
    rw [this, if_pos rfl, Int.sub_mul, Int.neg_mul_neg]
    omega
  · refine fl_unique (R := B - R) ?_ (by omega)
    have : (!true == false) = true := rfl
    rw [this, if_pos rfl, Int.sub_mul, Int.neg_mul]
    omega

theorem ret_nm3 {fn : Func} {p q u g k : Nat} {tmps : Array Value} {w : World} {n m : Bool} {s t : Value} {R : Ending → World → Prop} (h : fn.results = #[.cell p 79, .cell q 79, .tmp u]) (hp : tmps.getD p undef = .pointer (some ⟨g, 0, none⟩)) (hq : tmps.getD q undef = .pointer (some ⟨k, 0, none⟩))
    (hb : w.heap[g]? = some (Obj.num n s)) (hk : w.heap[k]? = some (Obj.num m t)) (hR : R (.returned (.tuple #[.agg #[.bool n, s], .agg #[.bool m, t], tmps.getD u undef])) w) : bodyPost Try.prog fn R .ret { tmps := tmps, defers := [] } w := by
  refine bodyPost_ret ?_ rfl hR
  have hp' : tmps[p]?.getD undef = .pointer (some ⟨g, 0, none⟩) := by simpa using hp
  have hq' : tmps[q]?.getD undef = .pointer (some ⟨k, 0, none⟩) := by simpa using hq
  have e1 := run_loadVar_row (P := Try.prog) w g 79 79 _ _ _ hb Try.underlying79 rfl (by kernel_rfl)
  have e2 := run_loadVar_row (P := Try.prog) w k 79 79 _ _ _ hk Try.underlying79 rfl (by kernel_rfl)
  simp [results, h, hp', hq', asAddr, e1, e2]
theorem ret_nm2 {fn : Func} {p u g : Nat} {tmps : Array Value} {w : World} {n : Bool} {s : Value} {R : Ending → World → Prop} (h : fn.results = #[.cell p 79, .tmp u]) (hp : tmps.getD p undef = .pointer (some ⟨g, 0, none⟩))
    (hb : w.heap[g]? = some (Obj.num n s)) (hR : R (.returned (.tuple #[.agg #[.bool n, s], tmps.getD u undef])) w) : bodyPost Try.prog fn R .ret { tmps := tmps, defers := [] } w := by
  refine bodyPost_ret ?_ rfl hR
  have hp' : tmps[p]?.getD undef = .pointer (some ⟨g, 0, none⟩) := by simpa using hp
  have e1 := run_loadVar_row (P := Try.prog) w g 79 79 _ _ _ hb Try.underlying79 rfl (by kernel_rfl)
  simp [results, h, hp', asAddr, e1]

set_option maxHeartbeats 8000000 in
set_option maxRecDepth 100000 in
theorem quo_any (n m : Bool) (s t : Value) (a b : List Int) (w : World) (h1 : Num w n s a) (h2 : Num w m t b) (hb0 : b ≠ []) (l1 : a.length ≤ 900) (l2 : b.length ≤ 900) :
    Calls Try.prog 93 #[.agg #[.bool n, s], .agg #[.bool m, t]] w fun e w' => ∃ q v out rn rA rl rk, e = .returned (.tuple #[.agg #[.bool q, v], .agg #[.bool rn, .slice rA rl rk], .int .i64 0]) ∧ Num w' q v out ∧ zof q out = SpMath.fl (zof n a) (zof m b) ∧ out.length ≤ a.length + 20 ∧ Below w.heap.size w w' := by
  obtain ⟨A, c, rfl, ha⟩ := h1.1.len
  obtain ⟨B, d, rfl, hb⟩ := h2.1.len
  have K := Lib.hid (Keep.begin4 w (Obj.num n (.slice A a.length c)) (Obj.num m (.slice B b.length d)) (Obj.num false (.slice none 0 0)) (Obj.num false (.slice none 0 0)))
  have H1 := Lib.hid h1; have H2 := Lib.hid h2
  have hbl : 0 < b.length := List.length_pos_iff.2 hb0
  have HB0 := Lib.hid (val_pos H2.out.2.1 H2.out.2.2.1 hb0)
  clear ha hb h1 h2 hb0
  go_enter Try.func93, Try.ntmps93
  go_upto_region 1 with fail
  (refine out_keep K.out ?_; clear K; intro W K; replace K := Lib.hid K)
  obtain ⟨f1, c10, c11⟩ := K.out.nm (.tail _ (.tail _ (.tail _ (.head _))))
  obtain ⟨f2, c20, c21⟩ := K.out.nm (.tail _ (.tail _ (.head _)))
  go_wp2_with fail
  refine (parted_any _ _ a b _ (H1.out.1.below K.out.B) (H2.out.1.below K.out.B) H1.out.2.1 H2.out.2.1 H2.out.2.2.1 HB0.out (by omega) (by omega)).mono ?_
  rintro e w2 ⟨u, v, qs, rs, rfl, hq, hr, dq, dr, cr, lq, lr, hv, hlt, hb⟩
  obtain ⟨A1, k1, rfl, -⟩ := hq.len
  obtain ⟨A2, k2, rfl, -⟩ := hr.len
  replace K := Lib.hid (Keep.stays _ _ K.out hb)
  clear hb f1 c10 c11 f2 c20 c21
  obtain ⟨f1, c10, c11⟩ := K.out.nm (.tail _ (.tail _ (.tail _ (.head _))))
  obtain ⟨f2, c20, c21⟩ := K.out.nm (.tail _ (.tail _ (.head _)))
  rw [lq] at hq
  have HQ := Lib.hid hq; have HR := Lib.hid hr; have DQ := Lib.hid dq; have DR := Lib.hid dr; have CR := Lib.hid cr; have HV := Lib.hid hv; have HLT := Lib.hid hlt
  clear hq hr dq dr cr hv hlt
  go_wp2_with fail
  refine (mad_any (!n == m) _ qs _ HQ.out DQ.out (by omega)).mono ?_
  rintro e w3 ⟨n3, s3, d3, rfl, hN, hv3, hl3, hn3, hb⟩
  obtain ⟨A3, k3, rfl, -⟩ := hN.1.len
  replace K := Lib.hid (Keep.stays _ _ K.out hb)
  replace HR := Lib.hid (HR.out.below hb)
  have HN := Lib.hid hN
  have HZ := Lib.hid ((made_zof hn3).trans (by rw [hv3]))
  clear hb f1 c10 c11 f2 c20 c21 hN hv3 hn3 HQ
  go_upto_region 5 with fail
  replace K := Lib.hid (K.out.alloc (Obj.num n3 (.slice A3 d3.length k3)))
  replace HN := Lib.hid (HN.out.below (below_one _ (Obj.num n3 (.slice A3 d3.length k3))))
  replace HR := Lib.hid (HR.out.below (below_one _ (Obj.num n3 (.slice A3 d3.length k3))))
  generalize w3.heap.size = g9 at *
  refine out_with (B := fun W => Num W n3 (.slice A3 d3.length k3) d3 ∧ Dg W (.slice A2 rs.length k2) rs) K.out (And.intro HN.out HR.out) ?_
  clear K HN HR
  intro W4 K hh
  replace K := Lib.hid K
  have HN := Lib.hid hh.1
  have HR := Lib.hid hh.2
  clear hh
  obtain ⟨f1, c10, c11⟩ := K.out.nm (.tail _ (.tail _ (.tail _ (.tail _ (.head _)))))
  go_wp2_with fail
  refine (mad_any n _ rs _ HR.out DR.out (by omega)).mono ?_
  rintro e w5 ⟨n5, s5, d5, rfl, hN, hv5, hl5, hn5, hb⟩
  obtain ⟨A5, k5, rfl, -⟩ := hN.1.len
  replace K := Lib.hid (Keep.stays _ _ K.out hb)
  replace HN := Lib.hid (HN.out.below hb)
  have HN5 := Lib.hid hN
  have HF : Hid ((d5.length = 0 ∨ n5 = m → SpMath.fl (zof n a) (zof m b) = zof n3 d3) ∧ (0 < d5.length → n5 ≠ m → SpMath.fl (zof n a) (zof m b) = zof n3 d3 - 1)) := by
    have r0 := (val_bounds rs DR.out).1
    refine ⟨fun hc => ?_, fun h1 h2 => ?_⟩
    · rw [HZ.out]
      refine quo_keep HV.out r0 HLT.out ?_
      by_cases e : d5 = []
      · rw [← hv5, e]; exact .inl rfl
      · right
        have : n5 = n := by rw [hn5]; simp [e]
        rw [← this]
        exact hc.resolve_left (fun h => e (List.length_eq_zero_iff.1 h))
    · have e : d5 ≠ [] := List.length_pos_iff.1 h1
      have : n5 = n := by rw [hn5]; simp [e]
      rw [HZ.out]
      refine quo_less HV.out ?_ HLT.out (by rw [← this]; exact h2)
      rw [← hv5]
      exact val_pos hN.2.1 hN.2.2.1 e
  clear hb f1 c10 c11 hN hv5 hn5 HR
  go_upto_region 6 with fail
  replace K := Lib.hid (K.out.alloc (Obj.num n5 (.slice A5 d5.length k5)))
  replace HN := Lib.hid (HN.out.below (below_one _ (Obj.num n5 (.slice A5 d5.length k5))))
  replace HN5 := Lib.hid (HN5.out.below (below_one _ (Obj.num n5 (.slice A5 d5.length k5))))
  generalize w5.heap.size = g10 at *
  refine out_with (B := fun W => Num W n3 (.slice A3 d3.length k3) d3 ∧ Num W n5 (.slice A5 d5.length k5) d5) K.out (And.intro HN.out HN5.out) ?_
  clear K HN HN5
  intro W6 K hh
  replace K := Lib.hid K
  have HN := Lib.hid hh.1
  have HN5 := Lib.hid hh.2
  clear hh
  obtain ⟨f1, c10, c11⟩ := K.out.nm (.head _)
  obtain ⟨f2, c20, c21⟩ := K.out.nm (.tail _ (.tail _ (.tail _ (.tail _ (.head _)))))
  by_cases hd5 : d5.length = 0
  · have h5 : ¬ (0 : Int) < (d5.length : Int) := by omega
    have HE := Lib.hid (HF.out.1 (.inl hd5))
    clear hd5
    go_wp2_with fail
    clear f1 c10 c11 f2 c20 c21
    (obtain ⟨f1, c10, c11⟩ := K.out.nm (.head _); obtain ⟨f2, c20, c21⟩ := K.out.nm (.tail _ (.head _)); obtain ⟨f3, c30, c31⟩ := K.out.nm (.tail _ (.tail _ (.head _))); obtain ⟨f4, c40, c41⟩ := K.out.nm (.tail _ (.tail _ (.tail _ (.head _)))); have hne : w.heap.size + 1 + 1 ≠ g10 := by have := K.out.one; simp at this; omega)
    go_region
    clear f1 c10 c11 f2 c20 c21 f3 c30 c31 f4 c40 c41 hne
    (go_wp2_with fail; refine ret_nm3 Try.results93 rfl rfl ((((K.out.putn_3 _ _).putn_2 _ _).drew).nb (.tail _ (.tail _ (.tail _ (.head _))))) ((((K.out.putn_3 _ _).putn_2 _ _).drew).nb (.tail _ (.tail _ (.head _)))) ?_; exact ⟨n3, _, d3, _, _, _, _, rfl, ((HN.out.put (K.out.nm (.tail _ (.tail _ (.tail _ (.head _))))).2.1 _ _).put ((K.out.putn_3 _ _).nm (.tail _ (.tail _ (.head _)))).2.1 _ _).below (below_drew _), HE.out.symm, by omega, ((K.out.putn_3 _ _).putn_2 _ _).drew.B⟩)
  · have h5 : (0 : Int) < (d5.length : Int) := by omega
    by_cases hnm : n5 = m
    · have h6 : (!n5 == m) = false := by rw [hnm]; simp
      have HE := Lib.hid (HF.out.1 (.inr hnm))
      clear hnm
      go_wp2_with fail
      clear f1 c10 c11 f2 c20 c21
      (obtain ⟨f1, c10, c11⟩ := K.out.nm (.head _); obtain ⟨f2, c20, c21⟩ := K.out.nm (.tail _ (.head _)); obtain ⟨f3, c30, c31⟩ := K.out.nm (.tail _ (.tail _ (.head _))); obtain ⟨f4, c40, c41⟩ := K.out.nm (.tail _ (.tail _ (.tail _ (.head _)))); have hne : w.heap.size + 1 + 1 ≠ g10 := by have := K.out.one; simp at this; omega)
      go_region
      clear f1 c10 c11 f2 c20 c21 f3 c30 c31 f4 c40 c41 hne
      (go_wp2_with fail; refine ret_nm3 Try.results93 rfl rfl ((((K.out.putn_3 _ _).putn_2 _ _).drew).nb (.tail _ (.tail _ (.tail _ (.head _))))) ((((K.out.putn_3 _ _).putn_2 _ _).drew).nb (.tail _ (.tail _ (.head _)))) ?_; exact ⟨n3, _, d3, _, _, _, _, rfl, ((HN.out.put (K.out.nm (.tail _ (.tail _ (.tail _ (.head _))))).2.1 _ _).put ((K.out.putn_3 _ _).nm (.tail _ (.tail _ (.head _)))).2.1 _ _).below (below_drew _), HE.out.symm, by omega, ((K.out.putn_3 _ _).putn_2 _ _).drew.B⟩)
    · have h6 : (!n5 == m) = true := by cases n5 <;> cases m <;> simp_all
      have HE := Lib.hid (HF.out.2 (by omega) hnm)
      clear hnm
      go_wp2_with fail
      clear f1 c10 c11 f2 c20 c21
      have HW := Lib.hid (And.intro HN.out HN5.out)
      clear HN HN5
      (refine region_ord _ 3 (by kernel_rfl) (by kernel_rfl) K.out.drew ?_; clear K; intro W K hbw; replace K := Lib.hid K)
      replace HW : Hid (Num W n3 (.slice A3 d3.length k3) d3 ∧ Num W n5 (.slice A5 d5.length k5) d5) := ⟨HW.out.1.below hbw, HW.out.2.below hbw⟩
      clear hbw
      obtain ⟨e10, e11⟩ := Keep.anm K (.tail _ (.head _))
      (refine Ord.take' 0 rfl (by kernel_rfl) (fun _ _ _ _ h => h) K.out (by rfl) ?_; apply Exists.intro; refine ⟨fun p => ?_, ?_⟩; (focus (go_simp; (try (with_reducible rfl)); done)); (try simp only [Act.put, List.setIfInBounds_toArray, List.set_cons_zero, List.set_cons_succ]))
      (refine Ord.call 1 (g := 84) (args := (#[.int .i64 1])) rfl (by kernel_rfl) (by rfl) (by (go_simp; try (with_reducible rfl))) ?_)
      refine (int_any 1 _ (by omega) (by omega)).mono ?_
      rintro e w7 ⟨n7, s7, d7, rfl, hN7, hz7, hl7, hb⟩
      obtain ⟨A7, k7, rfl, -⟩ := hN7.1.len
      (refine ⟨_, rfl, Keep.stays _ _ K.out hb, ?_⟩; replace K := Lib.hid (Keep.stays _ _ K.out hb); simp only [Act.put, List.setIfInBounds_toArray, List.set_cons_zero, List.set_cons_succ])
      replace HW : Hid (Num w7 n3 (.slice A3 d3.length k3) d3 ∧ Num w7 n5 (.slice A5 d5.length k5) d5) := ⟨HW.out.1.below hb, HW.out.2.below hb⟩
      clear hb
      (refine Ord.call 2 (g := 102) (args := (#[.agg #[.bool n3, .slice A3 d3.length k3], .agg #[.bool n7, .slice A7 d7.length k7]])) rfl (by kernel_rfl) (by rfl) (by (go_simp; try (with_reducible rfl))) ?_)
      refine (sub_num n3 n7 _ _ d3 d7 _ HW.out.1 hN7 (by omega) (by omega)).mono ?_
      rintro e w8 ⟨n8, s8, d8, rfl, hN8, hz8, hl8, hb⟩
      obtain ⟨A8, k8, rfl, -⟩ := hN8.1.len
      (refine ⟨_, rfl, Keep.stays _ _ K.out hb, ?_⟩; replace K := Lib.hid (Keep.stays _ _ K.out hb); simp only [Act.put, List.setIfInBounds_toArray, List.set_cons_zero, List.set_cons_succ])
      replace HW : Hid (Num w8 n8 (.slice A8 d8.length k8) d8 ∧ Num w8 n5 (.slice A5 d5.length k5) d5) := ⟨hN8, HW.out.2.below hb⟩
      replace HE : Hid (SpMath.fl (zof n a) (zof m b) = zof n8 d8) := by show _ = _; rw [hz8, hz7, HE.out]
      clear hb hN7 hN8 hz7 hz8 e10 e11
      (refine Ord.done (by kernel_rfl) ?_; simp only [List.drop_succ_cons, List.drop_zero, Act.put, List.setIfInBounds_toArray, List.set_cons_zero, List.set_cons_succ])
      obtain ⟨f2, c20, c21⟩ := K.out.nm (.tail _ (.head _))
      go_upto_region 8 with fail
      refine out_with (B := fun W => Num W n8 (.slice A8 d8.length k8) d8 ∧ Num W n5 (.slice A5 d5.length k5) d5) (K.out.putn_1 n8 (.slice A8 d8.length k8)) ⟨HW.out.1.put (K.out.nm (.tail _ (.head _))).2.1 _ _, HW.out.2.put (K.out.nm (.tail _ (.head _))).2.1 _ _⟩ ?_
      clear K HW f2 c20 c21
      intro W9 K hh
      replace K := Lib.hid K
      have HW := Lib.hid hh
      clear hh
      obtain ⟨f1, c10, c11⟩ := K.out.nm (.head _)
      obtain ⟨f2, c20, c21⟩ := K.out.nm (.tail _ (.tail _ (.tail _ (.tail _ (.head _)))))
      go_wp2_with fail
      refine (add_num n5 m _ _ d5 b _ HW.out.2 (H2.out.below K.out.B) (by omega) (by omega)).mono ?_
      rintro e w10 ⟨n10, s10, d10, rfl, hN10, hz10, hl10, hb⟩
      obtain ⟨A10, k10, rfl, -⟩ := hN10.1.len
      replace K := Lib.hid (Keep.stays _ _ K.out hb)
      have HN := Lib.hid (HW.out.1.below hb)
      clear hb hN10 hz10 HW f1 c10 c11 f2 c20 c21
      obtain ⟨f1, c10, c11⟩ := K.out.nm (.head _)
      go_upto_region 9 with fail
      refine out_with (B := fun W => Num W n8 (.slice A8 d8.length k8) d8) (K.out.putn_0 n10 (.slice A10 d10.length k10)) (HN.out.put (K.out.nm (.head _)).2.1 _ _) ?_
      clear K HN f1 c10 c11
      intro W11 K hh
      replace K := Lib.hid K
      have HN := Lib.hid hh
      clear hh
      (obtain ⟨f1, c10, c11⟩ := K.out.nm (.head _); obtain ⟨f2, c20, c21⟩ := K.out.nm (.tail _ (.head _)); obtain ⟨f3, c30, c31⟩ := K.out.nm (.tail _ (.tail _ (.head _))); obtain ⟨f4, c40, c41⟩ := K.out.nm (.tail _ (.tail _ (.tail _ (.head _)))); have hne : w.heap.size + 1 + 1 ≠ g10 := by have := K.out.one; simp at this; omega)
      go_region
      clear f1 c10 c11 f2 c20 c21 f3 c30 c31 f4 c40 c41 hne
      (go_wp2_with fail; refine ret_nm3 Try.results93 rfl rfl ((((K.out.putn_3 _ _).putn_2 _ _).drew).nb (.tail _ (.tail _ (.tail _ (.head _))))) ((((K.out.putn_3 _ _).putn_2 _ _).drew).nb (.tail _ (.tail _ (.head _)))) ?_; exact ⟨n8, _, d8, _, _, _, _, rfl, ((HN.out.put (K.out.nm (.tail _ (.tail _ (.tail _ (.head _))))).2.1 _ _).put ((K.out.putn_3 _ _).nm (.tail _ (.tail _ (.head _)))).2.1 _ _).below (below_drew _), HE.out.symm, by omega, ((K.out.putn_3 _ _).putn_2 _ _).drew.B⟩)
end Go.Proofs.Ytehjfjdopeadfaa
