/- The texts Lh, Li, Lz, Ma, Mb, Mc of the walk of the law and of all that it calls, in one file. No condition. -/
import Derived.Test.YtmidifgnpjlgcaaGreatY2
import Derived.Laws.MathBits
/- The walks of Add, Sub, Cmp. -/
set_option linter.unusedVariables false
set_option linter.unusedSimpArgs false
namespace Go.Proofs.YtmidifgnpjlgcaaGreat
open Go.RowKit

theorem cmpD_ge {a b : List Int} (ha : digits a) (hb : digits b) (ca : canon a) (cb : canon b) : (0 ≤ cmpD a b ↔ val b ≤ val a) ∧ -1 ≤ cmpD a b ∧ cmpD a b ≤ 1 := by
  rw [cmpD_sgn ha hb ca cb]
  unfold sgn
  split <;> (try split) <;> omega

theorem len_of_val {a b : List Int} (ha : digits a) (hb : digits b) (cb : canon b) (h : val b ≤ val a) : b.length ≤ a.length := by
  apply Classical.byContradiction
  intro hn
  have hne : b ≠ [] := by intro e; rw [e] at hn; simp at hn
  have := val_canon hb cb hne
  have := (val_bounds a ha).2
  have := pb_mono (show a.length ≤ b.length - 1 by omega)
  omega

theorem made_zof {n neg : Bool} {ds : List Int} (h : n = (neg && decide (ds ≠ []))) : zof n ds = if neg then -val ds else val ds := by
  unfold zof
  by_cases e : ds = []
  · subst e
    have : n = false := by rw [h]; simp
    rw [this]
    cases neg <;> simp [val]
  · have : n = neg := by rw [h]; simp [e]
    rw [this]

set_option maxHeartbeats 8000000 in
set_option maxRecDepth 100000 in
theorem add_any (n m : Bool) (s t : Value) (a b : List Int) (w : World) (h1 : Num w n s a) (h2 : Num w m t b) (l1 : a.length ≤ 900000) (l2 : b.length ≤ 900000) :
    Calls Tryz.prog 43 #[.agg #[.bool n, s], .agg #[.bool m, t]] w fun e w' => ∃ q v out, e = .returned (.agg #[.bool q, v]) ∧ Num w' q v out ∧ zof q out = zof n a + zof m b ∧ out.length ≤ max a.length b.length + 1 ∧ Below w.heap.size w w' := by
  obtain ⟨A, c, rfl, ha⟩ := h1.1.len
  obtain ⟨B, d, rfl, hb⟩ := h2.1.len
  have K := Lib.hid (Keep.begin3 w (Obj.num n (.slice A a.length c)) (Obj.num m (.slice B b.length d)) (Obj.num false (.slice none 0 0)))
  have H1 := Lib.hid h1; have H2 := Lib.hid h2
  clear ha hb h1 h2
  by_cases e : n = m
  · subst e
    go_enter Tryz.func43, Tryz.ntmps43
    go_upto_region 1 with fail
    (refine out_keep K.out ?_; clear K; intro W K; replace K := Lib.hid K)
    obtain ⟨f1, c10, c11⟩ := K.out.nm (.tail _ (.tail _ (.head _)))
    obtain ⟨f2, c20, c21⟩ := K.out.nm (.tail _ (.head _))
    go_wp2_with fail
    clear f1 c10 c11 f2 c20 c21
    (refine region_ord _ 8 (by kernel_rfl) (by kernel_rfl) K.out.drew ?_; clear K; intro W K hbw; replace K := Lib.hid K)
    obtain ⟨e10, e11⟩ := Keep.anm K (.tail _ (.tail _ (.head _)))
    obtain ⟨e20, e21⟩ := Keep.anm K (.tail _ (.head _))
    (refine Ord.take' 0 rfl (by kernel_rfl) (fun _ _ _ _ h => h) K.out (by rfl) ?_; apply Exists.intro; refine ⟨fun p => ?_, ?_⟩; (focus (go_simp; (try (with_reducible rfl)); done)); (try simp only [Act.put, List.setIfInBounds_toArray, List.set_cons_zero, List.set_cons_succ]))
    (refine Ord.take' 1 rfl (by kernel_rfl) (fun _ _ _ _ h => h) K.out (by rfl) ?_; apply Exists.intro; refine ⟨fun p => ?_, ?_⟩; (focus (go_simp; (try (with_reducible rfl)); done)); (try simp only [Act.put, List.setIfInBounds_toArray, List.set_cons_zero, List.set_cons_succ]))
    (refine Ord.take' 2 rfl (by kernel_rfl) (fun _ _ _ _ h => h) K.out (by rfl) ?_; apply Exists.intro; refine ⟨fun p => ?_, ?_⟩; (focus (go_simp; (try (with_reducible rfl)); done)); (try simp only [Act.put, List.setIfInBounds_toArray, List.set_cons_zero, List.set_cons_succ]))
    (refine Ord.take' 3 rfl (by kernel_rfl) (fun _ _ _ _ h => h) K.out (by rfl) ?_; apply Exists.intro; refine ⟨fun p => ?_, ?_⟩; (focus (go_simp; (try (with_reducible rfl)); done)); (try simp only [Act.put, List.setIfInBounds_toArray, List.set_cons_zero, List.set_cons_succ]))
    (refine Ord.take' 4 rfl (by kernel_rfl) (fun _ _ _ _ h => h) K.out (by rfl) ?_; apply Exists.intro; refine ⟨fun p => ?_, ?_⟩; (focus (go_simp; (try (with_reducible rfl)); done)); (try simp only [Act.put, List.setIfInBounds_toArray, List.set_cons_zero, List.set_cons_succ]))
    (refine Ord.take' 5 rfl (by kernel_rfl) (fun _ _ _ _ h => h) K.out (by rfl) ?_; apply Exists.intro; refine ⟨fun p => ?_, ?_⟩; (focus (go_simp; (try (with_reducible rfl)); done)); (try simp only [Act.put, List.setIfInBounds_toArray, List.set_cons_zero, List.set_cons_succ]))
    (refine Ord.call 6 (g := 75) (args := (#[.slice A a.length c, .slice B b.length d])) rfl (by kernel_rfl) (by rfl) (by (go_simp; try (with_reducible rfl))) ?_)
    refine (plus_any _ _ a b _ (H1.out.1.below K.out.B) (H2.out.1.below K.out.B) H1.out.2.1 H2.out.2.1 (by omega) (by omega)).mono ?_
    rintro e w2 ⟨v, out, rfl, hown, hdg, hlen, hval, hb⟩
    (refine ⟨_, rfl, Keep.stays _ _ K.out hb, ?_⟩; replace K := Lib.hid (Keep.stays _ _ K.out hb); simp only [Act.put, List.setIfInBounds_toArray, List.set_cons_zero, List.set_cons_succ])
    clear hb
    (refine Ord.call 7 (g := 53) (args := (#[.bool n, v])) rfl (by kernel_rfl) (by rfl) (by (go_simp; try (with_reducible rfl))) ?_)
    refine (mad_any n v out _ hown hdg (by omega)).mono ?_
    rintro e w3 ⟨n2, s2, d2, rfl, hN, hv2, hl2, hn2, hb⟩
    obtain ⟨A2, c2, rfl, -⟩ := hN.1.len
    (refine ⟨_, rfl, Keep.stays _ _ K.out hb, ?_⟩; replace K := Lib.hid (Keep.stays _ _ K.out hb); simp only [Act.put, List.setIfInBounds_toArray, List.set_cons_zero, List.set_cons_succ])
    have HN := Lib.hid hN
    have HV : Hid (zof n2 d2 = zof n a + zof n b) := by
      show _ = _
      rw [made_zof hn2, hv2, hval]
      unfold zof
      cases n <;> simp <;> omega
    clear hb hN hv2 hn2 hown hdg hval e10 e11 e20 e21 hbw
    (refine Ord.done (by kernel_rfl) ?_; simp only [List.drop_succ_cons, List.drop_zero, Act.put, List.setIfInBounds_toArray, List.set_cons_zero, List.set_cons_succ])
    obtain ⟨f1, c10, c11⟩ := K.out.nm (.head _)
    go_wp2_with fail
    refine ret_nm Tryz.results43 rfl ((K.out.putn_0 n2 _).nb (.head _)) ?_
    exact ⟨n2, _, d2, rfl, HN.out.put (K.out.nm (.head _)).2.1 _ _, HV.out, by omega, (K.out.putn_0 n2 _).B⟩
  · obtain rfl : m = !n := by cases n <;> cases m <;> simp_all
    clear e
    have HC := Lib.hid (cmpD_ge H1.out.2.1 H2.out.2.1 H1.out.2.2.1 H2.out.2.2.1)
    go_enter Tryz.func43, Tryz.ntmps43
    go_upto_region 1 with fail
    (refine out_keep K.out ?_; clear K; intro W K; replace K := Lib.hid K)
    obtain ⟨f1, c10, c11⟩ := K.out.nm (.tail _ (.tail _ (.head _)))
    obtain ⟨f2, c20, c21⟩ := K.out.nm (.tail _ (.head _))
    have hnm : (n == !n) = false := by cases n <;> rfl
    go_wp2_with fail
    refine (cmp_any _ _ a b _ (H1.out.1.below K.out.B) (H2.out.1.below K.out.B) (by omega) (by omega)).mono ?_
    rintro e w2 ⟨rfl, hb⟩
    replace K := Lib.hid (Keep.stays _ _ K.out hb)
    clear hb f1 c10 c11 f2 c20 c21 hnm
    obtain ⟨hcm, cm1, cm2⟩ := HC.out
    have HC2 := Lib.hid hcm
    clear hcm HC
    generalize cmpD a b = cm at *
    by_cases hge : 0 ≤ cm
    · have hvb := Lib.hid (HC2.out.1 hge)
      have hlb := len_of_val H1.out.2.1 H2.out.2.1 H2.out.2.2.1 hvb.out
      go_wp2_with fail
      (refine region_ord _ 8 (by kernel_rfl) (by kernel_rfl) K.out.drew ?_; clear K; intro W K hbw; replace K := Lib.hid K)
      obtain ⟨e10, e11⟩ := Keep.anm K (.tail _ (.tail _ (.head _)))
      obtain ⟨e20, e21⟩ := Keep.anm K (.tail _ (.head _))
      (refine Ord.take' 0 rfl (by kernel_rfl) (fun _ _ _ _ h => h) K.out (by rfl) ?_; apply Exists.intro; refine ⟨fun p => ?_, ?_⟩; (focus (go_simp; (try (with_reducible rfl)); done)); (try simp only [Act.put, List.setIfInBounds_toArray, List.set_cons_zero, List.set_cons_succ]))
      (refine Ord.take' 1 rfl (by kernel_rfl) (fun _ _ _ _ h => h) K.out (by rfl) ?_; apply Exists.intro; refine ⟨fun p => ?_, ?_⟩; (focus (go_simp; (try (with_reducible rfl)); done)); (try simp only [Act.put, List.setIfInBounds_toArray, List.set_cons_zero, List.set_cons_succ]))
      (refine Ord.take' 2 rfl (by kernel_rfl) (fun _ _ _ _ h => h) K.out (by rfl) ?_; apply Exists.intro; refine ⟨fun p => ?_, ?_⟩; (focus (go_simp; (try (with_reducible rfl)); done)); (try simp only [Act.put, List.setIfInBounds_toArray, List.set_cons_zero, List.set_cons_succ]))
      (refine Ord.take' 3 rfl (by kernel_rfl) (fun _ _ _ _ h => h) K.out (by rfl) ?_; apply Exists.intro; refine ⟨fun p => ?_, ?_⟩; (focus (go_simp; (try (with_reducible rfl)); done)); (try simp only [Act.put, List.setIfInBounds_toArray, List.set_cons_zero, List.set_cons_succ]))
      (refine Ord.take' 4 rfl (by kernel_rfl) (fun _ _ _ _ h => h) K.out (by rfl) ?_; apply Exists.intro; refine ⟨fun p => ?_, ?_⟩; (focus (go_simp; (try (with_reducible rfl)); done)); (try simp only [Act.put, List.setIfInBounds_toArray, List.set_cons_zero, List.set_cons_succ]))
      (refine Ord.take' 5 rfl (by kernel_rfl) (fun _ _ _ _ h => h) K.out (by rfl) ?_; apply Exists.intro; refine ⟨fun p => ?_, ?_⟩; (focus (go_simp; (try (with_reducible rfl)); done)); (try simp only [Act.put, List.setIfInBounds_toArray, List.set_cons_zero, List.set_cons_succ]))
      (refine Ord.call 6 (g := 77) (args := (#[.slice A a.length c, .slice B b.length d])) rfl (by kernel_rfl) (by rfl) (by (go_simp; try (with_reducible rfl))) ?_)
      refine (less_any _ _ a b _ (H1.out.1.below K.out.B).da (H2.out.1.below K.out.B) H1.out.2.1 H2.out.2.1 (by omega) (by omega)).mono ?_
      rintro e w2 ⟨v, out, rfl, hown, hdg, hlen, hval', hb⟩
      have hval := hval' hlb hvb.out
      clear hval'
      (refine ⟨_, rfl, Keep.stays _ _ K.out hb, ?_⟩; replace K := Lib.hid (Keep.stays _ _ K.out hb); simp only [Act.put, List.setIfInBounds_toArray, List.set_cons_zero, List.set_cons_succ])
      clear hb
      (refine Ord.call 7 (g := 53) (args := (#[.bool n, v])) rfl (by kernel_rfl) (by rfl) (by (go_simp; try (with_reducible rfl))) ?_)
      refine (mad_any n v out _ hown hdg (by omega)).mono ?_
      rintro e w3 ⟨n2, s2, d2, rfl, hN, hv2, hl2, hn2, hb⟩
      obtain ⟨A2, c2, rfl, -⟩ := hN.1.len
      (refine ⟨_, rfl, Keep.stays _ _ K.out hb, ?_⟩; replace K := Lib.hid (Keep.stays _ _ K.out hb); simp only [Act.put, List.setIfInBounds_toArray, List.set_cons_zero, List.set_cons_succ])
      have HN := Lib.hid hN
      have HV : Hid (zof n2 d2 = zof n a + zof (!n) b) := by
        show _ = _
        rw [made_zof hn2, hv2, hval]
        unfold zof
        cases n <;> simp <;> omega
      clear hb hN hv2 hn2 hown hdg hval e10 e11 e20 e21 hbw
      (refine Ord.done (by kernel_rfl) ?_; simp only [List.drop_succ_cons, List.drop_zero, Act.put, List.setIfInBounds_toArray, List.set_cons_zero, List.set_cons_succ])
      obtain ⟨f1, c10, c11⟩ := K.out.nm (.head _)
      go_wp2_with fail
      refine ret_nm Tryz.results43 rfl ((K.out.putn_0 n2 _).nb (.head _)) ?_
      exact ⟨n2, _, d2, rfl, HN.out.put (K.out.nm (.head _)).2.1 _ _, HV.out, by omega, (K.out.putn_0 n2 _).B⟩
    · have hvb : Hid (val a ≤ val b) := by
        have : ¬ val b ≤ val a := fun h => hge (HC2.out.2 h)
        show _ ≤ _
        omega
      have hlb := len_of_val H2.out.2.1 H1.out.2.1 H1.out.2.2.1 hvb.out
      go_wp2_with fail
      (refine region_ord _ 8 (by kernel_rfl) (by kernel_rfl) K.out.drew ?_; clear K; intro W K hbw; replace K := Lib.hid K)
      obtain ⟨e10, e11⟩ := Keep.anm K (.tail _ (.tail _ (.head _)))
      obtain ⟨e20, e21⟩ := Keep.anm K (.tail _ (.head _))
      (refine Ord.take' 0 rfl (by kernel_rfl) (fun _ _ _ _ h => h) K.out (by rfl) ?_; apply Exists.intro; refine ⟨fun p => ?_, ?_⟩; (focus (go_simp; (try (with_reducible rfl)); done)); (try simp only [Act.put, List.setIfInBounds_toArray, List.set_cons_zero, List.set_cons_succ]))
      (refine Ord.take' 1 rfl (by kernel_rfl) (fun _ _ _ _ h => h) K.out (by rfl) ?_; apply Exists.intro; refine ⟨fun p => ?_, ?_⟩; (focus (go_simp; (try (with_reducible rfl)); done)); (try simp only [Act.put, List.setIfInBounds_toArray, List.set_cons_zero, List.set_cons_succ]))
      (refine Ord.take' 2 rfl (by kernel_rfl) (fun _ _ _ _ h => h) K.out (by rfl) ?_; apply Exists.intro; refine ⟨fun p => ?_, ?_⟩; (focus (go_simp; (try (with_reducible rfl)); done)); (try simp only [Act.put, List.setIfInBounds_toArray, List.set_cons_zero, List.set_cons_succ]))
      (refine Ord.take' 3 rfl (by kernel_rfl) (fun _ _ _ _ h => h) K.out (by rfl) ?_; apply Exists.intro; refine ⟨fun p => ?_, ?_⟩; (focus (go_simp; (try (with_reducible rfl)); done)); (try simp only [Act.put, List.setIfInBounds_toArray, List.set_cons_zero, List.set_cons_succ]))
      (refine Ord.take' 4 rfl (by kernel_rfl) (fun _ _ _ _ h => h) K.out (by rfl) ?_; apply Exists.intro; refine ⟨fun p => ?_, ?_⟩; (focus (go_simp; (try (with_reducible rfl)); done)); (try simp only [Act.put, List.setIfInBounds_toArray, List.set_cons_zero, List.set_cons_succ]))
      (refine Ord.take' 5 rfl (by kernel_rfl) (fun _ _ _ _ h => h) K.out (by rfl) ?_; apply Exists.intro; refine ⟨fun p => ?_, ?_⟩; (focus (go_simp; (try (with_reducible rfl)); done)); (try simp only [Act.put, List.setIfInBounds_toArray, List.set_cons_zero, List.set_cons_succ]))
      (refine Ord.call 6 (g := 77) (args := (#[.slice B b.length d, .slice A a.length c])) rfl (by kernel_rfl) (by rfl) (by (go_simp; try (with_reducible rfl))) ?_)
      refine (less_any _ _ b a _ (H2.out.1.below K.out.B).da (H1.out.1.below K.out.B) H2.out.2.1 H1.out.2.1 (by omega) (by omega)).mono ?_
      rintro e w2 ⟨v, out, rfl, hown, hdg, hlen, hval', hb⟩
      have hval := hval' hlb hvb.out
      clear hval'
      (refine ⟨_, rfl, Keep.stays _ _ K.out hb, ?_⟩; replace K := Lib.hid (Keep.stays _ _ K.out hb); simp only [Act.put, List.setIfInBounds_toArray, List.set_cons_zero, List.set_cons_succ])
      clear hb
      (refine Ord.call 7 (g := 53) (args := (#[.bool (!n), v])) rfl (by kernel_rfl) (by rfl) (by (go_simp; try (with_reducible rfl))) ?_)
      refine (mad_any (!n) v out _ hown hdg (by omega)).mono ?_
      rintro e w3 ⟨n2, s2, d2, rfl, hN, hv2, hl2, hn2, hb⟩
      obtain ⟨A2, c2, rfl, -⟩ := hN.1.len
      (refine ⟨_, rfl, Keep.stays _ _ K.out hb, ?_⟩; replace K := Lib.hid (Keep.stays _ _ K.out hb); simp only [Act.put, List.setIfInBounds_toArray, List.set_cons_zero, List.set_cons_succ])
      have HN := Lib.hid hN
      have HV : Hid (zof n2 d2 = zof n a + zof (!n) b) := by
        show _ = _
        rw [made_zof hn2, hv2, hval]
        unfold zof
        cases n <;> simp <;> omega
      clear hb hN hv2 hn2 hown hdg hval e10 e11 e20 e21 hbw
      (refine Ord.done (by kernel_rfl) ?_; simp only [List.drop_succ_cons, List.drop_zero, Act.put, List.setIfInBounds_toArray, List.set_cons_zero, List.set_cons_succ])
      obtain ⟨f1, c10, c11⟩ := K.out.nm (.head _)
      go_wp2_with fail
      refine ret_nm Tryz.results43 rfl ((K.out.putn_0 n2 _).nb (.head _)) ?_
      exact ⟨n2, _, d2, rfl, HN.out.put (K.out.nm (.head _)).2.1 _ _, HV.out, by omega, (K.out.putn_0 n2 _).B⟩
set_option maxHeartbeats 8000000 in
set_option maxRecDepth 100000 in
theorem sub_any (n m : Bool) (s t : Value) (a b : List Int) (w : World) (h1 : Num w n s a) (h2 : Num w m t b) (l1 : a.length ≤ 900000) (l2 : b.length ≤ 900000) :
    Calls Tryz.prog 59 #[.agg #[.bool n, s], .agg #[.bool m, t]] w fun e w' => ∃ q v out, e = .returned (.agg #[.bool q, v]) ∧ Num w' q v out ∧ zof q out = zof n a - zof m b ∧ out.length ≤ max a.length b.length + 1 ∧ Below w.heap.size w w' := by
  obtain ⟨A, c, rfl, ha⟩ := h1.1.len
  obtain ⟨B, d, rfl, hb⟩ := h2.1.len
  have K := Lib.hid (Keep.begin3 w (Obj.num n (.slice A a.length c)) (Obj.num m (.slice B b.length d)) (Obj.num false (.slice none 0 0)))
  have H1 := Lib.hid h1; have H2 := Lib.hid h2
  clear ha hb h1 h2
  go_enter Tryz.func59, Tryz.ntmps59
  go_upto_region 1 with fail
  (refine out_keep K.out ?_; clear K; intro W K; replace K := Lib.hid K)
  (refine region_ord _ 4 (by kernel_rfl) (by kernel_rfl) K.out.drew ?_; clear K; intro W K hbw; replace K := Lib.hid K)
  obtain ⟨e10, e11⟩ := Keep.anm K (.tail _ (.tail _ (.head _)))
  obtain ⟨e20, e21⟩ := Keep.anm K (.tail _ (.head _))
  (refine Ord.take' 0 rfl (by kernel_rfl) (fun _ _ _ _ h => h) K.out (by rfl) ?_; apply Exists.intro; refine ⟨fun p => ?_, ?_⟩; (focus (go_simp; (try (with_reducible rfl)); done)); (try simp only [Act.put, List.setIfInBounds_toArray, List.set_cons_zero, List.set_cons_succ]))
  (refine Ord.take' 1 rfl (by kernel_rfl) (fun _ _ _ _ h => h) K.out (by rfl) ?_; apply Exists.intro; refine ⟨fun p => ?_, ?_⟩; (focus (go_simp; (try (with_reducible rfl)); done)); (try simp only [Act.put, List.setIfInBounds_toArray, List.set_cons_zero, List.set_cons_succ]))
  (refine Ord.call 2 (g := 67) (args := (#[.agg #[.bool m, .slice B b.length d]])) rfl (by kernel_rfl) (by rfl) (by (go_simp; try (with_reducible rfl))) ?_)
  refine (neg_any m _ b _ (H2.out.below K.out.B) (by omega)).mono ?_
  rintro e w2 ⟨m', t', b', rfl, hN, hz, hl, hb⟩
  obtain ⟨A2, c2, rfl, -⟩ := hN.1.len
  (refine ⟨_, rfl, Keep.stays _ _ K.out hb, ?_⟩; replace K := Lib.hid (Keep.stays _ _ K.out hb); simp only [Act.put, List.setIfInBounds_toArray, List.set_cons_zero, List.set_cons_succ])
  clear hb
  (refine Ord.call 3 (g := 43) (args := (#[.agg #[.bool n, .slice A a.length c], .agg #[.bool m', .slice A2 b'.length c2]])) rfl (by kernel_rfl) (by rfl) (by (go_simp; try (with_reducible rfl))) ?_)
  refine (add_any n m' _ _ a b' _ (H1.out.below K.out.B) hN (by omega) (by omega)).mono ?_
  rintro e w3 ⟨n2, s2, d2, rfl, hN2, hz2, hl2, hb⟩
  obtain ⟨A3, c3, rfl, -⟩ := hN2.1.len
  (refine ⟨_, rfl, Keep.stays _ _ K.out hb, ?_⟩; replace K := Lib.hid (Keep.stays _ _ K.out hb); simp only [Act.put, List.setIfInBounds_toArray, List.set_cons_zero, List.set_cons_succ])
  have HN := Lib.hid hN2
  have HV : Hid (zof n2 d2 = zof n a - zof m b) := by
    show _ = _
    rw [hz2, hz]
    omega
  clear hb hN hN2 hz hz2 e10 e11 e20 e21 hbw
  (refine Ord.done (by kernel_rfl) ?_; simp only [List.drop_succ_cons, List.drop_zero, Act.put, List.setIfInBounds_toArray, List.set_cons_zero, List.set_cons_succ])
  obtain ⟨f1, c10, c11⟩ := K.out.nm (.head _)
  go_wp2_with fail
  refine ret_nm Tryz.results59 rfl ((K.out.putn_0 n2 _).nb (.head _)) ?_
  exact ⟨n2, _, d2, rfl, HN.out.put (K.out.nm (.head _)).2.1 _ _, HV.out, by omega, (K.out.putn_0 n2 _).B⟩

set_option maxHeartbeats 8000000 in
set_option maxRecDepth 100000 in
theorem icmp_any (n m : Bool) (s t : Value) (a b : List Int) (w : World) (h1 : Num w n s a) (h2 : Num w m t b) (l1 : a.length ≤ 900000) (l2 : b.length ≤ 900000) :
    Calls Tryz.prog 24 #[.agg #[.bool n, s], .agg #[.bool m, t]] w fun e w' => e = .returned (.int .i64 (sgn (zof n a - zof m b))) ∧ Below w.heap.size w w' := by
  obtain ⟨A, c, rfl, ha⟩ := h1.1.len
  obtain ⟨B, d, rfl, hb⟩ := h2.1.len
  have K := Lib.hid (Keep.begin2 w (Obj.num n (.slice A a.length c)) (Obj.num m (.slice B b.length d)))
  have H1 := Lib.hid h1; have H2 := Lib.hid h2
  clear ha hb h1 h2
  go_enter Tryz.func24, Tryz.ntmps24
  go_upto_region 1 with fail
  (refine out_keep K.out ?_; clear K; intro W K; replace K := Lib.hid K)
  obtain ⟨f1, c10, c11⟩ := K.out.nm (.tail _ (.head _))
  obtain ⟨f2, c20, c21⟩ := K.out.nm (.head _)
  go_wp2_with fail
  refine (sub_any n m _ _ a b _ (H1.out.below K.out.B) (H2.out.below K.out.B) l1 l2).mono ?_
  rintro e w2 ⟨q, v, o, rfl, hN, hz, hl, hb⟩
  replace K := Lib.hid (Keep.stays _ _ K.out hb)
  obtain ⟨A2, c2, rfl, -⟩ := hN.1.len
  have HN := Lib.hid hN
  have HZ := Lib.hid hz
  clear hb hN hz f1 c10 c11 f2 c20 c21
  go_wp2_with fail
  refine (sign_any q _ o _ HN.out).mono ?_
  rintro e w3 ⟨rfl, hb⟩
  replace K := Lib.hid (Keep.stays _ _ K.out hb)
  clear hb HN
  rw [HZ.out]
  go_wp2_with fail
  go_ret
  exact ⟨rfl, K.out.B⟩
end Go.Proofs.YtmidifgnpjlgcaaGreat
/- The walk of Mul. -/
set_option linter.unusedVariables false
set_option linter.unusedSimpArgs false
namespace Go.Proofs.YtmidifgnpjlgcaaGreat
open Go.RowKit

/-- The product so far: i whole rows. -/
def Mo (x y : List Int) (i : Nat) (out : List Int) : Prop :=
  out.length = x.length + y.length + 1 ∧ digits out ∧ val out = val (x.take i) * val y ∧ ∀ j, i + y.length ≤ j → out.getD j 0 = 0
/-- And k parts of the next. -/
def Mi (x y : List Int) (i k : Nat) (o : Int) (out : List Int) : Prop :=
  out.length = x.length + y.length + 1 ∧ digits out ∧ (0 ≤ o ∧ o < 4294967296) ∧ val out + pb (i + k) * o = val (x.take i) * val y + pb i * x.getD i 0 * val (y.take k) ∧ ∀ j, i + y.length ≤ j → out.getD j 0 = 0

theorem pb_add (a b : Nat) : pb (a + b) = pb a * pb b := by
  induction a with
  | zero => rw [Nat.zero_add]; show _ = 1 * _; omega
  | succ a ih => rw [Nat.succ_add]; show 4294967296 * pb (a + b) = 4294967296 * pb a * pb b; rw [ih, Int.mul_assoc]
theorem getD_zeros (n j : Nat) : (List.replicate n (0 : Int)).getD j 0 = 0 := by
  by_cases h : j < n
  · simp [h]
  · exact getD_out (by simp; omega)
theorem Mo.start (x y : List Int) : Mo x y 0 (List.replicate (x.length + y.length + 1) 0) := ⟨by simp, digits_zero _, by rw [val_zero]; simp [val], fun j _ => getD_zeros _ j⟩
theorem Mo.inn {x y : List Int} {i : Nat} {out : List Int} (h : Mo x y i out) : Mi x y i 0 0 out := ⟨h.1, h.2.1, by omega, by rw [h.2.2.1]; simp [val], h.2.2.2⟩
theorem Mi.step {x y : List Int} {i k : Nat} {o : Int} {out : List Int} (h : Mi x y i k o out) (hi : i < x.length) (hk : k < y.length) (s : Int) (hs : 0 ≤ s ∧ s < 18446744073709551616) (e : s = o + (x.getD i 0 * y.getD k 0 + out.getD (i + k) 0)) :
    Mi x y i (k + 1) (s / 4294967296) (out.set (i + k) (s % 4294967296)) := by
  obtain ⟨h1, h2, h3, h4, h5⟩ := h
  refine ⟨by simp [h1], digits_set h2 _ (by omega), by omega, ?_, fun j hj => by rw [getD_set_ne' (by omega)]; exact h5 j hj⟩
  rw [val_set _ _ _ (by omega), val_take_succ']
  show _ + 4294967296 * pb (i + k) * (s / 4294967296) = _
  rw [pb_add] at h4 ⊢
  have e2 : s = s % 4294967296 + 4294967296 * (s / 4294967296) := by omega
  generalize s % 4294967296 = r at *
  generalize s / 4294967296 = q at *
  generalize pb i = t at *
  generalize pb k = u at *
  generalize out.getD (i + k) 0 = z at *
  generalize x.getD i 0 = a at *
  generalize y.getD k 0 = c at *
  generalize val out = vo at *
  generalize val (y.take k) = vy at *
  generalize val (x.take i) * val y = vv at *
  grind
theorem Mi.out {x y : List Int} {i : Nat} {o : Int} {out : List Int} (h : Mi x y i y.length o out) (hi : i < x.length) : Mo x y (i + 1) (out.set (i + y.length) o) := by
  obtain ⟨h1, h2, h3, h4, h5⟩ := h
  refine ⟨by simp [h1], digits_set h2 _ h3, ?_, fun j hj => by rw [getD_set_ne' (by omega)]; exact h5 j (by omega)⟩
  rw [val_set _ _ _ (by omega), h5 _ (Nat.le_refl _), val_take_succ', Int.add_mul]
  rw [List.take_length] at h4
  rw [← h4, Int.sub_zero]
theorem part_bound {a b : Int} (ha : 0 ≤ a ∧ a < 4294967296) (hb : 0 ≤ b ∧ b < 4294967296) : 0 ≤ a * b ∧ a * b ≤ 18446744065119617025 := by
  refine ⟨Int.mul_nonneg ha.1 hb.1, ?_⟩
  have := Int.mul_le_mul (show a ≤ 4294967295 by omega) (show b ≤ 4294967295 by omega) hb.1 (by omega)
  omega

set_option maxHeartbeats 8000000 in
set_option maxRecDepth 100000 in
theorem mul_any (n m : Bool) (s t : Value) (a b : List Int) (w : World) (h1 : Num w n s a) (h2 : Num w m t b) (l1 : a.length ≤ 400000) (l2 : b.length ≤ 400000) :
    Calls Tryz.prog 23 #[.agg #[.bool n, s], .agg #[.bool m, t]] w fun e w' => ∃ q v out, e = .returned (.agg #[.bool q, v]) ∧ Num w' q v out ∧ zof q out = zof n a * zof m b ∧ out.length ≤ a.length + b.length + 1 ∧ Below w.heap.size w w' := by
  obtain ⟨A, c, rfl, ha⟩ := h1.1.len
  obtain ⟨B, d, rfl, hb⟩ := h2.1.len
  have K := Lib.hid (Keep.begin3 w (Obj.num n (.slice A a.length c)) (Obj.num m (.slice B b.length d)) (Obj.num false (.slice none 0 0)))
  have HA := Lib.hid ha; have HB := Lib.hid hb
  have D1 := Lib.hid (fun k => getD_mem h1.2.1 k); have D2 := Lib.hid (fun k => getD_mem h2.2.1 k)
  have HP := Lib.hid (And.intro h1.2.2.2 h2.2.2.2)
  have HS := Lib.hid (Mo.start a b)
  clear ha hb h1 h2
  have hmk := mk_row (a.length + b.length + 1) (by omega) ((a.length : Int) + (b.length : Int) + 1) (by omega)
  go_enter Tryz.func23, Tryz.ntmps23
  go_upto_region 1 with fail
  (refine out_keep K.out ?_; clear K; intro W K; replace K := Lib.hid K)
  obtain ⟨f1, c10, c11⟩ := K.out.nm (.tail _ (.tail _ (.head _)))
  obtain ⟨f2, c20, c21⟩ := K.out.nm (.tail _ (.head _))
  go_upto_region 2 with fail
  clear hmk f1 c10 c11 f2 c20 c21
  replace K := Lib.hid (K.out.alloc (Obj.row (List.replicate (a.length + b.length + 1) 0)))
  generalize W.heap.size = g5 at *
  (refine out_keep K.out ?_; clear K; intro W K; replace K := Lib.hid K)
  obtain ⟨f1, c10, c11⟩ := K.out.nm (.tail _ (.tail _ (.tail _ (.head _))))
  go_wp2_with fail
  clear f1 c10 c11
  go_loopg [23] a.length (fun gk iv wr => ∃ (i : Nat) (out : List Int), gk + i = a.length ∧ iv = .int .i64 (i : Int) ∧ Mo a b i out ∧ Keep w [(g5, Obj.row out), (w.heap.size + 1 + 1, Obj.num false (.slice none 0 0)), (w.heap.size + 1, Obj.num m (.slice B b.length d)), (w.heap.size, Obj.num n (.slice A a.length c))] wr)
  case atStart => exact ⟨0, _, by omega, rfl, HS.out, K.out⟩
  case round =>
    clear K HS
    obtain ⟨i, out, hgi, rfl, hmo, k⟩ := hrel
    have K := Lib.hid k
    have HM := Lib.hid hmo
    clear k hmo
    by_cases hi : i < a.length
    · obtain ⟨x, rfl, hx, hxc⟩ := HA.out (by omega)
      have X := kept_cell K.out hx (hxc i hi)
      obtain ⟨p1, p2⟩ := D1.out i
      have HI := Lib.hid hi
      have HN := Lib.hid HM.out.inn
      clear hx hxc
      generalize hp : a.getD i 0 = p at *
      have HPP := Lib.hid hp
      clear hp
      obtain ⟨f2, c20, c21⟩ := K.out.nm (.tail _ (.tail _ (.head _)))
      go_wp2_with fail
      clear X f2 c20 c21
      go_loopg [8, 31] b.length (fun g2 ov kv wr2 => ∃ (k : Nat) (o : Int) (out2 : List Int), g2 + k = b.length ∧ kv = .int .i64 (k : Int) ∧ ov = .int .u64 o ∧ Mi a b i k o out2 ∧ Keep w [(g5, Obj.row out2), (w.heap.size + 1 + 1, Obj.num false (.slice none 0 0)), (w.heap.size + 1, Obj.num m (.slice B b.length d)), (w.heap.size, Obj.num n (.slice (some ⟨x, 0, none⟩) a.length c))] wr2)
      case atStart => exact ⟨0, 0, out, by omega, rfl, rfl, HN.out, K.out⟩
      case round =>
        clear K HN HM
        obtain ⟨k, o, out2, hgk2, rfl, rfl, hmi, kk⟩ := hrel
        have K := Lib.hid kk
        have HN := Lib.hid hmi
        obtain ⟨o1, o2⟩ := hmi.2.2.1
        have HL := Lib.hid hmi.1
        clear kk hmi
        by_cases hk : k < b.length
        · obtain ⟨y, rfl, hy, hyc⟩ := HB.out (by omega)
          have Y := kept_cell K.out hy (hyc k hk)
          obtain ⟨q1, q2⟩ := D2.out k
          have hik : Hid (i + k < out2.length) := by show _ < _; rw [HL.out]; omega
          have Z := K.out.rowc (.head _) (i + k) hik.out
          have f5 := K.out.roww (.head _)
          obtain ⟨z1, z2⟩ := getD_mem HN.out.2.1 (i + k)
          have HST := Lib.hid (fun s hs e => HN.out.step HI.out hk s hs e)
          rw [HPP.out] at HST
          clear hy hyc HN
          generalize b.getD k 0 = q at *
          generalize out2.getD (i + k) 0 = z at *
          obtain ⟨r1, r2⟩ := part_bound ⟨p1, p2⟩ ⟨q1, q2⟩
          have L2 := Lib.hid (HST.out (o + (p * q + z)) (by omega) rfl)
          clear HST
          go_wp2_with fail
          replace K := Lib.hid (K.out.setr_0 (i + k) ((o + (p * q + z)) % 4294967296))
          clear Y Z f5
          go_roundg (gk - 1)
          case measure => omega
          case rel => exact ⟨k + 1, _, _, by omega, congrArg (Value.int .i64) (by omega), rfl, L2.out, K.out⟩
        · have hkb : k = b.length := by omega
          rw [hkb] at HN
          clear hkb
          have HO := Lib.hid (HN.out.out HI.out)
          have hik : Hid (i + b.length < out2.length) := by show _ < _; rw [HL.out]; have := HI.out; omega
          have Z := K.out.rowc (.head _) (i + b.length) hik.out
          have f5 := K.out.roww (.head _)
          generalize out2.getD (i + b.length) 0 = z at *
          obtain ⟨f2, c20, c21⟩ := K.out.nm (.tail _ (.tail _ (.head _)))
          have hi2 := HI.out
          go_wp2_with fail
          replace K := Lib.hid (K.out.setr_0 (i + b.length) o)
          clear Z f5 f2 c20 c21
          go_roundg (a.length - (i + 1))
          case measure => omega
          case rel => exact ⟨i + 1, _, by omega, congrArg (Value.int .i64) (by omega), HO.out, K.out⟩
    · have hia : i = a.length := by omega
      rw [hia] at HM
      clear hia
      have HV : Hid (val out = val a * val b) := by have := HM.out.2.2.1; rw [List.take_length] at this; exact this
      have hol : out.length = a.length + b.length + 1 := HM.out.1
      have HG := Lib.hid (K.out.rowd (.head _) (c := a.length + b.length + 1) (by omega))
      rw [hol] at HG
      have HOL := Lib.hid hol
      clear hol
      obtain ⟨f1, c10, c11⟩ := K.out.nm (.tail _ (.tail _ (.tail _ (.head _))))
      obtain ⟨f2, c20, c21⟩ := K.out.nm (.tail _ (.tail _ (.head _)))
      go_wp2_with fail
      refine (mad_any _ _ out _ HG.out HM.out.2.1 (by rw [HOL.out]; omega)).mono ?_
      rintro e w2 ⟨n3, s3, d3, rfl, hN, hv3, hl3, hn3, hb⟩
      obtain ⟨A3, c3, rfl, -⟩ := hN.1.len
      have HN := Lib.hid hN
      have HZ : Hid (zof n3 d3 = zof n a * zof m b) := by
        refine (made_zof hn3).trans ?_
        rw [hv3, HV.out]
        unfold zof
        cases n <;> cases m <;> simp [Int.neg_mul, Int.mul_neg, Int.neg_mul_neg]
      have hl4 : d3.length ≤ a.length + b.length + 1 := by rw [HOL.out] at hl3; exact hl3
      replace K := Lib.hid (Keep.stays _ _ K.out hb).rest
      clear hb hN hv3 hn3 f1 c10 c11 f2 c20 c21 HG HM
      obtain ⟨f1, c10, c11⟩ := K.out.nm (.head _)
      go_wp2_with fail
      refine ret_nm Tryz.results23 rfl ((K.out.putn_0 n3 _).nb (.head _)) ?_
      exact ⟨n3, _, d3, rfl, HN.out.put (K.out.nm (.head _)).2.1 _ _, HZ.out, hl4, (K.out.putn_0 n3 _).B⟩
end Go.Proofs.YtmidifgnpjlgcaaGreat
/- Division of parts: the plain laws. -/
set_option linter.unusedVariables false
set_option linter.unusedSimpArgs false
namespace Go.Proofs.YtmidifgnpjlgcaaGreat
open Go.RowKit

theorem or64_range (a b : Int) : 0 ≤ bits .or .u64 a b ∧ bits .or .u64 a b < 18446744073709551616 := by
  show 0 ≤ IntKind.u64.wrap _ ∧ IntKind.u64.wrap _ < _
  rw [IntKind.wrap_u64]
  omega
theorem or32_range (a b : Int) : 0 ≤ bits .or .u32 a b ∧ bits .or .u32 a b < 4294967296 := by
  show 0 ≤ IntKind.u32.wrap _ ∧ IntKind.u32.wrap _ < _
  rw [IntKind.wrap_u32]
  omega
theorem nat_or_add {n z y : Nat} (h : z < 2 ^ n) (hy : y % 2 ^ n = 0) : z ||| y = z + y := by
  obtain ⟨a, rfl⟩ := Nat.dvd_of_mod_eq_zero hy
  rw [Nat.or_comm, ← Nat.two_pow_add_eq_or_of_lt h, Nat.add_comm]
theorem int_mod_nat {y : Int} {n : Nat} (y0 : 0 ≤ y) (hy : y % 2 ^ n = 0) : y.toNat % 2 ^ n = 0 := by
  obtain ⟨k, rfl⟩ := Int.eq_ofNat_of_zero_le y0
  have e : ((k % 2 ^ n : Nat) : Int) = 0 := by rw [Int.natCast_emod, Int.natCast_pow]; exact hy
  simp
  omega
theorem int_lt_nat {z : Int} {n : Nat} (z0 : 0 ≤ z) (h : z < 2 ^ n) : z.toNat < 2 ^ n := by
  obtain ⟨k, rfl⟩ := Int.eq_ofNat_of_zero_le z0
  have e : (k : Int) < ((2 ^ n : Nat) : Int) := by rw [Int.natCast_pow]; exact h
  simp
  omega
theorem or32_sum (n : Nat) {z y : Int} (z0 : 0 ≤ z) (z1 : z < 2 ^ n) (z2 : z < 4294967296) (y0 : 0 ≤ y) (y1 : y < 4294967296) (hy : y % 2 ^ n = 0) : bits .or .u32 z y = z + y := by
  rw [u32_or z y z0 z2 y0 y1, nat_or_add (int_lt_nat z0 z1) (int_mod_nat y0 hy)]
  omega
theorem or64_sum {z y : Int} (z0 : 0 ≤ z) (z1 : z < 4294967296) (y0 : 0 ≤ y) (y1 : y < 4294967296) : bits .or .u64 (y * 4294967296) z = y * 4294967296 + z := by
  rw [u64_or _ _ (by omega) (by omega) (by omega) (by omega), Nat.or_comm, nat_or_add (n := 32) (by omega) (by omega)]
  omega
theorem or32_zero {y : Int} (y0 : 0 ≤ y) (y1 : y < 4294967296) : bits .or .u32 0 y = y := by
  rw [or32_sum 0 (by omega) (by decide) (by omega) y0 y1 (by omega)]; omega

theorem val_drop_succ {l : List Int} {i : Nat} (h : i < l.length) : val (l.drop i) = l.getD i 0 + 4294967296 * val (l.drop (i + 1)) := by
  rw [List.drop_eq_getElem_cons h]
  simp [val, h]
theorem drop_set_at {l : List Int} {i : Nat} (h : i < l.length) (v : Int) : (l.set i v).drop i = v :: l.drop (i + 1) := by
  rw [List.drop_set, if_neg (by omega), Nat.sub_self, List.drop_eq_getElem_cons h]
  rfl
theorem val_drop_set {l : List Int} {i : Nat} (h : i < l.length) (v : Int) : val ((l.set i v).drop i) = v + 4294967296 * val (l.drop (i + 1)) := by
  rw [drop_set_at h]; rfl
theorem val_app (a b : List Int) : val (a ++ b) = val a + pb a.length * val b := by
  induction a with
  | nil => show val b = 0 + 1 * val b; omega
  | cons d l ih =>
    show d + 4294967296 * val (l ++ b) = d + 4294967296 * val l + 4294967296 * pb l.length * val b
    rw [ih, Int.mul_add, ← Int.mul_assoc]; omega
theorem val_split (l : List Int) (i : Nat) (h : i ≤ l.length) : val l = val (l.take i) + pb i * val (l.drop i) := by
  have e := val_app (l.take i) (l.drop i)
  rw [List.take_append_drop, List.length_take, Nat.min_eq_left h] at e
  exact e
theorem digits_drop' {ds : List Int} (h : digits ds) (k : Nat) : digits (ds.drop k) := fun d hd => h d (List.mem_of_mem_drop hd)

/-- by: one round. -/
theorem by_step {r p b o x : Int} (r0 : 0 ≤ r) (r1 : r < b) (p0 : 0 ≤ p) (p1 : p < 4294967296) (b1 : b < 4294967296) (h : o * b + r = x) :
    (IntKind.u64.wrap ((bits .or .u64 (r * 4294967296) p).tdiv b) % 4294967296 + 4294967296 * o) * b + (bits .or .u64 (r * 4294967296) p).tmod b = p + 4294967296 * x ∧ 0 ≤ (bits .or .u64 (r * 4294967296) p).tmod b ∧ (bits .or .u64 (r * 4294967296) p).tmod b < b := by
  rw [or64_sum p0 p1 r0 (by omega)]
  generalize hq : r * 4294967296 + p = q
  have q0 : 0 ≤ q := by omega
  have e := Int.mul_tdiv_add_tmod q b
  have m0 := Int.tmod_nonneg b q0
  have m1 := Int.tmod_lt_of_pos q (show 0 < b by omega)
  have d0 : 0 ≤ q.tdiv b := Int.tdiv_nonneg q0 (by omega)
  have d1 : q.tdiv b < 4294967296 := by
    apply Classical.byContradiction
    intro hn
    have := Int.mul_le_mul_of_nonneg_left (show 4294967296 ≤ q.tdiv b by omega) (show 0 ≤ b by omega)
    omega
  generalize q.tdiv b = d at *
  generalize q.tmod b = m at *
  refine ⟨?_, m0, m1⟩
  rw [IntKind.wrap_u64, show d % 18446744073709551616 % 4294967296 = d by omega, Int.add_mul, Int.mul_assoc, Int.mul_comm d b]
  omega

theorem pow_dvd32 {n : Nat} (hn : n ≤ 31) : (2 : Int) ^ n ∣ 4294967296 := by
  have : (4294967296 : Int) = 2 ^ n * 2 ^ (32 - n) := by rw [← Int.pow_add, show n + (32 - n) = 32 by omega]; decide
  exact ⟨_, this⟩
theorem pow_pos2 (n : Nat) : (0 : Int) < 2 ^ n := Int.pow_pos (by decide)
theorem pow_le31 {n : Nat} (hn : n ≤ 31) : (2 : Int) ^ n ≤ 2147483648 := by
  have := Int.mul_le_mul_of_nonneg_left (show (1 : Int) ≤ 2 ^ (31 - n) by have := pow_pos2 (31 - n); omega) (show (0 : Int) ≤ 2 ^ n by have := pow_pos2 n; omega)
  rw [← Int.pow_add, show n + (31 - n) = 31 by omega] at this
  have e : (2 : Int) ^ 31 = 2147483648 := by decide
  omega

/-- shifted: i parts are done. -/
def Shi (a : List Int) (n i : Nat) (out : List Int) : Prop :=
  out.length = a.length + 1 ∧ digits out ∧ val (out.take (i + 1)) = val (a.take i) * 2 ^ n ∧ (∀ j, i < j → out.getD j 0 = 0) ∧ out.getD i 0 < 2 ^ n
theorem Shi.start (a : List Int) (n : Nat) : Shi a n 0 (List.replicate (a.length + 1) 0) := by
  refine ⟨by simp, digits_zero _, ?_, fun j _ => getD_zeros _ j, by rw [getD_zeros]; exact pow_pos2 n⟩
  rw [val_take_succ', getD_zeros]
  simp [val]
theorem Shi.step {a : List Int} {n i : Nat} {out : List Int} (h : Shi a n i out) (hi : i < a.length) (hn : n ≤ 31) (da : digits a) :
    Shi a n (i + 1) ((out.set i (bits .or .u32 (out.getD i 0) (IntKind.u64.wrap (a.getD i 0 * 2 ^ n) % 4294967296))).set (i + 1) (bits .or .u32 (out.getD (i + 1) 0) (IntKind.u64.wrap (a.getD i 0 * 2 ^ n) / 4294967296 % 4294967296))) := by
  obtain ⟨h1, h2, h3, h4, h5⟩ := h
  obtain ⟨p0, p1⟩ := getD_mem da i
  obtain ⟨z0, z1⟩ := getD_mem h2 i
  rw [h4 (i + 1) (by omega)]
  have n1 := pow_le31 hn
  have n0 := pow_pos2 n
  have hp : 0 ≤ a.getD i 0 * 2 ^ n := Int.mul_nonneg p0 (by omega)
  have hq : a.getD i 0 * 2 ^ n < 4294967296 * 2 ^ n := Int.mul_lt_mul_of_pos_right p1 n0
  have hdvd : (2 : Int) ^ n ∣ a.getD i 0 * 2 ^ n := ⟨a.getD i 0, Int.mul_comm _ _⟩
  have hx : a.getD i 0 * 2 ^ n < 18446744073709551616 := by
    have := Int.mul_le_mul_of_nonneg_left n1 (show (0 : Int) ≤ 4294967296 by decide)
    omega
  have ew : IntKind.u64.wrap (a.getD i 0 * 2 ^ n) = a.getD i 0 * 2 ^ n := by rw [IntKind.wrap_u64]; omega
  have hmod : (a.getD i 0 * 2 ^ n) % 4294967296 % 2 ^ n = 0 := by
    rw [Int.emod_emod_of_dvd _ (pow_dvd32 hn)]
    exact Int.emod_eq_zero_of_dvd hdvd
  rw [ew]
  have vt : val (a.take (i + 1)) * 2 ^ n = val (a.take i) * 2 ^ n + pb i * (a.getD i 0 * 2 ^ n) := by rw [val_take_succ', Int.add_mul, Int.mul_assoc]
  generalize hP : a.getD i 0 * 2 ^ n = P at *
  have hh : P / 4294967296 < 2 ^ n := by omega
  rw [or32_sum n z0 h5 z1 (by omega) (by omega) hmod, or32_zero (by omega) (by omega), show P / 4294967296 % 4294967296 = P / 4294967296 by omega]
  have hzl : out.getD i 0 + P % 4294967296 < 4294967296 := by
    have hb := or32_range (out.getD i 0) (P % 4294967296)
    have e := or32_sum n z0 h5 z1 (show 0 ≤ P % 4294967296 by omega) (by omega) hmod
    rw [e] at hb
    omega
  have hli : i < out.length := by omega
  refine ⟨by simp [h1], digits_set (digits_set h2 i (by omega)) (i + 1) (by omega), ?_, fun j hj => ?_, ?_⟩
  · rw [val_take_set (by simp; omega), val_take_set hli, vt, ← h3, val_take_succ' out i, Int.mul_add]
    show _ + 4294967296 * pb i * (P / 4294967296) = _
    have e : pb i * P = pb i * (P % 4294967296) + 4294967296 * pb i * (P / 4294967296) := by
      have : P = P % 4294967296 + 4294967296 * (P / 4294967296) := by omega
      calc pb i * P = pb i * (P % 4294967296 + 4294967296 * (P / 4294967296)) := by rw [← this]
        _ = _ := by rw [Int.mul_add, ← Int.mul_assoc, Int.mul_comm (pb i) 4294967296]
    omega
  · rw [getD_set_ne' (by omega), getD_set_ne' (by omega)]
    exact h4 j (by omega)
  · rw [getD_set_at (by simp; omega)]
    exact hh
theorem Shi.done {a : List Int} {n : Nat} {out : List Int} (h : Shi a n a.length out) : val out = val a * 2 ^ n ∧ out.getD a.length 0 < 2 ^ n := by
  obtain ⟨h1, h2, h3, h4, h5⟩ := h
  rw [← h1, List.take_length, List.take_length] at h3
  exact ⟨h3, h5⟩

/-- takes: so many times the parts, i of them. -/
def Ti (b : List Int) (many : Int) (i : Nat) (o : Int) (out : List Int) : Prop :=
  digits out ∧ (0 ≤ o ∧ o < 4294967296) ∧ out.length = b.length + 1 ∧ val (out.take i) + pb i * o = val ((b ++ [0]).take i) * many ∧ ∀ j, i ≤ j → out.getD j 0 = (b ++ [0]).getD j 0
theorem Ti.start {many : Int} {b : List Int} (h : digits b) : Ti b many 0 0 (b ++ [0]) := ⟨digits_app0 h, by omega, by simp, by simp [val], fun j _ => rfl⟩
theorem Ti.step {b : List Int} {many o : Int} {i : Nat} {out : List Int} (h : Ti b many i o out) (hi : i < out.length) (s : Int) (hs : 0 ≤ s ∧ s < 18446744073709551616) (e : s = o + out.getD i 0 * many) : Ti b many (i + 1) (s / 4294967296) (out.set i (s % 4294967296)) := by
  obtain ⟨h1, h2, h3, h4, h5⟩ := h
  refine ⟨digits_set h1 i (by omega), by omega, by simp [h3], ?_, fun j hj => by rw [getD_set_ne' (by omega)]; exact h5 j (by omega)⟩
  rw [val_take_set hi, val_take_succ', ← h5 i (Nat.le_refl _), Int.add_mul, ← h4, Int.mul_assoc, show out.getD i 0 * many = s - o by omega]
  show _ + 4294967296 * pb i * (s / 4294967296) = _
  have e2 : pb i * s = pb i * (s % 4294967296) + 4294967296 * pb i * (s / 4294967296) := by
    have : s = s % 4294967296 + 4294967296 * (s / 4294967296) := by omega
    calc pb i * s = pb i * (s % 4294967296 + 4294967296 * (s / 4294967296)) := by rw [← this]
      _ = _ := by rw [Int.mul_add, ← Int.mul_assoc, Int.mul_comm (pb i) 4294967296]
  rw [Int.mul_sub]
  omega
theorem Ti.done {b : List Int} {many o : Int} {out : List Int} (h : Ti b many (b.length + 1) o out) (db : digits b) (m0 : 0 ≤ many) (m1 : many < 4294967296) : digits out ∧ val out = val b * many := by
  obtain ⟨h1, h2, h3, h4, h5⟩ := h
  refine ⟨h1, ?_⟩
  have et : (b ++ [0]).take (b.length + 1) = b ++ [0] := List.take_of_length_le (by simp)
  rw [← h3, List.take_length, h3, et, val_snoc, Int.mul_zero, Int.add_zero] at h4
  have hb := val_bounds b db
  have ho := val_bounds out h1
  have hp := pb_pos b.length
  have : val b * many < pb (b.length + 1) := by
    have k1 := Int.mul_le_mul_of_nonneg_left (show many ≤ 4294967296 by omega) hb.1
    show _ < 4294967296 * pb b.length
    omega
  by_cases e : o = 0
  · rw [e, Int.mul_zero, Int.add_zero] at h4; exact h4
  · have := Int.mul_le_mul_of_nonneg_left (show 1 ≤ o by omega) (show 0 ≤ pb (b.length + 1) by have := pb_pos (b.length + 1); omega)
    omega

theorem part_eq {x y : List Int} (hl : x.length = y.length) {k : Nat} (h : ∀ j, k ≤ j → j < x.length → x.getD j 0 = y.getD j 0) : x.drop k = y.drop k := by
  apply List.ext_getElem
  · simp [hl]
  · intro j h1 h2
    simp only [List.length_drop] at h1 h2
    have := h (k + j) (by omega) (by omega)
    rw [List.getD_eq_getElem?_getD, List.getD_eq_getElem?_getD, List.getElem?_eq_getElem (by omega), List.getElem?_eq_getElem (by omega)] at this
    rw [List.getElem_drop, List.getElem_drop]
    exact this
theorem top_lt {x y : List Int} (hl : x.length = y.length) (dx : digits x) (dy : digits y) {i : Nat} (hi : i < x.length) (h : x.getD i 0 < y.getD i 0) (he : ∀ j, i + 1 ≤ j → j < x.length → x.getD j 0 = y.getD j 0) : val x < val y := by
  have e := part_eq hl he
  rw [val_split x i (by omega), val_split y i (by omega), val_drop_succ hi, val_drop_succ (show i < y.length by omega), e]
  have b1 := val_bounds _ (digits_take dx i)
  have b2 := val_bounds _ (digits_take dy i)
  rw [List.length_take, Nat.min_eq_left (by omega)] at b1 b2
  generalize val (y.drop (i + 1)) = t at *
  have := Int.mul_le_mul_of_nonneg_left (show x.getD i 0 + 4294967296 * t + 1 ≤ y.getD i 0 + 4294967296 * t by omega) (show 0 ≤ pb i by have := pb_pos i; omega)
  rw [Int.mul_add (pb i) _ 1, Int.mul_one] at this
  omega
theorem all_eq {x y : List Int} (hl : x.length = y.length) (he : ∀ j, 0 ≤ j → j < x.length → x.getD j 0 = y.getD j 0) : val x = val y := by
  have e := part_eq hl he
  rw [List.drop_zero, List.drop_zero] at e
  rw [e]

/-- long: the places from gk on are done. -/
def Lg (V B : Int) (m n gk : Nat) (q R : List Int) : Prop :=
  q.length = m - n ∧ digits q ∧ R.length = m ∧ digits R ∧ V = val R + B * (pb gk * val (q.drop gk)) ∧ val (R.drop gk) < B
theorem Lg.step {V B G : Int} {m n i : Nat} {q R o5 : List Int} (h : Lg V B m n (i + 1) q R) (hi : i < m - n) (hn : n ≤ m) (G0 : 0 ≤ G ∧ G < 4294967296) (dr : digits R)
    (l5 : o5.length = n + 1) (d5 : digits o5) (v5 : val o5 = val ((R.drop i).take (n + 1)) - G * B) (hlt : val (R.drop i) < (G + 1) * B) (htop : val (R.drop (i + n + 1)) = 0) :
    Lg V B m n i (q.set i G) (R.take i ++ (o5 ++ R.drop (i + (n + 1)))) := by
  obtain ⟨h1, h2, h3, h4, h5, h6⟩ := h
  have hlen : (R.take i).length = i := by rw [List.length_take]; omega
  have ev : val (R.drop i) = val ((R.drop i).take (n + 1)) := by
    have := val_split (R.drop i) (n + 1) (by rw [List.length_drop]; omega)
    rw [List.drop_drop, show i + (n + 1) = i + n + 1 by omega, htop, Int.mul_zero, Int.add_zero] at this
    exact this
  have ed : val ((R.take i ++ (o5 ++ R.drop (i + (n + 1)))).drop i) = val o5 := by
    rw [List.drop_append_of_le_length (by omega), List.drop_of_length_le (by omega), List.nil_append, val_app, show i + (n + 1) = i + n + 1 by omega, htop, Int.mul_zero, Int.add_zero]
  refine ⟨by simp [h1], digits_set h2 i G0, by simp [l5]; omega, ?_, ?_, ?_⟩
  · intro d hd
    rcases List.mem_append.1 hd with hd | hd
    · exact h4 d (List.mem_of_mem_take hd)
    · rcases List.mem_append.1 hd with hd | hd
      · exact d5 d hd
      · exact h4 d (List.mem_of_mem_drop hd)
  · rw [val_drop_set (by omega), h5, val_split R i (by omega), val_split (R.take i ++ (o5 ++ R.drop (i + (n + 1)))) i (by simp [l5]; omega), ed, v5, ev, List.take_append_of_le_length (by omega), List.take_take, Nat.min_self]
    show _ + B * (4294967296 * pb i * val (q.drop (i + 1))) = _
    generalize val (q.drop (i + 1)) = Q
    generalize val ((R.drop i).take (n + 1)) = W
    generalize val (R.take i) = T
    generalize pb i = P
    grind
  · rw [ed, v5, ← ev]
    rw [Int.add_mul, Int.one_mul] at hlt
    omega
theorem high_zero {R : List Int} (dr : digits R) {B : Int} {i n : Nat} (h : val (R.drop (i + 1)) < B) (hB : B < pb n) (hl : i + n < R.length) : val (R.drop (i + n + 1)) = 0 := by
  have e := val_split (R.drop (i + 1)) n (by rw [List.length_drop]; omega)
  rw [List.drop_drop, show i + 1 + n = i + n + 1 by omega] at e
  have b1 := val_bounds _ (digits_take (digits_drop' dr (i + 1)) n)
  have b2 := val_bounds _ (digits_drop' dr (i + n + 1))
  by_cases h0 : val (R.drop (i + n + 1)) = 0
  · exact h0
  · have := Int.mul_le_mul_of_nonneg_left (show 1 ≤ val (R.drop (i + n + 1)) by omega) (show 0 ≤ pb n by have := pb_pos n; omega)
    omega
theorem guess_ok {R : List Int} (dr : digits R) {B bl : Int} {i n : Nat} (hl : i + n < R.length) (n0 : 0 < n) (hB : bl * pb (n - 1) ≤ B) (hB2 : B < pb n) (bp : 0 < bl) (h : val (R.drop (i + 1)) < B) :
    val (R.drop i) < (min (IntKind.u64.wrap ((bits BinOp.or IntKind.u64 (R.getD (i + n) 0 * 4294967296) (R.getD (i + n - 1) 0)).tdiv bl)) 4294967295 + 1) * B := by
  have hz := high_zero dr h hB2 hl
  obtain ⟨x0, x1⟩ := getD_mem dr (i + n)
  obtain ⟨y0, y1⟩ := getD_mem dr (i + n - 1)
  have e := val_split (R.drop i) (n - 1) (by rw [List.length_drop]; omega)
  rw [List.drop_drop, show i + (n - 1) = i + n - 1 by omega, val_drop_succ (show i + n - 1 < R.length by omega), show i + n - 1 + 1 = i + n by omega, val_drop_succ hl, hz, Int.mul_zero, Int.add_zero] at e
  have b1 := val_bounds _ (digits_take (digits_drop' dr i) (n - 1))
  rw [List.length_take, List.length_drop, Nat.min_eq_left (by omega)] at b1
  have hi1 : val (R.drop i) = R.getD i 0 + 4294967296 * val (R.drop (i + 1)) := val_drop_succ (by omega)
  obtain ⟨r0, r1⟩ := getD_mem dr i
  rw [or64_sum y0 y1 x0 x1]
  have X0 : 0 ≤ R.getD (i + n) 0 * 4294967296 + R.getD (i + n - 1) 0 := by omega
  have X1 : R.getD (i + n) 0 * 4294967296 + R.getD (i + n - 1) 0 < 18446744073709551616 := by omega
  have e3 : R.getD (i + n - 1) 0 + 4294967296 * R.getD (i + n) 0 = R.getD (i + n) 0 * 4294967296 + R.getD (i + n - 1) 0 := by omega
  rw [e3] at e
  generalize R.getD (i + n) 0 * 4294967296 + R.getD (i + n - 1) 0 = X at *
  have d0 : 0 ≤ X.tdiv bl := Int.tdiv_nonneg X0 (by omega)
  have dm := Int.mul_tdiv_add_tmod X bl
  have m1 := Int.tmod_lt_of_pos X bp
  have d1 : X.tdiv bl ≤ X := by
    have := Int.mul_le_mul_of_nonneg_right (show 1 ≤ bl by omega) d0
    have := Int.tmod_nonneg bl X0
    omega
  rw [IntKind.wrap_u64, show X.tdiv bl % 18446744073709551616 = X.tdiv bl by omega]
  generalize X.tdiv bl = d at *
  have P0 := pb_pos (n - 1)
  have B0 : 0 < B := by
    have := Int.mul_pos bp P0
    omega
  by_cases hd : d ≤ 4294967295
  · rw [show min d 4294967295 = d by omega]
    have k1 := Int.mul_le_mul_of_nonneg_left (show X + 1 ≤ bl * (d + 1) by rw [Int.mul_add, Int.mul_one]; omega) (show 0 ≤ pb (n - 1) by omega)
    have k2 := Int.mul_le_mul_of_nonneg_left hB (show 0 ≤ d + 1 by omega)
    rw [Int.mul_add, Int.mul_one] at k1
    have e5 : pb (n - 1) * (bl * (d + 1)) = (d + 1) * (bl * pb (n - 1)) := by grind
    omega
  · rw [show min d 4294967295 = 4294967295 by omega]
    omega

/-- parted: the rest is moved down, i parts. -/
def Dn (d : List Int) (s i : Nat) (out : List Int) : Prop :=
  out.length = d.length ∧ digits out ∧ (∃ r, 0 ≤ r ∧ r < 2 ^ s ∧ val (d.take i) = 2 ^ s * val (out.take i) + r) ∧ (∀ j, i ≤ j → out.getD j 0 = 0) ∧ (0 < i → out.getD (i - 1) 0 = d.getD (i - 1) 0 / 2 ^ s)
theorem Dn.start (d : List Int) (s : Nat) : Dn d s 0 (List.replicate d.length 0) :=
  ⟨by simp, digits_zero _, ⟨0, by omega, pow_pos2 s, by simp [val]⟩, fun j _ => getD_zeros _ j, fun h => absurd h (by omega)⟩
theorem down_in {p : Int} (s : Nat) (p0 : 0 ≤ p) (p1 : p < 4294967296) : 0 ≤ p / 2 ^ s ∧ p / 2 ^ s < 4294967296 := by
  have n0 := pow_pos2 s
  refine ⟨Int.ediv_nonneg p0 (by omega), Int.ediv_lt_of_lt_mul n0 ?_⟩
  have := Int.mul_le_mul_of_nonneg_left (show (1 : Int) ≤ 2 ^ s by omega) (show (0 : Int) ≤ 4294967296 by decide)
  omega
theorem Dn.first {d : List Int} {s i : Nat} {out : List Int} (h : Dn d s i out) (hi : i < d.length) (dd : digits d) : bits .or .u32 (out.getD i 0) (d.getD i 0 / 2 ^ s) = d.getD i 0 / 2 ^ s := by
  obtain ⟨h1, h2, h3, h4, h5⟩ := h
  obtain ⟨p0, p1⟩ := getD_mem dd i
  obtain ⟨q0, q1⟩ := down_in s p0 p1
  rw [h4 i (Nat.le_refl _), or32_zero q0 q1]
theorem Dn.step0 {d : List Int} {s : Nat} {out : List Int} (h : Dn d s 0 out) (hi : 0 < d.length) (dd : digits d) : Dn d s 1 (out.set 0 (d.getD 0 0 / 2 ^ s)) := by
  obtain ⟨h1, h2, h3, h4, h5⟩ := h
  obtain ⟨p0, p1⟩ := getD_mem dd 0
  have q := down_in s p0 p1
  refine ⟨by simp [h1], digits_set h2 0 q, ⟨d.getD 0 0 % 2 ^ s, Int.emod_nonneg _ (by have := pow_pos2 s; omega), Int.emod_lt_of_pos _ (pow_pos2 s), ?_⟩, fun j hj => by rw [getD_set_ne' (by omega)]; exact h4 j (by omega), fun _ => getD_set_at (by omega) _⟩
  rw [val_take_set (by omega), val_take_succ']
  simp only [List.take_zero, val, pb, Int.one_mul, Int.zero_add]
  exact (Int.mul_ediv_add_emod _ _).symm
theorem Dn.step {d : List Int} {s i : Nat} {out : List Int} (h : Dn d s (i + 1) out) (hi : i + 1 < d.length) (hs : s ≤ 31) (dd : digits d) :
    Dn d s (i + 2) ((out.set (i + 1) (d.getD (i + 1) 0 / 2 ^ s)).set i (bits .or .u32 (out.getD i 0) (d.getD (i + 1) 0 * 2 ^ (32 - s) % 4294967296))) := by
  obtain ⟨h1, h2, ⟨r, r0, r1, h3⟩, h4, h5⟩ := h
  obtain ⟨p0, p1⟩ := getD_mem dd (i + 1)
  obtain ⟨c0, c1⟩ := getD_mem dd i
  have h6 : out.getD i 0 = d.getD i 0 / 2 ^ s := h5 (by omega)
  have q := down_in s p0 p1
  have n0 := pow_pos2 s
  have m0 := pow_pos2 (32 - s)
  have e32 : (4294967296 : Int) = 2 ^ (32 - s) * 2 ^ s := by rw [← Int.pow_add, show 32 - s + s = 32 by omega]; decide
  have hx := Int.mul_ediv_add_emod (d.getD (i + 1) 0) (2 ^ s)
  have y0 := Int.emod_nonneg (d.getD (i + 1) 0) (show (2 : Int) ^ s ≠ 0 by omega)
  have y1 := Int.emod_lt_of_pos (d.getD (i + 1) 0) n0
  have hy : d.getD (i + 1) 0 * 2 ^ (32 - s) % 4294967296 = 2 ^ (32 - s) * (d.getD (i + 1) 0 % 2 ^ s) := by
    rw [e32, Int.mul_comm (d.getD (i + 1) 0), Int.mul_emod_mul_of_pos _ _ m0]
  have hz : out.getD i 0 < 2 ^ (32 - s) := by
    rw [h6]
    refine Int.ediv_lt_of_lt_mul n0 ?_
    rw [← e32]
    exact c1
  have z0 : 0 ≤ out.getD i 0 := (getD_mem h2 i).1
  have z1 : out.getD i 0 < 4294967296 := (getD_mem h2 i).2
  rw [hy]
  have w0 : 0 ≤ 2 ^ (32 - s) * (d.getD (i + 1) 0 % 2 ^ s) := Int.mul_nonneg (by omega) y0
  have w1 : 2 ^ (32 - s) * (d.getD (i + 1) 0 % 2 ^ s) < 4294967296 := by rw [e32]; exact Int.mul_lt_mul_of_pos_left y1 m0
  have eor := or32_sum (32 - s) z0 hz z1 w0 w1 (Int.emod_eq_zero_of_dvd ⟨_, rfl⟩)
  have hin := or32_range (out.getD i 0) (2 ^ (32 - s) * (d.getD (i + 1) 0 % 2 ^ s))
  rw [eor] at hin ⊢
  refine ⟨by simp [h1], digits_set (digits_set h2 _ q) _ hin, ⟨r, r0, r1, ?_⟩, fun j hj => by rw [getD_set_ne' (by omega), getD_set_ne' (by omega)]; exact h4 j (by omega), fun _ => by rw [getD_set_ne' (by omega)]; exact getD_set_at (by omega) _⟩
  rw [show i + 2 = i + 1 + 1 by omega, val_take_succ' d, h3, val_take_succ' _ (i + 1), getD_set_ne' (show i ≠ i + 1 by omega), getD_set_at (show i + 1 < out.length by omega), val_take_set (by simp; omega)]
  rw [List.take_set_of_le (Nat.le_succ i)]
  rw [val_take_succ' out i]
  show _ + 4294967296 * pb i * d.getD (i + 1) 0 = 2 ^ s * (_ + 4294967296 * pb i * _) + r
  generalize val (out.take i) = T at *
  generalize out.getD i 0 = z at *
  generalize d.getD (i + 1) 0 % 2 ^ s = y at *
  generalize d.getD (i + 1) 0 / 2 ^ s = x at *
  rw [← hx]
  generalize (2 : Int) ^ s = S at *
  generalize (2 : Int) ^ (32 - s) = M at *
  generalize pb i = P at *
  have e7 : 4294967296 * P * y = S * (P * (M * y)) := by rw [e32]; grind
  grind
theorem Dn.done {d : List Int} {s : Nat} {out : List Int} (h : Dn d s d.length out) {z : Int} (hz : val d = 2 ^ s * z) : val out = z := by
  obtain ⟨h1, h2, ⟨r, r0, r1, h3⟩, h4, h5⟩ := h
  rw [List.take_length, ← h1, List.take_length, hz] at h3
  have n0 := pow_pos2 s
  have e : 2 ^ s * (z - val out) = r := by rw [Int.mul_sub]; omega
  have : z - val out = 0 := by
    rcases Int.lt_trichotomy (z - val out) 0 with h | h | h
    · have := Int.mul_le_mul_of_nonneg_left (show z - val out ≤ -1 by omega) (show (0 : Int) ≤ 2 ^ s by omega)
      omega
    · exact h
    · have := Int.mul_le_mul_of_nonneg_left (show 1 ≤ z - val out by omega) (show (0 : Int) ≤ 2 ^ s by omega)
      omega
  omega
end Go.Proofs.YtmidifgnpjlgcaaGreat
/- Division by one part: the walk of by, with what it comes to. -/
set_option linter.unusedVariables false
set_option linter.unusedSimpArgs false
namespace Go.Proofs.YtmidifgnpjlgcaaGreat
open Go.RowKit

set_option maxHeartbeats 8000000 in
set_option maxRecDepth 100000 in
theorem by_any (s : Value) (a : List Int) (b : Int) (w : World) (h1 : Dg w s a) (d1 : digits a) (l1 : a.length ≤ 900000) (b0 : 0 < b) (b1 : b < 4294967296) :
    Calls Tryz.prog 116 #[s, .int .u32 b] w fun e w' => ∃ v out r, e = .returned (.tuple #[v, .int .u32 r]) ∧ Dg w' v out ∧ digits out ∧ out.length = a.length ∧ (0 ≤ r ∧ r < b ∧ val out * b + r = val a) ∧ Below w.heap.size w w' := by
  obtain ⟨A, c, rfl, ha⟩ := h1.len
  have HA := Lib.hid ha
  have D1 := Lib.hid (fun k => getD_mem d1 k)
  clear ha d1 h1
  have K := Lib.hid (Keep.start w)
  have hmk := mk_row a.length (by omega) (a.length : Int) rfl
  go_enter Tryz.func116, Tryz.ntmps116
  go_upto_region 2 with fail
  clear hmk
  replace K := Lib.hid (K.out.alloc (Obj.row (List.replicate a.length 0)))
  (refine out_keep K.out ?_; clear K; intro W K; replace K := Lib.hid K)
  go_wp2_with fail
  go_loopg [7, 8] a.length (fun gk rv iv wr => ∃ (r : Int) (out : List Int), iv = .int .i64 ((gk : Int) - 1) ∧ rv = .int .u64 r ∧ gk ≤ a.length ∧ (0 ≤ r ∧ r < b) ∧ out.length = a.length ∧ digits out ∧ val (out.drop gk) * b + r = val (a.drop gk) ∧ Keep w [(w.heap.size, Obj.row out)] wr)
  case atStart => exact ⟨0, _, rfl, rfl, Nat.le_refl _, by omega, by simp, digits_zero _, by simp [val], K.out⟩
  case round =>
    clear K
    obtain ⟨r, out, rfl, rfl, hg, ⟨r0, r1⟩, ho, hd, hv, k⟩ := hrel
    have HV := Lib.hid hv
    have K := Lib.hid k
    have HO := Lib.hid ho
    have HD := Lib.hid hd
    clear k ho hd hv
    have r2 : r < 4294967296 := by omega
    cases gk with
    | zero =>
      have HG := Lib.hid (K.out.rowd (.head _) (c := a.length) (by rw [HO.out]; omega))
      rw [HO.out] at HG
      go_wp2_with fail
      go_ret2
      exact ⟨_, out, r, rfl, HG.out, HD.out, HO.out, ⟨r0, r1, HV.out⟩, K.out.B⟩
    | succ i =>
      obtain ⟨x, rfl, hx, hxc⟩ := HA.out (by omega)
      have X := kept_cell K.out hx (hxc i (by omega))
      obtain ⟨p1, p2⟩ := D1.out i
      have hio : Hid (i < out.length) := by show _ < _; rw [HO.out]; omega
      have Z := K.out.rowc (.head _) i hio.out
      have f5 := K.out.roww (.head _)
      clear hx hxc
      have HVA := Lib.hid (val_drop_succ (l := a) (i := i) (by omega))
      generalize a.getD i 0 = p at *
      generalize out.getD i 0 = z at *
      have HT := Lib.hid (by_step r0 r1 p1 p2 b1 HV.out)
      go_wp2_with fail
      replace K := Lib.hid (K.out.setr_0 i (IntKind.u64.wrap ((bits BinOp.or IntKind.u64 (r * 4294967296) p).tdiv b) % 4294967296))
      clear X Z f5
      go_roundg i
      case measure => omega
      case rel => exact ⟨_, _, congrArg (Value.int .i64) (by omega), rfl, by omega, HT.out.2, by rw [List.length_set]; exact HO.out, digits_set HD.out i (by omega), by rw [val_drop_set hio.out, HVA.out]; exact HT.out.1, K.out⟩
end Go.Proofs.YtmidifgnpjlgcaaGreat
/- How many bits: the walks of Len32 and LeadingZeros32. -/
set_option linter.unusedVariables false
set_option linter.unusedSimpArgs false
namespace Go.Proofs.YtmidifgnpjlgcaaGreat
open Go.RowKit

theorem len_fin {x : Int} (k : Nat) (i : Int) (h0 : 0 ≤ i) (h1 : i < 256) (hx : x < (i + 1) * 2 ^ k) : x < 2 ^ (k + bitLen i.toNat) := by
  have h := (bitLen_spec i.toNat).1
  have h2 : i + 1 ≤ ((2 ^ bitLen i.toNat : Nat) : Int) := by omega
  have h3 : (0 : Int) ≤ 2 ^ k := Int.pow_nonneg (by decide)
  have h4 := Int.mul_le_mul_of_nonneg_right h2 h3
  rw [Int.pow_add, Int.mul_comm]
  have e : ((2 ^ bitLen i.toNat : Nat) : Int) = 2 ^ bitLen i.toNat := by simp
  rw [e] at h4
  omega

set_option maxHeartbeats 8000000 in
set_option maxRecDepth 100000 in
theorem len32_any (x : Int) (w : World) (x0 : 0 ≤ x) (x1 : x < 4294967296) :
    Calls Tryz.prog 120 #[.int .u32 x] w fun e w' => ∃ L : Nat, e = .returned (.int .i64 L) ∧ x < 2 ^ L ∧ L ≤ 32 ∧ Below w.heap.size w w' := by
  have K := Lib.hid (Keep.start w)
  by_cases h1 : 65536 ≤ x
  · by_cases h2 : 16777216 ≤ x
    · skip
      go_enter Tryz.func120, Tryz.ntmps120
      go_wp2_with fail
      go_ret
      refine ⟨24 + bitLen (x / 65536 / 256).toNat, ?_, len_fin 24 (x / 65536 / 256) (by omega) (by omega) (by omega), by have := bitLen_le8 (x / 65536 / 256).toNat (by omega); omega, K.out.B⟩
      rw [len8tab_get]
      have := bitLen_le8 (x / 65536 / 256).toNat (by omega)
      refine ret_int ?_
      simp only [wrap64]
      omega
    · skip
      go_enter Tryz.func120, Tryz.ntmps120
      go_wp2_with fail
      go_ret
      refine ⟨16 + bitLen (x / 65536).toNat, ?_, len_fin 16 (x / 65536) (by omega) (by omega) (by omega), by have := bitLen_le8 (x / 65536).toNat (by omega); omega, K.out.B⟩
      rw [len8tab_get]
      have := bitLen_le8 (x / 65536).toNat (by omega)
      refine ret_int ?_
      simp only [wrap64]
      omega
  · by_cases h2 : 256 ≤ x
    · skip
      go_enter Tryz.func120, Tryz.ntmps120
      go_wp2_with fail
      go_ret
      refine ⟨8 + bitLen (x / 256).toNat, ?_, len_fin 8 (x / 256) (by omega) (by omega) (by omega), by have := bitLen_le8 (x / 256).toNat (by omega); omega, K.out.B⟩
      rw [len8tab_get]
      have := bitLen_le8 (x / 256).toNat (by omega)
      refine ret_int ?_
      simp only [wrap64]
      omega
    · skip
      go_enter Tryz.func120, Tryz.ntmps120
      go_wp2_with fail
      go_ret
      refine ⟨0 + bitLen (x).toNat, ?_, len_fin 0 (x) (by omega) (by omega) (by omega), by have := bitLen_le8 (x).toNat (by omega); omega, K.out.B⟩
      rw [len8tab_get]
      have := bitLen_le8 (x).toNat (by omega)
      refine ret_int ?_
      simp only [wrap64]
      omega

set_option maxHeartbeats 8000000 in
set_option maxRecDepth 100000 in
theorem lz32_any (x : Int) (w : World) (x0 : 0 < x) (x1 : x < 4294967296) :
    Calls Tryz.prog 117 #[.int .u32 x] w fun e w' => ∃ n : Nat, e = .returned (.int .i64 n) ∧ n ≤ 31 ∧ x * 2 ^ n < 4294967296 ∧ Below w.heap.size w w' := by
  have K := Lib.hid (Keep.start w)
  go_enter Tryz.func117, Tryz.ntmps117
  go_wp2_with fail
  refine (len32_any x _ (by omega) x1).mono ?_
  rintro e w2 ⟨L, rfl, hL, hL2, hb⟩
  replace K := Lib.hid (Keep.stays _ _ K.out hb)
  have HL := Lib.hid hL
  clear hb hL
  go_wp2_with fail
  go_ret
  have h0 : 0 < L := by
    apply Classical.byContradiction
    intro h
    have := HL.out
    rw [show L = 0 by omega] at this
    omega
  refine ⟨32 - L, ret_int (by omega), by omega, ?_, K.out.B⟩
  have h3 : (0 : Int) < 2 ^ (32 - L) := Int.pow_pos (by decide)
  have h4 := Int.mul_lt_mul_of_pos_right HL.out h3
  rw [← Int.pow_add, show L + (32 - L) = 32 by omega] at h4
  have e : (2 : Int) ^ 32 = 4294967296 := by decide
  omega
end Go.Proofs.YtmidifgnpjlgcaaGreat
/- The walk of shifted. -/
set_option linter.unusedVariables false
set_option linter.unusedSimpArgs false
namespace Go.Proofs.YtmidifgnpjlgcaaGreat
open Go.RowKit

set_option maxHeartbeats 8000000 in
set_option maxRecDepth 100000 in
theorem shifted_any (s : Value) (a : List Int) (n : Nat) (w : World) (h1 : Dg w s a) (d1 : digits a) (l1 : a.length ≤ 900000) (n1 : n ≤ 31) :
    Calls Tryz.prog 118 #[s, .int .i64 n] w fun e w' => ∃ g out, e = .returned (.slice (some ⟨g, 0, none⟩) (a.length + 1) (a.length + 1)) ∧ w'.heap[g]? = some (Obj.row out) ∧ w.heap.size ≤ g ∧ digits out ∧ out.length = a.length + 1 ∧ val out = val a * 2 ^ n ∧ out.getD a.length 0 < 2 ^ n ∧ Below w.heap.size w w' := by
  obtain ⟨A, c, rfl, ha⟩ := h1.len
  have HA := Lib.hid ha
  have D1 := Lib.hid (fun k => getD_mem d1 k)
  have HDA := Lib.hid d1
  clear ha d1 h1
  have K := Lib.hid (Keep.start w)
  have hmk := mk_row (a.length + 1) (by omega) ((a.length : Int) + 1) (by omega)
  go_enter Tryz.func118, Tryz.ntmps118
  go_upto_region 2 with fail
  clear hmk
  replace K := Lib.hid (K.out.alloc (Obj.row (List.replicate (a.length + 1) 0)))
  (refine out_keep K.out ?_; clear K; intro W K; replace K := Lib.hid K)
  go_wp2_with fail
  go_loopg [15] a.length (fun gk iv wr => ∃ (i : Nat) (out : List Int), gk + i = a.length ∧ iv = .int .i64 (i : Int) ∧ Shi a n i out ∧ Keep w [(w.heap.size, Obj.row out)] wr)
  case atStart => exact ⟨0, _, by omega, rfl, Shi.start a n, K.out⟩
  case round =>
    clear K
    obtain ⟨i, out, hgi, rfl, hs, k⟩ := hrel
    have K := Lib.hid k
    have HO := Lib.hid hs.1
    have HD := Lib.hid hs.2.1
    have HS := Lib.hid hs
    clear k hs
    by_cases hi : i < a.length
    · obtain ⟨x, rfl, hx, hxc⟩ := HA.out (by omega)
      have X := kept_cell K.out hx (hxc i hi)
      obtain ⟨p1, p2⟩ := D1.out i
      have hio : Hid (i < out.length ∧ i + 1 < out.length) := by show _ ∧ _; rw [HO.out]; omega
      have Z := K.out.rowc (.head _) i hio.out.1
      have Z2 := K.out.rowc (.head _) (i + 1) hio.out.2
      have f5 := K.out.roww (.head _)
      have HZR := Lib.hid (And.intro (getD_mem HD.out i) (getD_mem HD.out (i + 1)))
      clear hx hxc
      have HST := Lib.hid (HS.out.step hi n1 HDA.out)
      generalize a.getD i 0 = p at *
      generalize out.getD i 0 = z at *
      generalize out.getD (i + 1) 0 = z2 at *
      obtain ⟨z0, z1⟩ := HZR.out.1
      obtain ⟨z3, z4⟩ := HZR.out.2
      go_wp2_with fail
      have K2 := (K.out.setr_0 i (bits BinOp.or IntKind.u32 z (IntKind.u64.wrap (p * 2 ^ n) % 4294967296))).setr_0 (i + 1) (bits BinOp.or IntKind.u32 z2 (IntKind.u64.wrap (p * 2 ^ n) / 4294967296 % 4294967296))
      replace K := Lib.hid K2
      clear K2 X Z Z2 f5
      go_roundg (gk - 1)
      case measure => omega
      case rel =>
        exact ⟨i + 1, _, by omega, congrArg (Value.int .i64) (by omega), HST.out, K.out⟩
    · have HN := Lib.hid ((show i = a.length by omega) ▸ HS.out : Shi a n a.length out).done
      go_wp2_with fail
      go_ret
      exact ⟨_, out, rfl, K.out.box _ (.head _), Nat.le_refl _, HD.out, HO.out, HN.out.1, HN.out.2, K.out.B⟩
end Go.Proofs.YtmidifgnpjlgcaaGreat
