/- The walk of the document's Add. -/
import Derived.Test.YtehjfjdopeadfaaOr
set_option linter.unusedVariables false
set_option linter.unusedSimpArgs false
namespace Go.Proofs.Ytehjfjdopeadfaa
open Go.RowKit

theorem made_zof {n neg : Bool} {ds : List Int} (h : n = (neg && decide (ds ≠ []))) : zof n ds = if neg then -val ds else val ds := by
  unfold zof
  by_cases e : ds = []
  · subst e
    have : n = false := by rw [h]; simp
    rw [this]
    cases neg <;> simp [val]
  · have : n = neg := by rw [h]; simp [e]
    rw [this]

set_option maxHeartbeats 8000000 in
set_option maxRecDepth 100000 in
theorem add_num (n m : Bool) (s t : Value) (a b : List Int) (w : World) (h1 : Num w n s a) (h2 : Num w m t b) (l1 : a.length ≤ 1000) (l2 : b.length ≤ 1000) :
    Calls Try.prog 91 #[.agg #[.bool n, s], .agg #[.bool m, t]] w fun e w' => ∃ q v out, e = .returned (.agg #[.bool q, v]) ∧ Num w' q v out ∧ zof q out = zof n a + zof m b ∧ out.length ≤ max a.length b.length + 1 ∧ Below w.heap.size w w' := by
  obtain ⟨A, c, rfl, ha⟩ := h1.1.len
  obtain ⟨B, d, rfl, hb⟩ := h2.1.len
  have K := Lib.hid (Keep.begin3 w (Obj.num n (.slice A a.length c)) (Obj.num m (.slice B b.length d)) (Obj.num false (.slice none 0 0)))
  have H1 := Lib.hid h1; have H2 := Lib.hid h2
  clear ha hb h1 h2
  by_cases e : n = m
  · subst e
    go_enter Try.func91, Try.ntmps91
    go_upto_region 1 with fail
    (refine out_keep K.out ?_; clear K; intro W K; replace K := Lib.hid K)
    obtain ⟨f1, c10, c11⟩ := K.out.nm (.tail _ (.tail _ (.head _)))
    obtain ⟨f2, c20, c21⟩ := K.out.nm (.tail _ (.head _))
    go_wp2_with fail
    clear f1 c10 c11 f2 c20 c21
    (refine region_ord _ 8 (by kernel_rfl) (by kernel_rfl) K.out.drew ?_; clear K; intro W K hbw; replace K := Lib.hid K)
    obtain ⟨e10, e11⟩ := Keep.anm K (.tail _ (.tail _ (.head _)))
    obtain ⟨e20, e21⟩ := Keep.anm K (.tail _ (.head _))
    (refine Ord.take' 0 rfl (by kernel_rfl) (fun _ _ _ _ h => h) K.out (by rfl) ?_; apply Exists.intro; refine ⟨fun p => ?_, ?_⟩; (focus (go_simp; (try (with_reducible rfl)); done)); (try simp only [Act.put, List.setIfInBounds_toArray, List.set_cons_zero, List.set_cons_succ]))
    (refine Ord.take' 1 rfl (by kernel_rfl) (fun _ _ _ _ h => h) K.out (by rfl) ?_; apply Exists.intro; refine ⟨fun p => ?_, ?_⟩; (focus (go_simp; (try (with_reducible rfl)); done)); (try simp only [Act.put, List.setIfInBounds_toArray, List.set_cons_zero, List.set_cons_succ]))
    (refine Ord.take' 2 rfl (by kernel_rfl) (fun _ _ _ _ h => h) K.out (by rfl) ?_; apply Exists.intro; refine ⟨fun p => ?_, ?_⟩; (focus (go_simp; (try (with_reducible rfl)); done)); (try simp only [Act.put, List.setIfInBounds_toArray, List.set_cons_zero, List.set_cons_succ]))
    (refine Ord.take' 3 rfl (by kernel_rfl) (fun _ _ _ _ h => h) K.out (by rfl) ?_; apply Exists.intro; refine ⟨fun p => ?_, ?_⟩; (focus (go_simp; (try (with_reducible rfl)); done)); (try simp only [Act.put, List.setIfInBounds_toArray, List.set_cons_zero, List.set_cons_succ]))
    (refine Ord.take' 4 rfl (by kernel_rfl) (fun _ _ _ _ h => h) K.out (by rfl) ?_; apply Exists.intro; refine ⟨fun p => ?_, ?_⟩; (focus (go_simp; (try (with_reducible rfl)); done)); (try simp only [Act.put, List.setIfInBounds_toArray, List.set_cons_zero, List.set_cons_succ]))
    (refine Ord.take' 5 rfl (by kernel_rfl) (fun _ _ _ _ h => h) K.out (by rfl) ?_; apply Exists.intro; refine ⟨fun p => ?_, ?_⟩; (focus (go_simp; (try (with_reducible rfl)); done)); (try simp only [Act.put, List.setIfInBounds_toArray, List.set_cons_zero, List.set_cons_succ]))
    (refine Ord.call 6 (g := 99) (args := (#[.slice A a.length c, .slice B b.length d])) rfl (by kernel_rfl) (by rfl) (by (go_simp; try (with_reducible rfl))) ?_)
    refine (plus_any _ _ a b _ (H1.out.1.below K.out.B) (H2.out.1.below K.out.B) H1.out.2.1 H2.out.2.1 l1 l2).mono ?_
    rintro e w2 ⟨v, out, rfl, hown, hdg, hlen, hval, hb⟩
    (refine ⟨_, rfl, Keep.stays _ _ K.out hb, ?_⟩; replace K := Lib.hid (Keep.stays _ _ K.out hb); simp only [Act.put, List.setIfInBounds_toArray, List.set_cons_zero, List.set_cons_succ])
    clear hb
    (refine Ord.call 7 (g := 96) (args := (#[.bool n, v])) rfl (by kernel_rfl) (by rfl) (by (go_simp; try (with_reducible rfl))) ?_)
    refine (mad_any n v out _ hown.dg hdg (by omega)).mono ?_
    rintro e w3 ⟨n2, s2, d2, rfl, hN, hv2, hl2, hn2, hb⟩
    obtain ⟨A2, c2, rfl, -⟩ := hN.1.len
    (refine ⟨_, rfl, Keep.stays _ _ K.out hb, ?_⟩; replace K := Lib.hid (Keep.stays _ _ K.out hb); simp only [Act.put, List.setIfInBounds_toArray, List.set_cons_zero, List.set_cons_succ])
    have HN := Lib.hid hN
    have HV : Hid (zof n2 d2 = zof n a + zof n b) := by
      show _ = _
      rw [made_zof hn2, hv2, hval]
      unfold zof
      cases n <;> simp <;> omega
    clear hb hN hv2 hn2 hown hdg hval e10 e11 e20 e21 hbw
    (refine Ord.done (by kernel_rfl) ?_; simp only [List.drop_succ_cons, List.drop_zero, Act.put, List.setIfInBounds_toArray, List.set_cons_zero, List.set_cons_succ])
    obtain ⟨f1, c10, c11⟩ := K.out.nm (.head _)
    go_wp2_with fail
    refine ret_nm Try.results91 rfl ((K.out.putn_0 n2 _).nb (.head _)) ?_
    exact ⟨n2, _, d2, rfl, HN.out.put (K.out.nm (.head _)).2.1 _ _, HV.out, by omega, (K.out.putn_0 n2 _).B⟩
  · obtain rfl : m = !n := by cases n <;> cases m <;> simp_all
    clear e
    have HC := Lib.hid (cmpD_ge H1.out.2.1 H2.out.2.1 H1.out.2.2.1 H2.out.2.2.1)
    go_enter Try.func91, Try.ntmps91
    go_upto_region 1 with fail
    (refine out_keep K.out ?_; clear K; intro W K; replace K := Lib.hid K)
    obtain ⟨f1, c10, c11⟩ := K.out.nm (.tail _ (.tail _ (.head _)))
    obtain ⟨f2, c20, c21⟩ := K.out.nm (.tail _ (.head _))
    have hnm : (n == !n) = false := by cases n <;> rfl
    go_wp2_with fail
    refine (size_any _ _ a b _ (H1.out.1.below K.out.B) (H2.out.1.below K.out.B) (by omega) (by omega)).mono ?_
    rintro e w2 ⟨rfl, hb⟩
    replace K := Lib.hid (Keep.stays _ _ K.out hb)
    clear hb f1 c10 c11 f2 c20 c21 hnm
    obtain ⟨hcm, cm1, cm2⟩ := HC.out
    have HC2 := Lib.hid hcm
    clear hcm HC
    generalize cmpD a b = cm at *
    by_cases hge : 0 ≤ cm
    · have hvb := Lib.hid (HC2.out.1 hge)
      have hlb := len_of_val H1.out.2.1 H2.out.2.1 H2.out.2.2.1 hvb.out
      go_wp2_with fail
      (refine region_ord _ 8 (by kernel_rfl) (by kernel_rfl) K.out.drew ?_; clear K; intro W K hbw; replace K := Lib.hid K)
      obtain ⟨e10, e11⟩ := Keep.anm K (.tail _ (.tail _ (.head _)))
      obtain ⟨e20, e21⟩ := Keep.anm K (.tail _ (.head _))
      (refine Ord.take' 0 rfl (by kernel_rfl) (fun _ _ _ _ h => h) K.out (by rfl) ?_; apply Exists.intro; refine ⟨fun p => ?_, ?_⟩; (focus (go_simp; (try (with_reducible rfl)); done)); (try simp only [Act.put, List.setIfInBounds_toArray, List.set_cons_zero, List.set_cons_succ]))
      (refine Ord.take' 1 rfl (by kernel_rfl) (fun _ _ _ _ h => h) K.out (by rfl) ?_; apply Exists.intro; refine ⟨fun p => ?_, ?_⟩; (focus (go_simp; (try (with_reducible rfl)); done)); (try simp only [Act.put, List.setIfInBounds_toArray, List.set_cons_zero, List.set_cons_succ]))
      (refine Ord.take' 2 rfl (by kernel_rfl) (fun _ _ _ _ h => h) K.out (by rfl) ?_; apply Exists.intro; refine ⟨fun p => ?_, ?_⟩; (focus (go_simp; (try (with_reducible rfl)); done)); (try simp only [Act.put, List.setIfInBounds_toArray, List.set_cons_zero, List.set_cons_succ]))
      (refine Ord.take' 3 rfl (by kernel_rfl) (fun _ _ _ _ h => h) K.out (by rfl) ?_; apply Exists.intro; refine ⟨fun p => ?_, ?_⟩; (focus (go_simp; (try (with_reducible rfl)); done)); (try simp only [Act.put, List.setIfInBounds_toArray, List.set_cons_zero, List.set_cons_succ]))
      (refine Ord.take' 4 rfl (by kernel_rfl) (fun _ _ _ _ h => h) K.out (by rfl) ?_; apply Exists.intro; refine ⟨fun p => ?_, ?_⟩; (focus (go_simp; (try (with_reducible rfl)); done)); (try simp only [Act.put, List.setIfInBounds_toArray, List.set_cons_zero, List.set_cons_succ]))
      (refine Ord.take' 5 rfl (by kernel_rfl) (fun _ _ _ _ h => h) K.out (by rfl) ?_; apply Exists.intro; refine ⟨fun p => ?_, ?_⟩; (focus (go_simp; (try (with_reducible rfl)); done)); (try simp only [Act.put, List.setIfInBounds_toArray, List.set_cons_zero, List.set_cons_succ]))
      (refine Ord.call 6 (g := 100) (args := (#[.slice A a.length c, .slice B b.length d])) rfl (by kernel_rfl) (by rfl) (by (go_simp; try (with_reducible rfl))) ?_)
      refine (less_any _ _ a b _ (H1.out.1.below K.out.B) (H2.out.1.below K.out.B) H1.out.2.1 H2.out.2.1 l1 hlb hvb.out).mono ?_
      rintro e w2 ⟨v, out, rfl, hown, hdg, hlen, hval, hb⟩
      (refine ⟨_, rfl, Keep.stays _ _ K.out hb, ?_⟩; replace K := Lib.hid (Keep.stays _ _ K.out hb); simp only [Act.put, List.setIfInBounds_toArray, List.set_cons_zero, List.set_cons_succ])
      clear hb
      (refine Ord.call 7 (g := 96) (args := (#[.bool n, v])) rfl (by kernel_rfl) (by rfl) (by (go_simp; try (with_reducible rfl))) ?_)
      refine (mad_any n v out _ hown.dg hdg (by omega)).mono ?_
      rintro e w3 ⟨n2, s2, d2, rfl, hN, hv2, hl2, hn2, hb⟩
      obtain ⟨A2, c2, rfl, -⟩ := hN.1.len
      (refine ⟨_, rfl, Keep.stays _ _ K.out hb, ?_⟩; replace K := Lib.hid (Keep.stays _ _ K.out hb); simp only [Act.put, List.setIfInBounds_toArray, List.set_cons_zero, List.set_cons_succ])
      have HN := Lib.hid hN
      have HV : Hid (zof n2 d2 = zof n a + zof (!n) b) := by
        show _ = _
        rw [made_zof hn2, hv2, hval]
        unfold zof
        cases n <;> simp <;> omega
      clear hb hN hv2 hn2 hown hdg hval e10 e11 e20 e21 hbw
      (refine Ord.done (by kernel_rfl) ?_; simp only [List.drop_succ_cons, List.drop_zero, Act.put, List.setIfInBounds_toArray, List.set_cons_zero, List.set_cons_succ])
      obtain ⟨f1, c10, c11⟩ := K.out.nm (.head _)
      go_wp2_with fail
      refine ret_nm Try.results91 rfl ((K.out.putn_0 n2 _).nb (.head _)) ?_
      exact ⟨n2, _, d2, rfl, HN.out.put (K.out.nm (.head _)).2.1 _ _, HV.out, by omega, (K.out.putn_0 n2 _).B⟩
    · have hvb : Hid (val a ≤ val b) := by
        have : ¬ val b ≤ val a := fun h => hge (HC2.out.2 h)
        show _ ≤ _
        omega
      have hlb := len_of_val H2.out.2.1 H1.out.2.1 H1.out.2.2.1 hvb.out
      go_wp2_with fail
      (refine region_ord _ 8 (by kernel_rfl) (by kernel_rfl) K.out.drew ?_; clear K; intro W K hbw; replace K := Lib.hid K)
      obtain ⟨e10, e11⟩ := Keep.anm K (.tail _ (.tail _ (.head _)))
      obtain ⟨e20, e21⟩ := Keep.anm K (.tail _ (.head _))
      (refine Ord.take' 0 rfl (by kernel_rfl) (fun _ _ _ _ h => h) K.out (by rfl) ?_; apply Exists.intro; refine ⟨fun p => ?_, ?_⟩; (focus (go_simp; (try (with_reducible rfl)); done)); (try simp only [Act.put, List.setIfInBounds_toArray, List.set_cons_zero, List.set_cons_succ]))
      (refine Ord.take' 1 rfl (by kernel_rfl) (fun _ _ _ _ h => h) K.out (by rfl) ?_; apply Exists.intro; refine ⟨fun p => ?_, ?_⟩; (focus (go_simp; (try (with_reducible rfl)); done)); (try simp only [Act.put, List.setIfInBounds_toArray, List.set_cons_zero, List.set_cons_succ]))
      (refine Ord.take' 2 rfl (by kernel_rfl) (fun _ _ _ _ h => h) K.out (by rfl) ?_; apply Exists.intro; refine ⟨fun p => ?_, ?_⟩; (focus (go_simp; (try (with_reducible rfl)); done)); (try simp only [Act.put, List.setIfInBounds_toArray, List.set_cons_zero, List.set_cons_succ]))
      (refine Ord.take' 3 rfl (by kernel_rfl) (fun _ _ _ _ h => h) K.out (by rfl) ?_; apply Exists.intro; refine ⟨fun p => ?_, ?_⟩; (focus (go_simp; (try (with_reducible rfl)); done)); (try simp only [Act.put, List.setIfInBounds_toArray, List.set_cons_zero, List.set_cons_succ]))
      (refine Ord.take' 4 rfl (by kernel_rfl) (fun _ _ _ _ h => h) K.out (by rfl) ?_; apply Exists.intro; refine ⟨fun p => ?_, ?_⟩; (focus (go_simp; (try (with_reducible rfl)); done)); (try simp only [Act.put, List.setIfInBounds_toArray, List.set_cons_zero, List.set_cons_succ]))
      (refine Ord.take' 5 rfl (by kernel_rfl) (fun _ _ _ _ h => h) K.out (by rfl) ?_; apply Exists.intro; refine ⟨fun p => ?_, ?_⟩; (focus (go_simp; (try (with_reducible rfl)); done)); (try simp only [Act.put, List.setIfInBounds_toArray, List.set_cons_zero, List.set_cons_succ]))
      (refine Ord.call 6 (g := 100) (args := (#[.slice B b.length d, .slice A a.length c])) rfl (by kernel_rfl) (by rfl) (by (go_simp; try (with_reducible rfl))) ?_)
      refine (less_any _ _ b a _ (H2.out.1.below K.out.B) (H1.out.1.below K.out.B) H2.out.2.1 H1.out.2.1 l2 hlb hvb.out).mono ?_
      rintro e w2 ⟨v, out, rfl, hown, hdg, hlen, hval, hb⟩
      (refine ⟨_, rfl, Keep.stays _ _ K.out hb, ?_⟩; replace K := Lib.hid (Keep.stays _ _ K.out hb); simp only [Act.put, List.setIfInBounds_toArray, List.set_cons_zero, List.set_cons_succ])
      clear hb
      (refine Ord.call 7 (g := 96) (args := (#[.bool (!n), v])) rfl (by kernel_rfl) (by rfl) (by (go_simp; try (with_reducible rfl))) ?_)
      refine (mad_any (!n) v out _ hown.dg hdg (by omega)).mono ?_
      rintro e w3 ⟨n2, s2, d2, rfl, hN, hv2, hl2, hn2, hb⟩
      obtain ⟨A2, c2, rfl, -⟩ := hN.1.len
      (refine ⟨_, rfl, Keep.stays _ _ K.out hb, ?_⟩; replace K := Lib.hid (Keep.stays _ _ K.out hb); simp only [Act.put, List.setIfInBounds_toArray, List.set_cons_zero, List.set_cons_succ])
      have HN := Lib.hid hN
      have HV : Hid (zof n2 d2 = zof n a + zof (!n) b) := by
        show _ = _
        rw [made_zof hn2, hv2, hval]
        unfold zof
        cases n <;> simp <;> omega
      clear hb hN hv2 hn2 hown hdg hval e10 e11 e20 e21 hbw
      (refine Ord.done (by kernel_rfl) ?_; simp only [List.drop_succ_cons, List.drop_zero, Act.put, List.setIfInBounds_toArray, List.set_cons_zero, List.set_cons_succ])
      obtain ⟨f1, c10, c11⟩ := K.out.nm (.head _)
      go_wp2_with fail
      refine ret_nm Try.results91 rfl ((K.out.putn_0 n2 _).nb (.head _)) ?_
      exact ⟨n2, _, d2, rfl, HN.out.put (K.out.nm (.head _)).2.1 _ _, HV.out, by omega, (K.out.putn_0 n2 _).B⟩
end Go.Proofs.Ytehjfjdopeadfaa
