/- The texts Mh, Na, Nb, Nc of the walk of the law and of all that it calls, in one file. No condition. -/
import Derived.Test.YtmidifgnpjlgcaaGreatY4
import Derived.Laws.EntriesVeiled
/- The walk of Small. -/
set_option linter.unusedVariables false
set_option linter.unusedSimpArgs false
namespace Go.Proofs.YtmidifgnpjlgcaaGreat
open Go.RowKit

def i64 (k : Int) : Prop := -9223372036854775808 ≤ k ∧ k ≤ 9223372036854775807

def smallB (x : Int) : Bool := decide (-9223372036854775808 ≤ x ∧ x ≤ 9223372036854775807)
def smallV (x : Int) : Int := if -9223372036854775808 ≤ x ∧ x ≤ 9223372036854775807 then x else 0
theorem smallV_in (x : Int) : i64 (smallV x) := by unfold smallV i64; split <;> omega
theorem small_no {x : Int} (h : ¬ (-9223372036854775808 ≤ x ∧ x ≤ 9223372036854775807)) : smallV x = 0 ∧ smallB x = false := ⟨by unfold smallV; rw [if_neg h], by unfold smallB; rw [decide_eq_false h]⟩
theorem small_yes {x : Int} (h : -9223372036854775808 ≤ x ∧ x ≤ 9223372036854775807) : smallV x = x ∧ smallB x = true := ⟨by unfold smallV; rw [if_pos h], by unfold smallB; rw [decide_eq_true h]⟩
theorem sgn_neg' {x : Int} : sgn x < 0 ↔ x < 0 := by unfold sgn; split <;> (try split) <;> omega
theorem sgn_pos' {x : Int} : 0 < sgn x ↔ 0 < x := by unfold sgn; split <;> (try split) <;> omega
theorem small_two {w : World} {n : Bool} {s : Value} {a : List Int} (h : Num w n s a) (hi : -9223372036854775808 ≤ zof n a ∧ zof n a ≤ 9223372036854775807) : a.length ≤ 2 ∧ val a ≤ 9223372036854775808 := by
  have hv : val a ≤ 9223372036854775808 := by cases n <;> simp [zof] at hi <;> omega
  refine ⟨?_, hv⟩
  apply Classical.byContradiction
  intro hn
  have k := val_canon h.2.1 h.2.2.1 (by intro e; rw [e] at hn; simp at hn)
  have k2 := pb_mono (show 2 ≤ a.length - 1 by omega)
  have e : pb 2 = 18446744073709551616 := by decide
  omega
theorem small_step {a : List Int} (da : digits a) {i : Nat} (hi : i < 2) : bits .or .u64 (val (a.take i)) (IntKind.u64.wrap (a.getD i 0 * 2 ^ (32 * i))) = val (a.take (i + 1)) := by
  obtain ⟨p0, p1⟩ := getD_mem da i
  rw [val_take_succ']
  rcases (show i = 0 ∨ i = 1 by omega) with rfl | rfl
  · rw [IntKind.wrap_u64]
    have e1 : a.getD 0 0 * 2 ^ (32 * 0) % 18446744073709551616 = a.getD 0 0 := by
      rw [show (2 : Int) ^ (32 * 0) = 1 from rfl, Int.mul_one]; omega
    rw [e1, show val (a.take 0) = 0 by simp [val], u64_or _ _ (by omega) (by omega) p0 (by omega)]
    generalize a.getD 0 0 = p at *
    simp [pb]; omega
  · rw [IntKind.wrap_u64]
    have e1 : a.getD 1 0 * 2 ^ (32 * 1) % 18446744073709551616 = a.getD 1 0 * 4294967296 := by
      rw [show (2 : Int) ^ (32 * 1) = 4294967296 by decide]; omega
    have b := val_bounds _ (digits_take da 1)
    have bl : val (a.take 1) < 4294967296 := by
      have h1 := pb_mono (show (a.take 1).length ≤ 1 by rw [List.length_take]; omega)
      have : pb 1 = 4294967296 := by decide
      omega
    rw [e1, u64_or _ _ b.1 (by omega) (by omega) (by omega), nat_or_add (n := 32) (by omega) (by omega)]
    have : pb 1 = 4294967296 := by decide
    rw [this]
    omega
theorem small_step' {a : List Int} (da : digits a) {i : Nat} (hi : i < 2) : bits .or .u64 (val (a.take i)) (IntKind.u64.wrap (a.getD i 0 * 2 ^ min (32 * i) 64)) = val (a.take (i + 1)) := by
  rw [show min (32 * i) 64 = 32 * i by omega]
  exact small_step da hi
theorem wrap64_in (x : Int) : i64 (wrap64 x) := by unfold i64 wrap64; omega

set_option maxHeartbeats 8000000 in
set_option maxRecDepth 100000 in
theorem small_any (n : Bool) (s : Value) (a : List Int) (w : World) (h1 : Num w n s a) (l1 : a.length ≤ 700000) :
    Calls Tryz.prog 100 #[.agg #[.bool n, s]] w fun e w' => e = .returned (.tuple #[.int .i64 (smallV (zof n a)), .bool (smallB (zof n a))]) ∧ Below w.heap.size w w' := by
  obtain ⟨A, c, rfl, ha⟩ := h1.1.len
  have K := Lib.hid (Keep.begin1 w (Obj.num n (.slice A a.length c)))
  have H1 := Lib.hid h1
  have HA := Lib.hid ha
  clear h1 ha
  go_enter Tryz.func100, Tryz.ntmps100
  go_upto_region 1 with fail
  (refine out_keep K.out ?_; clear K; intro W K; replace K := Lib.hid K)
  go_wp2_with fail
  refine (int_any (-9223372036854775808) _ (by omega) (by omega)).mono ?_
  rintro e w2 ⟨n2, s2, d2, rfl, hN2, hz2, hl2, hb⟩
  obtain ⟨A2, k2, rfl, -⟩ := hN2.1.len
  replace K := Lib.hid (Keep.stays _ _ K.out hb)
  have HN := Lib.hid hN2
  clear hb hN2
  go_upto_region 2 with fail
  (replace K := Lib.hid (K.out.alloc (Obj.num n2 (.slice A2 d2.length k2))); replace HN := Lib.hid (HN.out.below (below_one _ (Obj.num n2 (.slice A2 d2.length k2)))))
  generalize w2.heap.size = g4 at *
  (refine out_with (B := fun W => Num W n2 (.slice A2 d2.length k2) d2) K.out HN.out ?_; clear K HN; intro W2 K HN; replace K := Lib.hid K; replace HN := Lib.hid HN)
  (refine region_ord _ 10 (by kernel_rfl) (by kernel_rfl) K.out.drew ?_; clear K; intro W K hbw; replace K := Lib.hid K)
  replace HN := Lib.hid (HN.out.below hbw)
  clear hbw
  obtain ⟨e10, e11⟩ := Keep.anm K (.tail _ (.head _))
  obtain ⟨e20, e21⟩ := Keep.anm K (.head _)
  (refine Ord.take' 0 rfl (by kernel_rfl) (fun _ _ _ _ h => h) K.out (by rfl) ?_; apply Exists.intro; refine ⟨fun p => ?_, ?_⟩; (focus (go_simp; (try (with_reducible rfl)); done)); (try simp only [Act.put, List.setIfInBounds_toArray, List.set_cons_zero, List.set_cons_succ]))
  (refine Ord.take' 1 rfl (by kernel_rfl) (fun _ _ _ _ h => h) K.out (by rfl) ?_; apply Exists.intro; refine ⟨fun p => ?_, ?_⟩; (focus (go_simp; (try (with_reducible rfl)); done)); (try simp only [Act.put, List.setIfInBounds_toArray, List.set_cons_zero, List.set_cons_succ]))
  (refine Ord.call 2 (g := 24) (args := (#[.agg #[.bool n, .slice A a.length c], .agg #[.bool n2, .slice A2 d2.length k2]])) rfl (by kernel_rfl) (by rfl) (by (go_simp; try (with_reducible rfl))) ?_)
  refine (icmp_any n n2 _ _ a d2 _ (H1.out.below K.out.B) HN.out (by omega) (by omega)).mono ?_
  rintro e w3 ⟨rfl, hb⟩
  (refine ⟨_, rfl, Keep.stays _ _ K.out hb, ?_⟩; replace K := Lib.hid (Keep.stays _ _ K.out hb); simp only [Act.put, List.setIfInBounds_toArray, List.set_cons_zero, List.set_cons_succ])
  clear hb HN
  rw [hz2] at *
  clear hz2
  generalize hcm : sgn (zof n a - -9223372036854775808) = cm at *
  have HCM := Lib.hid hcm
  clear hcm
  by_cases c1 : cm < 0
  · (refine Ord.take' 3 rfl (by kernel_rfl) (fun _ _ _ _ h => h) K.out (by rfl) ?_; apply Exists.intro; refine ⟨fun p => ?_, ?_⟩; (focus (go_simp; (try (with_reducible rfl)); done)); (try simp only [Act.put, List.setIfInBounds_toArray, List.set_cons_zero, List.set_cons_succ]))
    (refine Ord.take' 4 rfl (by kernel_rfl) (fun _ _ _ _ h => h) K.out (by rfl) ?_; apply Exists.intro; refine ⟨fun p => ?_, ?_⟩; (focus (go_simp; (try (with_reducible rfl)); done)); (try simp only [Act.put, List.setIfInBounds_toArray, List.set_cons_zero, List.set_cons_succ]))
    (refine Ord.skip 5 rfl (by kernel_rfl) (fun _ _ _ h => h) K.out (by rfl) ?_; (try simp only [Act.put, List.setIfInBounds_toArray, List.set_cons_zero, List.set_cons_succ]))
    (refine Ord.skip 6 rfl (by kernel_rfl) (fun _ _ _ h => h) K.out (by rfl) ?_; (try simp only [Act.put, List.setIfInBounds_toArray, List.set_cons_zero, List.set_cons_succ]))
    (refine Ord.skip 7 rfl (by kernel_rfl) (fun _ _ _ h => h) K.out (by rfl) ?_; (try simp only [Act.put, List.setIfInBounds_toArray, List.set_cons_zero, List.set_cons_succ]))
    (refine Ord.skip 8 rfl (by kernel_rfl) (fun _ _ _ h => h) K.out (by rfl) ?_; (try simp only [Act.put, List.setIfInBounds_toArray, List.set_cons_zero, List.set_cons_succ]))
    (refine Ord.take' 9 rfl (by kernel_rfl) (fun _ _ _ _ h => h) K.out (by rfl) ?_; apply Exists.intro; refine ⟨fun p => ?_, ?_⟩; (focus (go_simp; (try (with_reducible rfl)); done)); (try simp only [Act.put, List.setIfInBounds_toArray, List.set_cons_zero, List.set_cons_succ]))
    clear e10 e11 e20 e21
    (refine Ord.done (by kernel_rfl) ?_; simp only [List.drop_succ_cons, List.drop_zero, Act.put, List.setIfInBounds_toArray, List.set_cons_zero, List.set_cons_succ])
    go_wp2_with fail
    go_ret2
    obtain ⟨q1, q2⟩ := small_no (x := zof n a) (by have := sgn_neg'.1 (HCM.out ▸ c1); omega)
    rw [q1, q2]
    exact ⟨rfl, K.out.B⟩
  · (refine Ord.take' 3 rfl (by kernel_rfl) (fun _ _ _ _ h => h) K.out (by rfl) ?_; apply Exists.intro; refine ⟨fun p => ?_, ?_⟩; (focus (go_simp; (try (with_reducible rfl)); done)); (try simp only [Act.put, List.setIfInBounds_toArray, List.set_cons_zero, List.set_cons_succ]))
    (refine Ord.take' 4 rfl (by kernel_rfl) (fun _ _ _ _ h => h) K.out (by rfl) ?_; apply Exists.intro; refine ⟨fun p => ?_, ?_⟩; (focus (go_simp; (try (with_reducible rfl)); done)); (try simp only [Act.put, List.setIfInBounds_toArray, List.set_cons_zero, List.set_cons_succ]))
    (refine Ord.take' 5 rfl (by kernel_rfl) (fun _ _ _ _ h => h) K.out (by rfl) ?_; apply Exists.intro; refine ⟨fun p => ?_, ?_⟩; (focus (go_simp; (try (with_reducible rfl)); done)); (try simp only [Act.put, List.setIfInBounds_toArray, List.set_cons_zero, List.set_cons_succ]))
    clear e10 e11 e20 e21
    (refine Ord.call 6 (g := 19) (args := (#[.int .i64 9223372036854775807])) rfl (by kernel_rfl) (by rfl) (by (go_simp; try (with_reducible rfl))) ?_)
    refine (int_any 9223372036854775807 _ (by omega) (by omega)).mono ?_
    rintro e w4 ⟨n4, s4, d4, rfl, hN4, hz4, hl4, hb⟩
    obtain ⟨A4, k4, rfl, -⟩ := hN4.1.len
    (refine ⟨_, rfl, Keep.stays _ _ K.out hb, ?_⟩; replace K := Lib.hid (Keep.stays _ _ K.out hb); simp only [Act.put, List.setIfInBounds_toArray, List.set_cons_zero, List.set_cons_succ])
    clear hb
    (refine Ord.call 7 (g := 24) (args := (#[.agg #[.bool n, .slice A a.length c], .agg #[.bool n4, .slice A4 d4.length k4]])) rfl (by kernel_rfl) (by rfl) (by (go_simp; try (with_reducible rfl))) ?_)
    refine (icmp_any n n4 _ _ a d4 _ (H1.out.below K.out.B) hN4 (by omega) (by omega)).mono ?_
    rintro e w5 ⟨rfl, hb⟩
    (refine ⟨_, rfl, Keep.stays _ _ K.out hb, ?_⟩; replace K := Lib.hid (Keep.stays _ _ K.out hb); simp only [Act.put, List.setIfInBounds_toArray, List.set_cons_zero, List.set_cons_succ])
    clear hb hN4
    rw [hz4] at *
    clear hz4
    generalize hcm2 : sgn (zof n a - 9223372036854775807) = cm2 at *
    have HCM2 := Lib.hid hcm2
    clear hcm2
    by_cases c2 : 0 < cm2
    · (refine Ord.take' 8 rfl (by kernel_rfl) (fun _ _ _ _ h => h) K.out (by rfl) ?_; apply Exists.intro; refine ⟨fun p => ?_, ?_⟩; (focus (go_simp; (try (with_reducible rfl)); done)); (try simp only [Act.put, List.setIfInBounds_toArray, List.set_cons_zero, List.set_cons_succ]))
      (refine Ord.take' 9 rfl (by kernel_rfl) (fun _ _ _ _ h => h) K.out (by rfl) ?_; apply Exists.intro; refine ⟨fun p => ?_, ?_⟩; (focus (go_simp; (try (with_reducible rfl)); done)); (try simp only [Act.put, List.setIfInBounds_toArray, List.set_cons_zero, List.set_cons_succ]))
      (refine Ord.done (by kernel_rfl) ?_; simp only [List.drop_succ_cons, List.drop_zero, Act.put, List.setIfInBounds_toArray, List.set_cons_zero, List.set_cons_succ])
      go_wp2_with fail
      go_ret2
      obtain ⟨q1, q2⟩ := small_no (x := zof n a) (by have := sgn_pos'.1 (HCM2.out ▸ c2); omega)
      rw [q1, q2]
      exact ⟨rfl, K.out.B⟩
    · have HIN : Hid (-9223372036854775808 ≤ zof n a ∧ zof n a ≤ 9223372036854775807) := by
        have k1 : ¬ zof n a - -9223372036854775808 < 0 := fun h => c1 (by rw [← HCM.out]; exact sgn_neg'.2 h)
        have k2 : ¬ 0 < zof n a - 9223372036854775807 := fun h => c2 (by rw [← HCM2.out]; exact sgn_pos'.2 h)
        show _ ∧ _
        omega
      have HTW := Lib.hid (small_two H1.out HIN.out)
      (refine Ord.take' 8 rfl (by kernel_rfl) (fun _ _ _ _ h => h) K.out (by rfl) ?_; apply Exists.intro; refine ⟨fun p => ?_, ?_⟩; (focus (go_simp; (try (with_reducible rfl)); done)); (try simp only [Act.put, List.setIfInBounds_toArray, List.set_cons_zero, List.set_cons_succ]))
      (refine Ord.take' 9 rfl (by kernel_rfl) (fun _ _ _ _ h => h) K.out (by rfl) ?_; apply Exists.intro; refine ⟨fun p => ?_, ?_⟩; (focus (go_simp; (try (with_reducible rfl)); done)); (try simp only [Act.put, List.setIfInBounds_toArray, List.set_cons_zero, List.set_cons_succ]))
      (refine Ord.done (by kernel_rfl) ?_; simp only [List.drop_succ_cons, List.drop_zero, Act.put, List.setIfInBounds_toArray, List.set_cons_zero, List.set_cons_succ])
      obtain ⟨f1, c10, c11⟩ := K.out.nm (.tail _ (.head _))
      go_wp2_with fail
      clear f1 c10 c11
      go_loopg [5, 22] a.length (fun gk uv iv wr => ∃ (i : Nat) (u : Int), gk + i = a.length ∧ iv = .int .i64 (i : Int) ∧ uv = .int .u64 u ∧ u = val (a.take i) ∧ Keep w [(g4, Obj.num n2 (.slice A2 d2.length k2)), (w.heap.size, Obj.num n (.slice A a.length c))] wr)
      case atStart => exact ⟨0, 0, by omega, rfl, rfl, by simp [val], K.out⟩
      case round =>
        clear K
        obtain ⟨i, u, hgi, rfl, rfl, hu, k⟩ := hrel
        have K := Lib.hid k
        have HU := Lib.hid hu
        clear k
        have u0 : 0 ≤ u := by rw [hu]; exact (val_bounds _ (digits_take H1.out.2.1 i)).1
        have u1 : u < 18446744073709551616 := by
          have b := val_bounds _ (digits_take H1.out.2.1 i)
          have h1 := pb_mono (show (a.take i).length ≤ 2 by rw [List.length_take]; have := HTW.out.1; omega)
          have : pb 2 = 18446744073709551616 := by decide
          omega
        clear hu
        by_cases hi : i < a.length
        · obtain ⟨x, rfl, hx, hxc⟩ := HA.out (by omega)
          have X := kept_cell K.out hx (hxc i hi)
          obtain ⟨p0, p1⟩ := getD_mem H1.out.2.1 i
          clear hx hxc
          have HST := Lib.hid (small_step' H1.out.2.1 (show i < 2 by have := HTW.out.1; omega))
          generalize a.getD i 0 = p at *
          obtain ⟨j, hj, hj2⟩ : ∃ j : Nat, 32 * (i : Int) = (j : Int) ∧ j = 32 * i := ⟨32 * i, by omega, rfl⟩
          have HJ := Lib.hid hj2
          clear hj2
          go_wp2_with fail
          clear X hj
          go_roundg (gk - 1)
          case measure => omega
          case rel => exact ⟨i + 1, _, by omega, congrArg (Value.int .i64) (by omega), rfl, by rw [HU.out, HJ.out]; exact HST.out, K.out⟩
        · obtain ⟨f1, c10, c11⟩ := K.out.nm (.tail _ (.head _))
          obtain ⟨q1, q2⟩ := small_yes HIN.out
          have HQ : Hid (smallV (zof n a) = zof n a ∧ smallB (zof n a) = true) := ⟨q1, q2⟩
          have HUV : Hid (u = val a) := by show _ = _; rw [HU.out, List.take_of_length_le (by omega)]
          have HIN2 := Lib.hid HIN.out
          clear q1 q2
          cases n
          · go_wp2_with fail
            go_ret2
            rw [HQ.out.1, HQ.out.2]
            refine ⟨?_, K.out.B⟩
            have e1 := HUV.out
            have e2 := HIN2.out
            simp only [zof, Bool.false_eq_true, if_false] at e2 ⊢
            have e3 : wrap64 u = val a := by simp only [wrap64]; omega
            rw [e3]
            rfl
          · go_wp2_with fail
            go_ret2
            rw [HQ.out.1, HQ.out.2]
            refine ⟨?_, K.out.B⟩
            have e1 := HUV.out
            have e2 := HIN2.out
            simp only [zof, if_true] at e2 ⊢
            have e3 : wrap64 (IntKind.u64.wrap (-u)) = -val a := by rw [IntKind.wrap_u64]; simp only [wrap64]; omega
            rw [e3]
            rfl
end Go.Proofs.YtmidifgnpjlgcaaGreat
/- Rows and states: lists of int64 in memory; the walks of out, Right, Residual. -/
set_option linter.unusedVariables false
set_option linter.unusedSimpArgs false
namespace Go.Proofs.YtmidifgnpjlgcaaGreat
open Go.RowKit

/-- A list of int64, wherever it lies. -/
def Iv (w : World) (v : Value) (xs : List Int) : Prop := ∃ A c, v = .slice A xs.length c ∧ (A = none → c = 0) ∧ ∀ j, j < xs.length → i64 (xs.getD j 0) ∧ ∃ p, A = some p ∧ p.block < w.heap.size ∧ w.cell? (p.add j) = some (.int .i64 (xs.getD j 0))
theorem add_block (p : Addr) (j : Nat) : (p.add j).block = p.block := by unfold Addr.add; split <;> rfl
theorem Iv.below {w w' : World} {v : Value} {xs : List Int} (h : Iv w v xs) (hb : Below w.heap.size w w') : Iv w' v xs := by
  obtain ⟨A, c, hv, h0, h⟩ := h
  refine ⟨A, c, hv, h0, fun j hj => ?_⟩
  obtain ⟨h1, p, hp, hlt, hc⟩ := h j hj
  exact ⟨h1, p, hp, Nat.lt_of_lt_of_le hlt hb.size, by rw [hb.cell (p := p.add j) (by rw [add_block]; exact hlt)]; exact hc⟩

/-- A row's data. -/
structure Rw where
  coef : List Int
  z : Int
  knee : Int
  weight : Int
def RwOk (r : Rw) (n : Nat) : Prop := r.coef.length = n ∧ n ≤ 11 ∧ (∀ j, j < n → -1000 ≤ r.coef.getD j 0 ∧ r.coef.getD j 0 ≤ 1000) ∧ (-1000000000 ≤ r.z ∧ r.z ≤ 1000000000) ∧ (1 ≤ r.knee ∧ r.knee ≤ 32768) ∧ (1 ≤ r.weight ∧ r.weight ≤ 100)

set_option maxHeartbeats 1000000 in
set_option maxRecDepth 100000 in
theorem out_any (n lo hi : Int) (w : World) : Calls Tryz.prog 37 #[.int .i64 n, .int .i64 lo, .int .i64 hi] w fun e w' => e = .returned (.bool (decide (n < lo) || decide (hi < n))) ∧ Below w.heap.size w w' := by
  have HB := Lib.hid (Below.refl w.heap.size w)
  by_cases h1 : n < lo
  · go_enter Tryz.func37, Tryz.ntmps37
    go_wp2_with fail
    go_ret
    exact ⟨ret_bool (by first | (simp [h1]; done) | (simp [h1]; omega)), HB.out⟩
  · go_enter Tryz.func37, Tryz.ntmps37
    go_wp2_with fail
    go_ret
    exact ⟨ret_bool (by first | (simp [h1]; done) | (simp [h1]; omega)), HB.out⟩

def sumTo (f : Nat → Int) : Nat → Int
  | 0 => 0
  | i + 1 => sumTo f i + f i
def residual (r : Rw) (xs : List Int) : Int := max (-1000000000) (min (-r.z + sumTo (fun j => r.coef.getD j 0 * xs.getD j 0) r.coef.length) 1000000000)
theorem prod_in {a x : Int} (h1 : -1000 ≤ a) (h2 : a ≤ 1000) (h3 : -1000000 ≤ x) (h4 : x ≤ 1000000) : -1000000000 ≤ a * x ∧ a * x ≤ 1000000000 := by
  have k : (a * x).natAbs ≤ 1000000000 := by
    rw [Int.natAbs_mul]
    exact Nat.mul_le_mul (show a.natAbs ≤ 1000 by omega) (show x.natAbs ≤ 1000000 by omega)
  omega
theorem sum_in {f : Nat → Int} {n : Nat} (h : ∀ j, j < n → -1000000000 ≤ f j ∧ f j ≤ 1000000000) : ∀ i, i ≤ n → -1000000000 * (i : Int) ≤ sumTo f i ∧ sumTo f i ≤ 1000000000 * (i : Int) := by
  intro i
  induction i with
  | zero => intro _; exact ⟨by simp [sumTo], by simp [sumTo]⟩
  | succ i ih =>
    intro hi
    have := ih (by omega)
    have := h i (by omega)
    show _ ≤ sumTo f i + f i ∧ sumTo f i + f i ≤ _
    omega

/-- A row's own box. -/
def Obj.rw (v : Value) (r : Rw) : Obj := .cells #[v, .int .i64 r.z, .int .i64 r.knee, .int .i64 r.weight] 70

set_option maxHeartbeats 4000000 in
set_option maxRecDepth 100000 in
theorem residual_any (v t : Value) (r : Rw) (n : Nat) (xs : List Int) (w : World) (h : Iv w v r.coef) (hr : RwOk r n) (hx : Iv w t xs) (lx : xs.length = n) (bx : ∀ j, j < n → -1000000 ≤ xs.getD j 0 ∧ xs.getD j 0 ≤ 1000000) :
    Calls Tryz.prog 74 #[.agg #[v, .int .i64 r.z, .int .i64 r.knee, .int .i64 r.weight], t] w fun e w' => e = .returned (.int .i64 (residual r xs)) ∧ Below w.heap.size w w' := by
  obtain ⟨A, c, rfl, -, ha⟩ := h
  obtain ⟨B, d, rfl, -, hb⟩ := hx
  obtain ⟨r1, r2, r3, ⟨r4, r5⟩, r6, r7⟩ := hr
  subst r1
  rw [lx] at hb ⊢
  have LX := Lib.hid lx
  clear lx
  have HA := Lib.hid ha; have HB := Lib.hid hb; have HC := Lib.hid r3; have HX := Lib.hid bx
  have K := Lib.hid (Keep.begin1 w (Obj.rw (.slice A r.coef.length c) r))
  clear ha hb r3 bx
  go_enter Tryz.func74, Tryz.ntmps74
  go_upto_region 1 with fail
  (refine out_keep K.out ?_; clear K; intro W K; replace K := Lib.hid K)
  have c0 := K.out.cell (k := 0) (.head _) rfl
  have c1 := K.out.cell (k := 1) (.head _) rfl
  have f1 := fun o => K.out.warm (.head _) o
  go_wp2_with fail
  have HF := Lib.hid (sum_in (f := fun j => r.coef.getD j 0 * xs.getD j 0) (n := r.coef.length) (fun j hj => prod_in (HC.out j hj).1 (HC.out j hj).2 (HX.out j hj).1 (HX.out j hj).2))
  clear c0 c1 f1
  go_loopg [5, 14] r.coef.length (fun gk sv iv wr => ∃ (i : Nat) (z : Int), gk + i = r.coef.length ∧ iv = .int .i64 (i : Int) ∧ sv = .int .i64 z ∧ z = -r.z + sumTo (fun j => r.coef.getD j 0 * xs.getD j 0) i ∧ Keep w [(w.heap.size, Obj.rw (.slice A r.coef.length c) r)] wr)
  case atStart => exact ⟨0, _, by omega, rfl, rfl, by simp [sumTo], K.out⟩
  case round =>
    clear K
    obtain ⟨i, z, hgi, rfl, rfl, hz, k⟩ := hrel
    have K := Lib.hid k
    have HZ := Lib.hid hz
    clear k hz
    by_cases hi : i < r.coef.length
    · obtain ⟨-, p, rfl, hp, hpc⟩ := HA.out i hi
      obtain ⟨-, q, rfl, hq, hqc⟩ := HB.out i hi
      have X : wr.cell? (p.add i) = some (.int .i64 (r.coef.getD i 0)) := by rw [K.out.B.cell (p := p.add i) (by rw [add_block]; exact hp)]; exact hpc
      have Y : wr.cell? (q.add i) = some (.int .i64 (xs.getD i 0)) := by rw [K.out.B.cell (p := q.add i) (by rw [add_block]; exact hq)]; exact hqc
      obtain ⟨t1, t2⟩ := HF.out i (by omega)
      obtain ⟨t3, t4⟩ := prod_in (HC.out i hi).1 (HC.out i hi).2 (HX.out i hi).1 (HX.out i hi).2
      have HN : Hid (z + r.coef.getD i 0 * xs.getD i 0 = -r.z + sumTo (fun j => r.coef.getD j 0 * xs.getD j 0) (i + 1)) := by
        show z + r.coef.getD i 0 * xs.getD i 0 = -r.z + (sumTo (fun j => r.coef.getD j 0 * xs.getD j 0) i + r.coef.getD i 0 * xs.getD i 0)
        have := HZ.out
        omega
      have hz1 : -20000000000 ≤ z := by have := HZ.out; omega
      have hz2 : z ≤ 20000000000 := by have := HZ.out; omega
      clear hp hpc hq hqc t1 t2
      generalize r.coef.getD i 0 = a at *
      generalize xs.getD i 0 = x at *
      go_wp2_with fail
      clear X Y
      go_roundg (gk - 1)
      case measure => omega
      case rel => exact ⟨i + 1, _, by omega, congrArg (Value.int .i64) (by omega), rfl, HN.out, K.out⟩
    · have hia : i = r.coef.length := by omega
      have HR : Hid (max (-1000000000) (min z 1000000000) = residual r xs) := by
        have := HZ.out
        rw [hia] at this
        rw [this]
        rfl
      clear hia
      go_wp2_with fail
      go_ret
      exact ⟨ret_int HR.out, K.out.B⟩

/-- What a residual costs within a knee, or beyond it. -/
def rho (r k : Int) : Int := if max r (-r) ≤ k then r * r else 2 * k * max r (-r) - k * k
theorem residual_in (r : Rw) (xs : List Int) : -1000000000 ≤ residual r xs ∧ residual r xs ≤ 1000000000 := by unfold residual; omega

set_option maxHeartbeats 1000000 in
set_option maxRecDepth 100000 in
theorem cut_any (r k : Int) (w : World) (r1 : -1000000000 ≤ r) (r2 : r ≤ 1000000000) (k1 : 1 ≤ k) (k2 : k ≤ 32768) :
    Calls Tryz.prog 101 #[.int .i64 r, .int .i64 k] w fun e w' => e = .returned (.tuple #[.int .i64 r, .int .i64 (max r (-r)), .int .i64 k]) ∧ Below w.heap.size w w' := by
  have HB := Lib.hid (Below.refl w.heap.size w)
  have e1 : max (-2147483647) (min r 2147483647) = r := by omega
  have e2 : max 0 (min k 2147483647) = k := by omega
  go_enter Tryz.func101, Tryz.ntmps101
  go_wp2_with fail
  go_ret3
  exact ⟨rfl, HB.out⟩

theorem sq_in {r : Int} (h : max r (-r) ≤ 32768) : 0 ≤ r * r ∧ r * r ≤ 1073741824 := by
  have k : (r * r).natAbs ≤ 32768 * 32768 := by
    rw [Int.natAbs_mul]
    exact Nat.mul_le_mul (by omega) (by omega)
  have : 0 ≤ r * r := by
    rcases Int.le_total 0 r with h | h
    · exact Int.mul_nonneg h h
    · have := Int.mul_nonneg (show 0 ≤ -r by omega) (show 0 ≤ -r by omega)
      rwa [Int.neg_mul_neg] at this
  omega
theorem rho_in {r k : Int} (r1 : -1000000000 ≤ r) (r2 : r ≤ 1000000000) (k1 : 1 ≤ k) (k2 : k ≤ 32768) : 0 ≤ rho r k ∧ rho r k ≤ 65536000000000 := by
  unfold rho
  split
  next h => have := sq_in (r := r) (by omega); omega
  next h =>
    have h2 : k * k ≤ k * max r (-r) := Int.mul_le_mul_of_nonneg_left (by omega) (by omega)
    have h3 : 2 * k * max r (-r) ≤ 65536 * 1000000000 := Int.mul_le_mul (by omega) (by omega) (by omega) (by omega)
    have h4 : 2 * k * max r (-r) = k * max r (-r) + k * max r (-r) := by rw [Int.mul_assoc]; omega
    have h5 : 0 ≤ k * max r (-r) := Int.mul_nonneg (by omega) (by omega)
    have h6 : 0 ≤ k * k := Int.mul_nonneg (by omega) (by omega)
    omega

set_option maxHeartbeats 4000000 in
set_option maxRecDepth 100000 in
theorem of_any (a k : Int) (w : World) : Calls Tryz.prog 102 #[.int .i64 a, .int .i64 k] w fun e w' => e = .returned (if a ≤ k then .agg #[.func (.func 112) #[] #[], .func (.func 113) #[] #[]] else .agg #[.func (.func 114) #[] #[], .func (.func 115) #[] #[]]) ∧ Below w.heap.size w w' := by
  have K := Lib.hid (Keep.begin1 w (.cells #[.nilFunc, .nilFunc] 155))
  by_cases h : a ≤ k
  · skip
    go_enter Tryz.func102, Tryz.ntmps102
    go_upto_region 1 with fail
    (refine out_keep K.out ?_; clear K; intro W K; replace K := Lib.hid K)
    have c0 := K.out.cell (k := 0) (.head _) rfl
    have c1 := K.out.cell (k := 1) (.head _) rfl
    have f1 := fun o => K.out.warm (.head _) o
    go_wp2_with fail
    have K2 := (K.out.set_0 0 (.func (.func 112) #[] #[])).set_0 1 (.func (.func 113) #[] #[])
    exact bodyPost_ret (results_cell_row Tryz.results102 _ _ w.heap.size 155 _ _ _ rfl (K2.box _ (.head _)) Tryz.underlying155 rfl (by kernel_rfl)) rfl ⟨rfl, K2.B⟩
  · skip
    go_enter Tryz.func102, Tryz.ntmps102
    go_upto_region 1 with fail
    (refine out_keep K.out ?_; clear K; intro W K; replace K := Lib.hid K)
    have c0 := K.out.cell (k := 0) (.head _) rfl
    have c1 := K.out.cell (k := 1) (.head _) rfl
    have f1 := fun o => K.out.warm (.head _) o
    go_wp2_with fail
    have K2 := (K.out.set_0 0 (.func (.func 114) #[] #[])).set_0 1 (.func (.func 115) #[] #[])
    exact bodyPost_ret (results_cell_row Tryz.results102 _ _ w.heap.size 155 _ _ _ rfl (K2.box _ (.head _)) Tryz.underlying155 rfl (by kernel_rfl)) rfl ⟨rfl, K2.B⟩

set_option maxHeartbeats 4000000 in
set_option maxRecDepth 100000 in
theorem of1_any (r k : Int) (w : World) (h : max r (-r) ≤ 32768) : Calls Tryz.prog 112 #[.int .i64 r, .int .i64 k] w fun e w' => e = .returned (.int .i64 (r * r)) ∧ Below w.heap.size w w' := by
  have HB := Lib.hid (Below.refl w.heap.size w)
  obtain ⟨h1, h2⟩ := sq_in h
  go_enter Tryz.func112, Tryz.ntmps112
  go_wp2_with fail
  go_ret
  exact ⟨rfl, HB.out⟩
set_option maxHeartbeats 4000000 in
set_option maxRecDepth 100000 in
theorem of2_any (r k : Int) (w : World) : Calls Tryz.prog 113 #[.int .i64 r, .int .i64 k] w fun e w' => e = .returned (.int .i64 r) ∧ Below w.heap.size w w' := by
  have HB := Lib.hid (Below.refl w.heap.size w)
  go_enter Tryz.func113, Tryz.ntmps113
  go_wp2_with fail
  go_ret
  exact ⟨rfl, HB.out⟩
set_option maxHeartbeats 4000000 in
set_option maxRecDepth 100000 in
theorem of3_any (r k : Int) (w : World) (r1 : -1000000000 ≤ r) (r2 : r ≤ 1000000000) (k1 : 1 ≤ k) (k2 : k ≤ 32768) : Calls Tryz.prog 114 #[.int .i64 r, .int .i64 k] w fun e w' => e = .returned (.int .i64 (2 * k * max r (-r) - k * k)) ∧ Below w.heap.size w w' := by
  have HB := Lib.hid (Below.refl w.heap.size w)
  have h3 : 2 * k * max r (-r) ≤ 65536 * 1000000000 := Int.mul_le_mul (by omega) (by omega) (by omega) (by omega)
  have h5 : 0 ≤ 2 * k * max r (-r) := Int.mul_nonneg (by omega) (by omega)
  have h6 : 0 ≤ k * k := Int.mul_nonneg (by omega) (by omega)
  have h7 : k * k ≤ 32768 * 32768 := Int.mul_le_mul (by omega) (by omega) (by omega) (by omega)
  go_enter Tryz.func114, Tryz.ntmps114
  go_wp2_with fail
  go_ret
  exact ⟨rfl, HB.out⟩
set_option maxHeartbeats 4000000 in
set_option maxRecDepth 100000 in
theorem of4_any (r k : Int) (w : World) (k1 : 1 ≤ k) (k2 : k ≤ 32768) : Calls Tryz.prog 115 #[.int .i64 r, .int .i64 k] w fun e w' => e = .returned (.int .i64 (max (-k) (min r k))) ∧ Below w.heap.size w w' := by
  have HB := Lib.hid (Below.refl w.heap.size w)
  go_enter Tryz.func115, Tryz.ntmps115
  go_wp2_with fail
  go_ret
  exact ⟨rfl, HB.out⟩

theorem rule_cost (f g : Value) : ∀ w : World, Sem.run Tryz.prog (Instr.field 155 (.agg #[f, g]) 0) w = .ok f w := fun _ => by kernel_rfl
theorem rule_slope (f g : Value) : ∀ w : World, Sem.run Tryz.prog (Instr.field 155 (.agg #[f, g]) 1) w = .ok g w := fun _ => by kernel_rfl

set_option maxHeartbeats 4000000 in
set_option maxRecDepth 100000 in
theorem rho_any (r k : Int) (w : World) (r1 : -1000000000 ≤ r) (r2 : r ≤ 1000000000) (k1 : 1 ≤ k) (k2 : k ≤ 32768) :
    Calls Tryz.prog 73 #[.int .i64 r, .int .i64 k] w fun e w' => e = .returned (.int .i64 (rho r k)) ∧ Below w.heap.size w w' := by
  have K := Lib.hid (Keep.start w)
  by_cases h : max r (-r) ≤ k
  · have HR : Hid (rho r k = r * r) := if_pos h
    go_enter Tryz.func73, Tryz.ntmps73
    go_wp2_with fail
    (refine ((cut_any r k _ r1 r2 k1 k2)).mono ?_; rintro e w2 ⟨rfl, hb⟩; replace K := Lib.hid (Keep.stays _ _ K.out hb); clear hb)
    go_wp2_with fail
    (refine ((of_any (max r (-r)) k _)).mono ?_; rintro e w2 ⟨rfl, hb⟩; replace K := Lib.hid (Keep.stays _ _ K.out hb); clear hb)
    rw [if_pos h]
    have hf := rule_cost (.func (.func 112) #[] #[]) (.func (.func 113) #[] #[])
    go_wp2_with fail
    (refine ((of1_any r k _ (by omega))).mono ?_; rintro e w2 ⟨rfl, hb⟩; replace K := Lib.hid (Keep.stays _ _ K.out hb); clear hb)
    clear hf
    go_wp2_with fail
    go_ret
    exact ⟨ret_int HR.out.symm, K.out.B⟩
  · have HR : Hid (rho r k = 2 * k * max r (-r) - k * k) := if_neg h
    go_enter Tryz.func73, Tryz.ntmps73
    go_wp2_with fail
    (refine ((cut_any r k _ r1 r2 k1 k2)).mono ?_; rintro e w2 ⟨rfl, hb⟩; replace K := Lib.hid (Keep.stays _ _ K.out hb); clear hb)
    go_wp2_with fail
    (refine ((of_any (max r (-r)) k _)).mono ?_; rintro e w2 ⟨rfl, hb⟩; replace K := Lib.hid (Keep.stays _ _ K.out hb); clear hb)
    rw [if_neg (by omega)]
    have hf := rule_cost (.func (.func 114) #[] #[]) (.func (.func 115) #[] #[])
    go_wp2_with fail
    (refine ((of3_any r k _ r1 r2 k1 k2)).mono ?_; rintro e w2 ⟨rfl, hb⟩; replace K := Lib.hid (Keep.stays _ _ K.out hb); clear hb)
    clear hf
    go_wp2_with fail
    go_ret
    exact ⟨ret_int HR.out.symm, K.out.B⟩

/-- Half of how steep that is. -/
def slope (r k : Int) : Int := if max r (-r) ≤ k then r else max (-k) (min r k)
theorem slope_in {r k : Int} (k1 : 1 ≤ k) (k2 : k ≤ 32768) : -32768 ≤ slope r k ∧ slope r k ≤ 32768 := by unfold slope; split <;> omega

set_option maxHeartbeats 4000000 in
set_option maxRecDepth 100000 in
theorem slope_any (r k : Int) (w : World) (r1 : -1000000000 ≤ r) (r2 : r ≤ 1000000000) (k1 : 1 ≤ k) (k2 : k ≤ 32768) :
    Calls Tryz.prog 111 #[.int .i64 r, .int .i64 k] w fun e w' => e = .returned (.int .i64 (slope r k)) ∧ Below w.heap.size w w' := by
  have K := Lib.hid (Keep.start w)
  by_cases h : max r (-r) ≤ k
  · go_enter Tryz.func111, Tryz.ntmps111
    go_wp2_with fail
    (refine ((cut_any r k _ r1 r2 k1 k2)).mono ?_; rintro e w2 ⟨rfl, hb⟩; replace K := Lib.hid (Keep.stays _ _ K.out hb); clear hb)
    go_wp2_with fail
    (refine ((of_any (max r (-r)) k _)).mono ?_; rintro e w2 ⟨rfl, hb⟩; replace K := Lib.hid (Keep.stays _ _ K.out hb); clear hb)
    rw [if_pos h]
    have hf := rule_slope (.func (.func 112) #[] #[]) (.func (.func 113) #[] #[])
    go_wp2_with fail
    (refine ((of2_any r k _)).mono ?_; rintro e w2 ⟨rfl, hb⟩; replace K := Lib.hid (Keep.stays _ _ K.out hb); clear hb)
    clear hf
    go_wp2_with fail
    go_ret
    exact ⟨ret_int (by unfold slope; rw [if_pos h]), K.out.B⟩
  · go_enter Tryz.func111, Tryz.ntmps111
    go_wp2_with fail
    (refine ((cut_any r k _ r1 r2 k1 k2)).mono ?_; rintro e w2 ⟨rfl, hb⟩; replace K := Lib.hid (Keep.stays _ _ K.out hb); clear hb)
    go_wp2_with fail
    (refine ((of_any (max r (-r)) k _)).mono ?_; rintro e w2 ⟨rfl, hb⟩; replace K := Lib.hid (Keep.stays _ _ K.out hb); clear hb)
    rw [if_neg (by omega)]
    have hf := rule_slope (.func (.func 114) #[] #[]) (.func (.func 115) #[] #[])
    go_wp2_with fail
    (refine ((of4_any r k _ k1 k2)).mono ?_; rintro e w2 ⟨rfl, hb⟩; replace K := Lib.hid (Keep.stays _ _ K.out hb); clear hb)
    clear hf
    go_wp2_with fail
    go_ret
    exact ⟨ret_int (by unfold slope; rw [if_neg (by omega)]), K.out.B⟩
end Go.Proofs.YtmidifgnpjlgcaaGreat
/- What a row costs; whether it may be. -/
set_option linter.unusedVariables false
set_option linter.unusedSimpArgs false
namespace Go.Proofs.YtmidifgnpjlgcaaGreat
open Go.RowKit

def rcost (r : Rw) (xs : List Int) : Int := r.weight * rho (residual r xs) r.knee
theorem rcost_in {r : Rw} {n : Nat} (h : RwOk r n) (xs : List Int) : 0 ≤ rcost r xs ∧ rcost r xs ≤ 6553600000000000 := by
  obtain ⟨-, -, -, -, ⟨k1, k2⟩, w1, w2⟩ := h
  have a := residual_in r xs
  have b := rho_in a.1 a.2 k1 k2
  unfold rcost
  exact ⟨Int.mul_nonneg (by omega) b.1, Int.le_trans (Int.mul_le_mul w2 b.2 b.1 (by omega)) (by decide)⟩

set_option maxHeartbeats 4000000 in
set_option maxRecDepth 100000 in
theorem rcost_any (v t : Value) (r : Rw) (n : Nat) (xs : List Int) (w : World) (h : Iv w v r.coef) (hr : RwOk r n) (hx : Iv w t xs) (lx : xs.length = n) (bx : ∀ j, j < n → -1000000 ≤ xs.getD j 0 ∧ xs.getD j 0 ≤ 1000000) :
    Calls Tryz.prog 42 #[.agg #[v, .int .i64 r.z, .int .i64 r.knee, .int .i64 r.weight], t] w fun e w' => e = .returned (.int .i64 (rcost r xs)) ∧ Below w.heap.size w w' := by
  have K := Lib.hid (Keep.begin1 w (Obj.rw v r))
  have HI := Lib.hid h; have HX := Lib.hid hx; have HR := Lib.hid hr; have LX := Lib.hid lx; have BX := Lib.hid bx
  obtain ⟨-, -, -, -, ⟨k1, k2⟩, w1, w2⟩ := hr
  obtain ⟨A, c, rfl, -⟩ := h
  obtain ⟨B, d, rfl, -⟩ := hx
  have HC := Lib.hid (rcost_in HR.out xs)
  have HRI := Lib.hid (residual_in r xs)
  have HEQ : Hid (r.weight * rho (residual r xs) r.knee = rcost r xs) := rfl
  clear lx bx
  go_enter Tryz.func42, Tryz.ntmps42
  go_upto_region 1 with fail
  (refine out_keep K.out ?_; clear K; intro W K; replace K := Lib.hid K)
  (refine region_ord _ 9 (by kernel_rfl) (by kernel_rfl) K.out.drew ?_; clear K; intro W K hbw; replace K := Lib.hid K)
  clear hbw
  (have c0 := Keep.acell (k := 0) K (.head _) rfl; have c1 := Keep.acell (k := 1) K (.head _) rfl; have c2 := Keep.acell (k := 2) K (.head _) rfl; have c3 := Keep.acell (k := 3) K (.head _) rfl)
  (refine Ord.take' 0 rfl (by kernel_rfl) (fun _ _ _ _ h => h) K.out (by rfl) ?_; apply Exists.intro; refine ⟨fun p => ?_, ?_⟩; (focus (go_simp; (try (with_reducible rfl)); done)); (try simp only [Act.put, List.setIfInBounds_toArray, List.set_cons_zero, List.set_cons_succ]))
  (refine Ord.take' 1 rfl (by kernel_rfl) (fun _ _ _ _ h => h) K.out (by rfl) ?_; apply Exists.intro; refine ⟨fun p => ?_, ?_⟩; (focus (go_simp; (try (with_reducible rfl)); done)); (try simp only [Act.put, List.setIfInBounds_toArray, List.set_cons_zero, List.set_cons_succ]))
  (refine Ord.take' 2 rfl (by kernel_rfl) (fun _ _ _ _ h => h) K.out (by rfl) ?_; apply Exists.intro; refine ⟨fun p => ?_, ?_⟩; (focus (go_simp; (try (with_reducible rfl)); done)); (try simp only [Act.put, List.setIfInBounds_toArray, List.set_cons_zero, List.set_cons_succ]))
  (refine Ord.take' 3 rfl (by kernel_rfl) (fun _ _ _ _ h => h) K.out (by rfl) ?_; apply Exists.intro; refine ⟨fun p => ?_, ?_⟩; (focus (go_simp; (try (with_reducible rfl)); done)); (try simp only [Act.put, List.setIfInBounds_toArray, List.set_cons_zero, List.set_cons_succ]))
  (refine Ord.take' 5 rfl (by kernel_rfl) (fun _ _ _ _ h => h) K.out (by rfl) ?_; apply Exists.intro; refine ⟨fun p => ?_, ?_⟩; (focus (go_simp; (try (with_reducible rfl)); done)); (try simp only [Act.put, List.setIfInBounds_toArray, List.set_cons_zero, List.set_cons_succ]))
  (refine Ord.take' 6 rfl (by kernel_rfl) (fun _ _ _ _ h => h) K.out (by rfl) ?_; apply Exists.intro; refine ⟨fun p => ?_, ?_⟩; (focus (go_simp; (try (with_reducible rfl)); done)); (try simp only [Act.put, List.setIfInBounds_toArray, List.set_cons_zero, List.set_cons_succ]))
  ((try clear f1); clear c0 c1 c2 c3)
  (refine Ord.call 4 (g := 74) (args := (#[.agg #[.slice A r.coef.length c, .int .i64 r.z, .int .i64 r.knee, .int .i64 r.weight], .slice B xs.length d])) rfl (by kernel_rfl) (by rfl) (by (go_simp; try (with_reducible rfl))) ?_)
  refine (residual_any _ _ r n xs _ (HI.out.below K.out.B) HR.out (HX.out.below K.out.B) LX.out BX.out).mono ?_
  rintro e w2 ⟨rfl, hb⟩
  (refine ⟨_, rfl, Keep.stays _ _ K.out hb, ?_⟩; replace K := Lib.hid (Keep.stays _ _ K.out hb); simp only [Act.put, List.setIfInBounds_toArray, List.set_cons_zero, List.set_cons_succ])
  clear hb
  obtain ⟨a1, a2⟩ := HRI.out
  (refine Ord.call 7 (g := 73) (args := (#[.int .i64 (residual r xs), .int .i64 r.knee])) rfl (by kernel_rfl) (by rfl) (by (go_simp; try (with_reducible rfl))) ?_)
  refine (rho_any _ r.knee _ a1 a2 k1 k2).mono ?_
  rintro e w3 ⟨rfl, hb⟩
  (refine ⟨_, rfl, Keep.stays _ _ K.out hb, ?_⟩; replace K := Lib.hid (Keep.stays _ _ K.out hb); simp only [Act.put, List.setIfInBounds_toArray, List.set_cons_zero, List.set_cons_succ])
  clear hb
  obtain ⟨b1, b2⟩ := rho_in a1 a2 k1 k2
  obtain ⟨b3, b4⟩ := HC.out
  rw [← HEQ.out] at b3 b4
  generalize rho (residual r xs) r.knee = rh at *
  have hw : IntKind.i64.wrap (r.weight * rh) = r.weight * rh := IntWalk.i64_in _ (by omega)
  (refine Ord.take' 8 rfl (by kernel_rfl) (fun _ _ _ _ h => h) K.out (by rfl) ?_; apply Exists.intro; refine ⟨fun p => ?_, ?_⟩; (focus (go_simp; (try (with_reducible rfl)); done)); (try simp only [Act.put, List.setIfInBounds_toArray, List.set_cons_zero, List.set_cons_succ]))
  (refine Ord.done (by kernel_rfl) ?_; simp only [List.drop_succ_cons, List.drop_zero, Act.put, List.setIfInBounds_toArray, List.set_cons_zero, List.set_cons_succ])
  go_wp2_with fail
  go_ret
  exact ⟨ret_int HEQ.out, K.out.B⟩

/-- How much a row's square counts. -/
def share (r : Rw) (xs : List Int) : Int := if max (residual r xs) (-residual r xs) ≤ r.knee then 1024 else max 1 (1024 * r.knee / max (residual r xs) (-residual r xs))
theorem share_in {r : Rw} {n : Nat} (h : RwOk r n) (xs : List Int) : 0 ≤ share r xs ∧ share r xs ≤ 33554432 := by
  obtain ⟨-, -, -, -, ⟨k1, k2⟩, w1, w2⟩ := h
  unfold share
  generalize residual r xs = z
  split
  · omega
  · have e1 : 0 ≤ 1024 * r.knee / max z (-z) := Int.ediv_nonneg (by omega) (by omega)
    have e2 : 1024 * r.knee / max z (-z) ≤ 1024 * r.knee := Int.ediv_le_self _ (by omega)
    omega

set_option maxHeartbeats 4000000 in
set_option maxRecDepth 100000 in
theorem share_any (gv v t : Value) (r : Rw) (n : Nat) (xs : List Int) (w : World) (a0 a1 a2 a3 a4 a5 a6 a7 : Value) (hg : gv = .agg #[a0, a1, a2, a3, a4, a5, a6, a7]) (h : Iv w v r.coef) (hr : RwOk r n) (hx : Iv w t xs) (lx : xs.length = n) (bx : ∀ j, j < n → -1000000 ≤ xs.getD j 0 ∧ xs.getD j 0 ≤ 1000000) :
    Calls Tryz.prog 52 #[gv, .agg #[v, .int .i64 r.z, .int .i64 r.knee, .int .i64 r.weight], t] w fun e w' => e = .returned (.int .i64 (share r xs)) ∧ Below w.heap.size w w' := by
  subst hg
  have K := Lib.hid (Keep.begin2 w (.cells #[a0, a1, a2, a3, a4, a5, a6, a7] 34) (Obj.rw v r))
  have HI := Lib.hid h; have HX := Lib.hid hx; have HR := Lib.hid hr; have LX := Lib.hid lx; have BX := Lib.hid bx
  obtain ⟨-, -, -, -, ⟨k1, k2⟩, w1, w2⟩ := hr
  obtain ⟨A, c, rfl, -⟩ := h
  obtain ⟨B, d, rfl, -⟩ := hx
  have HRI := Lib.hid (residual_in r xs)
  clear lx bx
  go_enter Tryz.func52, Tryz.ntmps52
  go_upto_region 1 with fail
  (refine out_keep K.out ?_; clear K; intro W K; replace K := Lib.hid K)
  (have c0 := K.out.cell (k := 0) (.head _) rfl; have c1 := K.out.cell (k := 1) (.head _) rfl; have c2 := K.out.cell (k := 2) (.head _) rfl; have c3 := K.out.cell (k := 3) (.head _) rfl; have f1 := fun o => K.out.warm (.head _) o)
  go_wp2_with fail
  refine (residual_any _ _ r n xs _ (HI.out.below K.out.B) HR.out (HX.out.below K.out.B) LX.out BX.out).mono ?_
  rintro e w2 ⟨rfl, hb⟩
  replace K := Lib.hid (Keep.stays _ _ K.out hb)
  clear hb
  obtain ⟨b1, b2⟩ := HRI.out
  generalize hzz : residual r xs = z at *
  have HZ : Hid (share r xs = if max z (-z) ≤ r.knee then 1024 else max 1 (1024 * r.knee / max z (-z))) := by show _ = _; unfold share; rw [hzz]
  clear hzz
  ((try clear f1); clear c0 c1 c2 c3)
  (have c0 := K.out.cell (k := 0) (.head _) rfl; have c1 := K.out.cell (k := 1) (.head _) rfl; have c2 := K.out.cell (k := 2) (.head _) rfl; have c3 := K.out.cell (k := 3) (.head _) rfl; have f1 := fun o => K.out.warm (.head _) o)
  by_cases hk : max z (-z) ≤ r.knee
  · go_wp2_with fail
    go_ret
    exact ⟨ret_int (by rw [HZ.out, if_pos hk]), K.out.B⟩
  · go_wp2_with fail
    go_ret
    exact ⟨ret_int (by rw [HZ.out, if_neg (by omega)]), K.out.B⟩

set_option maxHeartbeats 8000000 in
set_option maxRecDepth 100000 in
theorem right_any (v : Value) (r : Rw) (n : Nat) (w : World) (h : Iv w v r.coef) (hn : n ≤ 1000000) (lc : r.coef.length ≤ 4611686018427387904) :
    Calls Tryz.prog 27 #[.agg #[v, .int .i64 r.z, .int .i64 r.knee, .int .i64 r.weight], .int .i64 n] w fun e w' => ∃ b, e = .returned (.bool b) ∧ (b = true ↔ RwOk r n) ∧ Below w.heap.size w w' := by
  have K := Lib.hid (Keep.begin1 w (Obj.rw v r))
  have HI := Lib.hid h
  obtain ⟨A, c, rfl, -, ha⟩ := h
  have HA := Lib.hid ha
  clear ha
  by_cases q1 : r.coef.length = n
  · have C1 := Lib.hid q1
    subst q1
    by_cases q2 : r.coef.length ≤ 11
    · go_enter Tryz.func27, Tryz.ntmps27
      go_upto_region 1 with fail
      (refine out_keep K.out ?_; clear K; intro W K; replace K := Lib.hid K)
      (have c0 := K.out.cell (k := 0) (.head _) rfl; have c1 := K.out.cell (k := 1) (.head _) rfl; have c2 := K.out.cell (k := 2) (.head _) rfl; have c3 := K.out.cell (k := 3) (.head _) rfl; have f1 := fun o => K.out.warm (.head _) o)
      go_wp2_with fail
      (refine ((out_any r.z (-1000000000) 1000000000 _)).mono ?_; rintro e w2 ⟨rfl, hb⟩; replace K := Lib.hid (Keep.stays _ _ K.out hb); clear hb)
      ((try clear f1); clear c0 c1 c2 c3)
      generalize ho1 : (decide (r.z < -1000000000) || decide (1000000000 < r.z)) = o1 at *
      have HO1 := Lib.hid ho1
      clear ho1
      (have c0 := K.out.cell (k := 0) (.head _) rfl; have c1 := K.out.cell (k := 1) (.head _) rfl; have c2 := K.out.cell (k := 2) (.head _) rfl; have c3 := K.out.cell (k := 3) (.head _) rfl; have f1 := fun o => K.out.warm (.head _) o)
      cases o1
      · go_wp2_with fail
        (refine ((out_any r.knee 1 32768 _)).mono ?_; rintro e w2 ⟨rfl, hb⟩; replace K := Lib.hid (Keep.stays _ _ K.out hb); clear hb)
        ((try clear f1); clear c0 c1 c2 c3)
        generalize ho2 : (decide (r.knee < 1) || decide (32768 < r.knee)) = o2 at *
        have HO2 := Lib.hid ho2
        clear ho2
        (have c0 := K.out.cell (k := 0) (.head _) rfl; have c1 := K.out.cell (k := 1) (.head _) rfl; have c2 := K.out.cell (k := 2) (.head _) rfl; have c3 := K.out.cell (k := 3) (.head _) rfl; have f1 := fun o => K.out.warm (.head _) o)
        cases o2
        · go_wp2_with fail
          (refine ((out_any r.weight 1 100 _)).mono ?_; rintro e w2 ⟨rfl, hb⟩; replace K := Lib.hid (Keep.stays _ _ K.out hb); clear hb)
          ((try clear f1); clear c0 c1 c2 c3)
          generalize ho3 : (decide (r.weight < 1) || decide (100 < r.weight)) = o3 at *
          have HO3 := Lib.hid ho3
          clear ho3
          (have c0 := K.out.cell (k := 0) (.head _) rfl; have c1 := K.out.cell (k := 1) (.head _) rfl; have c2 := K.out.cell (k := 2) (.head _) rfl; have c3 := K.out.cell (k := 3) (.head _) rfl; have f1 := fun o => K.out.warm (.head _) o)
          cases o3
          · go_wp2_with fail
            ((try clear f1); clear c0 c1 c2 c3)
            go_loopg [34] r.coef.length (fun gk iv wr => ∃ i : Nat, gk + i = r.coef.length ∧ iv = .int .i64 (i : Int) ∧ (∀ j, j < i → -1000 ≤ r.coef.getD j 0 ∧ r.coef.getD j 0 ≤ 1000) ∧ Keep w [(w.heap.size, Obj.rw (.slice A r.coef.length c) r)] wr)
            case atStart => exact ⟨0, by omega, rfl, fun j hj => absurd hj (by omega), K.out⟩
            case round =>
              clear K
              obtain ⟨i, hgi, rfl, hall, k⟩ := hrel
              have K := Lib.hid k
              have HL := Lib.hid hall
              clear k hall
              by_cases hi : i < r.coef.length
              · obtain ⟨-, p, rfl, hp, hpc⟩ := HA.out i hi
                have X : wr.cell? (p.add i) = some (.int .i64 (r.coef.getD i 0)) := by rw [K.out.B.cell (p := p.add i) (by rw [add_block]; exact hp)]; exact hpc
                clear hp hpc
                generalize hx : r.coef.getD i 0 = x at *
                have HXE := Lib.hid hx
                clear hx
                go_wp2_with fail
                (refine ((out_any x (-1000) 1000 _)).mono ?_; rintro e w2 ⟨rfl, hb⟩; replace K := Lib.hid (Keep.stays _ _ K.out hb); clear hb)
                clear X
                generalize ho4 : (decide (x < -1000) || decide (1000 < x)) = o4 at *
                have HO4 := Lib.hid ho4
                clear ho4
                cases o4
                · go_wp2_with fail
                  go_roundg (gk - 1)
                  case measure => omega
                  case rel =>
                    refine ⟨i + 1, by omega, congrArg (Value.int .i64) (by omega), fun j hj => ?_, K.out⟩
                    by_cases e : j = i
                    · rw [e, HXE.out]; have := HO4.out; simp at this; omega
                    · exact HL.out j (by omega)
                · go_wp2_with fail
                  go_ret
                  exact ⟨false, rfl, ⟨fun h => (by cases h), fun h => absurd (h.2.2.1 i hi) (by rw [HXE.out]; have := HO4.out; simp at this; omega)⟩, K.out.B⟩
              · go_wp2_with fail
                go_ret
                exact ⟨true, rfl, ⟨fun _ => ⟨rfl, q2, fun j hj => HL.out j (by omega), by have := HO1.out; simp at this; omega, by have := HO2.out; simp at this; omega, by have := HO3.out; simp at this; omega⟩, fun _ => rfl⟩, K.out.B⟩
          · go_wp2_with fail
            go_ret
            exact ⟨false, rfl, ⟨fun h => (by cases h), fun h => absurd HO3.out (by have := h.2.2.2.2.2; simp; omega)⟩, K.out.B⟩
        · go_wp2_with fail
          go_ret
          exact ⟨false, rfl, ⟨fun h => (by cases h), fun h => absurd HO2.out (by have := h.2.2.2.2.1; simp; omega)⟩, K.out.B⟩
      · go_wp2_with fail
        go_ret
        exact ⟨false, rfl, ⟨fun h => (by cases h), fun h => absurd HO1.out (by have := h.2.2.2.1; simp; omega)⟩, K.out.B⟩
    · go_enter Tryz.func27, Tryz.ntmps27
      go_upto_region 1 with fail
      (refine out_keep K.out ?_; clear K; intro W K; replace K := Lib.hid K)
      (have c0 := K.out.cell (k := 0) (.head _) rfl; have c1 := K.out.cell (k := 1) (.head _) rfl; have c2 := K.out.cell (k := 2) (.head _) rfl; have c3 := K.out.cell (k := 3) (.head _) rfl; have f1 := fun o => K.out.warm (.head _) o)
      go_wp2_with fail
      go_ret
      first | exact ⟨false, rfl, ⟨fun h => (by cases h), fun h => absurd h.2.1 q2⟩, K.out.B⟩ | exact .inl ⟨rfl, fun h => q2 h.2.1, K.out.B⟩
  · go_enter Tryz.func27, Tryz.ntmps27
    go_upto_region 1 with fail
    (refine out_keep K.out ?_; clear K; intro W K; replace K := Lib.hid K)
    (have c0 := K.out.cell (k := 0) (.head _) rfl; have c1 := K.out.cell (k := 1) (.head _) rfl; have c2 := K.out.cell (k := 2) (.head _) rfl; have c3 := K.out.cell (k := 3) (.head _) rfl; have f1 := fun o => K.out.warm (.head _) o)
    have q3 : ¬ (r.coef.length : Int) = (n : Int) := by omega
    go_wp2_with fail
    go_ret
    first | exact ⟨false, rfl, ⟨fun h => (by cases h), fun h => absurd h.1 q1⟩, K.out.B⟩ | exact .inl ⟨rfl, fun h => q1 h.1, K.out.B⟩
end Go.Proofs.YtmidifgnpjlgcaaGreat
/- Rows of int64 of the call's own. -/
set_option linter.unusedVariables false
set_option linter.unusedSimpArgs false
namespace Go.Proofs.YtmidifgnpjlgcaaGreat
open Go.RowKit

/-- Parts in a row of the call's own. -/
def Qwn (w : World) (base : Nat) (v : Value) (ds : List Int) : Prop := w.ownsRow base 2 1 v ds.length (ds.map (Value.int .i64))

theorem Qwn.nil (w : World) (base : Nat) : Qwn w base (.slice none 0 0) [] := ⟨rfl, .inl ⟨rfl, rfl⟩⟩
theorem Qwn.base {w : World} {base : Nat} {v : Value} {ds : List Int} (h : Qwn w base v ds) (k : Nat) (hk : v.ownBlock = some k) : base ≤ k := by
  rcases h.2 with ⟨rfl, _⟩ | ⟨g, cap, cur, rfl, hb, _⟩
  · simp [Value.ownBlock] at hk
  · have : g = k := by simpa [Value.ownBlock] using hk
    omega
theorem Qwn.below {w w1 : World} {base : Nat} {v : Value} {ds : List Int} (h : Qwn w base v ds) (hb : Below w.heap.size w w1) : Qwn w1 base v ds :=
  World.ownsRow.kept h (row := none) ⟨hb.os, hb.tape, hb.output, hb.size, fun i hi _ => hb.block i hi⟩ (by cases v.ownBlock <;> simp)
/-- A row with more behind it. -/
def Obj.qowt (ds : List Int) (rest : List Value) : Obj := .cells (ds.map (Value.int .i64) ++ rest).toArray 2
theorem Qwn.row {w : World} {base : Nat} {v : Value} {ds : List Int} (h : Qwn w base v ds) : (v = .slice none 0 0 ∧ ds = []) ∨ ∃ g c rest, v = .slice (some ⟨g, 0, none⟩) ds.length c ∧ base ≤ g ∧ ds.length ≤ c ∧ w.heap[g]? = some (Obj.qowt ds rest) := by
  rcases h.2 with ⟨rfl, h0⟩ | ⟨g, cap, cur, rfl, hb, hh, hn, _, hcur, htake⟩
  · exact .inl ⟨rfl, List.length_eq_zero_iff.1 h0⟩
  · refine .inr ⟨g, cap, cur.toList.drop ds.length, rfl, hb, hn, ?_⟩
    rw [hh]
    unfold Obj.qowt
    rw [← htake, Nat.mul_one, List.take_append_drop]

variable {w0 w : World} {l l2 : List (Nat × Obj)}
theorem Keep.qtc {b : Nat} {ds : List Int} {rest : List Value} (K : Keep w0 l w) (m : (b, Obj.qowt ds rest) ∈ l) (j : Nat) (hj : j < ds.length) : w.cell? ⟨b, j, none⟩ = some (.int .i64 (ds.getD j 0)) :=
  K.cell m (by rw [List.getElem?_toArray, List.getElem?_append_left (by simpa using hj)]; simp [hj])
theorem Keep.qtw {b : Nat} {ds : List Int} {rest : List Value} (K : Keep w0 l w) (m : (b, Obj.qowt ds rest) ∈ l) (o : Nat) : w.frozen? ⟨b, o, none⟩ = false := K.warm m o
theorem Keep.setqt {b : Nat} {ds : List Int} {rest : List Value} (l1 : List (Nat × Obj)) (K : Keep w0 (l1 ++ (b, Obj.qowt ds rest) :: l2) w) (j : Nat) (hj : j < ds.length) (v : Int) : Keep w0 (l1 ++ (b, Obj.qowt (ds.set j v) rest) :: l2) (w.setCell ⟨b, j, none⟩ (.int .i64 v)) := by
  have := K.set l1 j (.int .i64 v)
  have e : (ds.map (Value.int .i64) ++ rest).toArray.setIfInBounds j (.int .i64 v) = ((ds.set j v).map (Value.int .i64) ++ rest).toArray := by
    rw [List.map_set, List.setIfInBounds_toArray, List.set_append, if_pos (by simpa using hj)]
  rw [e] at this
  exact this
theorem info2 : (Tryz.prog.info? 2).map (fun i => (i.zero, i.size, i.bytes)) = some (some (.int .i64 0), 1, 8) := by kernel_rfl

def Obj.qow (ds : List Int) : Obj := .cells (ds.map (Value.int .i64)).toArray 2

theorem mk_qow (N : Nat) (hN : N ≤ 1000000) (x : Int) (hx : x = (N : Int)) (w : World) : (Instr.makeSlice 23 (.int .i64 x) (.int .i64 x)).run Tryz.prog w = .ok (.slice (some ⟨w.heap.size, 0, none⟩) N N) (w.alloc (Obj.qow (List.replicate N 0))) := by
  obtain ⟨i0, hi, hx0⟩ := Option.map_eq_some_iff.1 info2
  simp only [Prod.mk.injEq] at hx0
  obtain ⟨hz0, hz1, hz2⟩ := hx0
  subst hx
  have := run_make (P := Tryz.prog) w 23 2 i0 (.int .i64 0) Tryz.underlying23 hi hz0 .i64 .i64 (N : Int) (N : Int) (by omega) (Int.le_refl _) (by rw [hz2]; omega) (by omega)
  rw [this, hz1]
  have e : madeCells (Value.int .i64 0).cells ((N : Int).toNat * 1) = ((List.replicate N (0 : Int)).map (Value.int .i64)).toArray := by
    apply Array.ext
    · simp [madeCells]
    · intro j h1 h2
      simp [madeCells, Value.cells, Nat.mod_one]
  rw [e]
  simp [Obj.qow]

/-- A copy of parts. -/
theorem app3q {ops : Array Oper} {rest : List Oper} {o : Oper} {a : Act} {Q : Exit → Act → World → Prop} {w : World} (hgd : o.guard = none) (s x : Operand)
    (ho : o.op = .call { callee := .builtin .append, args := #[s, x], argTypes := #[23, 23] }) (r : Value) (rs : List Int) (hs : a.eval s = .slice (some ⟨w.heap.size, 0, none⟩) 0 0) (hx : a.eval x = r) (hr : Iv w r rs) (hlen : rs.length ≤ 1000000)
    (h : ∀ v' w', Qwn w' w.heap.size v' rs → Below w.heap.size w w' → wpList Tryz.prog ops Q rest (a.put o.dst v') w') :
    wpList Tryz.prog ops Q (o :: rest) a (w.alloc (.cells #[] 2)) := by
  obtain ⟨i0, hi, hx0⟩ := Option.map_eq_some_iff.1 info2
  simp only [Prod.mk.injEq] at hx0
  obtain ⟨hz0, hz1, hz2⟩ := hx0
  have hown : (w.alloc (.cells #[] 2)).ownsRow w.heap.size 2 1 (.slice (some ⟨w.heap.size, 0, none⟩) 0 0) 0 [] :=
    ⟨rfl, .inr ⟨w.heap.size, 0, #[], rfl, Nat.le_refl _, by show (w.heap.push _)[w.heap.size]? = _; exact Array.getElem?_push_size, Nat.le_refl _, by unfold maxLen; omega, rfl, rfl⟩⟩
  obtain ⟨P, c, rfl, hnone, hcell⟩ := hr
  have hbe := below_one w (.cells #[] 2)
  by_cases h0 : rs = []
  · subst h0
    cases P with
    | none =>
      obtain rfl := hnone rfl
      refine wpList_append_own_none hgd s x 23 ho w.heap.size 2 i0 1 Tryz.underlying23 hi _ 0 _ hs hown hx ?_
      exact h _ _ hown hbe
    | some p =>
      refine wpList_append_own _ hgd s x 23 ho w.heap.size 2 i0 (.int .i64 0) 1 8 Tryz.underlying23 hi hz0 hz1 hz2 rfl (by decide) _ 0 _ hs hown p 0 c [] hx (by simp) (by simp) (by simp) (by unfold maxLen; omega) (by omega) (by simp) ?_
      intro v' w' hown' hgrow _
      have hg : ∀ k, k < w.heap.size → w'.heap[k]? = (w.alloc (.cells #[] 2)).heap[k]? := fun k hk => hgrow.block k (by simp; omega) (fun e => by simp [Value.ownBlock] at e; omega)
      refine h v' w' ?_ ⟨hgrow.os, hgrow.tape, hgrow.output, Nat.le_trans hbe.size hgrow.size, fun k hk => (hg k hk).trans (hbe.block k hk)⟩
      exact hown'
  · obtain ⟨-, p, rfl, hlt, -⟩ := hcell 0 (List.length_pos_iff.2 h0)
    refine wpList_append_own _ hgd s x 23 ho w.heap.size 2 i0 (.int .i64 0) 1 8 Tryz.underlying23 hi hz0 hz1 hz2 rfl (by decide) _ 0 _ hs hown p rs.length c (rs.map (Value.int .i64)) hx (by simp) ?_ ?_ (by unfold maxLen; omega) (by omega) (by simp) ?_
    · intro j u hu
      have hj : j < rs.length := by
        apply Classical.byContradiction
        intro hn
        rw [List.getElem?_eq_none (by simp; omega)] at hu
        cases hu
      obtain ⟨-, q, hq, hlt', hc'⟩ := hcell j hj
      obtain rfl := Option.some.inj hq
      rw [hbe.cell (p := p.add j) (by rw [add_block]; exact hlt), hc']
      rw [List.getElem?_map, List.getElem?_eq_getElem hj] at hu
      simpa [hj] using hu
    · intro u hu
      obtain ⟨z, _, rfl⟩ := List.mem_map.1 hu
      rfl
    · intro v' w' hown' hgrow _
      have hg : ∀ k, k < w.heap.size → w'.heap[k]? = (w.alloc (.cells #[] 2)).heap[k]? := fun k hk => hgrow.block k (by simp; omega) (fun e => by simp [Value.ownBlock] at e; omega)
      refine h v' w' ?_ ⟨hgrow.os, hgrow.tape, hgrow.output, Nat.le_trans hbe.size hgrow.size, fun k hk => (hg k hk).trans (hbe.block k hk)⟩
      unfold Qwn
      rw [Nat.zero_add] at hown'
      exact hown'

/-- One part more. -/
theorem app1q {ops : Array Oper} {rest : List Oper} {o : Oper} {a : Act} {Q : Exit → Act → World → Prop} {w : World} (hgd : o.guard = none) (s x : Operand)
    (ho : o.op = .call { callee := .builtin .append, args := #[s, x], argTypes := #[23, 23] }) (base : Nat) (v : Value) (ds : List Int) (c : Int) (hs : a.eval s = v) (hown : Qwn w base v ds) (hx : a.eval x = .slice (some ⟨w.heap.size, 0, none⟩) 1 1)
    (hlen : ds.length ≤ 1000000) (hbase : base ≤ w.heap.size)
    (h : ∀ v' w', Qwn w' base v' (ds ++ [c]) → (∀ w0 l, Keep w0 l w → (∀ p ∈ l, p.1 < base) → w0.heap.size ≤ base → Keep w0 l w') → wpList Tryz.prog ops Q rest (a.put o.dst v') w') :
    wpList Tryz.prog ops Q (o :: rest) a (w.alloc (.cells #[.int .i64 c] 2)) := by
  obtain ⟨i0, hi, hx0⟩ := Option.map_eq_some_iff.1 info2
  simp only [Prod.mk.injEq] at hx0
  obtain ⟨hz0, hz1, hz2⟩ := hx0
  refine wpList_append_own _ hgd s x 23 ho base 2 i0 (.int .i64 0) 1 8 Tryz.underlying23 hi hz0 hz1 hz2 rfl (by decide) v ds.length _ hs (World.ownsRow.alloc hown _) ⟨w.heap.size, 0, none⟩ 1 1 [.int .i64 c] hx rfl (cell_one_new _ _ _) ?_ (by unfold maxLen; omega) (by omega) (by simp; omega) ?_
  · intro u hu
    simp only [List.mem_singleton] at hu
    rw [hu]; rfl
  · intro v' w' hown' hgrow _
    refine h v' w' ?_ fun w0 l K hl h0 => ?_
    · have e : (ds ++ [c]).map (Value.int .i64) = ds.map (Value.int .i64) ++ [.int .i64 c] := by simp
      unfold Qwn
      rw [e, List.length_append]
      exact hown'
    · have Ka := (K.alloc (.cells #[.int .i64 c] 2)).rest
      have hg : ∀ k, k < base → w'.heap[k]? = (w.alloc (.cells #[.int .i64 c] 2)).heap[k]? := fun k hk => hgrow.block k (by simp; omega) (fun e => by have := hown.base k e.symm; omega)
      refine ⟨fun p hp => ?_, Ka.own, Ka.one, ⟨hgrow.os.trans Ka.B.os, hgrow.tape.trans Ka.B.tape, hgrow.output.trans Ka.B.output, Nat.le_trans Ka.B.size hgrow.size, fun k hk => (hg k (by omega)).trans (Ka.B.block k hk)⟩⟩
      rw [hg p.1 (hl p hp)]
      exact Ka.box p hp


/-- A row of the call's own is a list. -/
theorem Qwn.iv {w : World} {base : Nat} {v : Value} {ds : List Int} (h : Qwn w base v ds) (hi : ∀ j, j < ds.length → i64 (ds.getD j 0)) : Iv w v ds := by
  rcases h.row with ⟨rfl, rfl⟩ | ⟨g, c, rest, rfl, hb, hc, hh⟩
  · exact ⟨none, 0, rfl, fun _ => rfl, fun j hj => absurd hj (by simp)⟩
  · refine ⟨_, c, rfl, fun h => (by cases h), fun j hj => ⟨hi j hj, _, rfl, (Array.getElem?_eq_some_iff.1 hh).1, ?_⟩⟩
    have e : ((⟨g, 0, none⟩ : Addr).add j) = ⟨g, j, none⟩ := by unfold Addr.add; split <;> simp_all
    rw [e]
    simp only [World.cell?, hh, Obj.qowt]
    rw [List.getElem?_toArray, List.getElem?_append_left (by simpa using hj)]
    simp [hj]
end Go.Proofs.YtmidifgnpjlgcaaGreat
