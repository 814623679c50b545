/- The texts Sc, Sd, Ta of the walk of the law and of all that it calls, in one file. No condition. -/
import Derived.Test.YtmidifgnpjlgcaaGreatY13
/- The walk of Step. -/
set_option linter.unusedVariables false
set_option linter.unusedSimpArgs false
namespace Go.Proofs.YtmidifgnpjlgcaaGreat
open Go.RowKit

/-- The matrix of a step. -/
def stepM (rs : List Rw) (xs : List Int) (r : Nat) : Nat → Nat → Int := damF (dampP r) (curveF rs xs)
/-- The right side of a step. -/
def stepB (rs : List Rw) (xs : List Int) (j : Nat) : Int := steepF rs xs j * -1024
/-- Where to look for less. -/
def stepP (n : Nat) (rs : List Rw) (xs : List Int) (r : Nat) : Option (List Int) :=
  if defP n (stepM rs xs r) = false then none else
  match sweepP n (aug n (stepM rs xs r) (stepB rs xs)) with
  | none => some []
  | some (M, odd) => some ((List.range n).map (fun i => nearP (numP n M odd i) (detP n (stepM rs xs r))))
theorem nearP_in (a b : Int) : -10000000 ≤ nearP a b ∧ nearP a b ≤ 10000000 := by unfold nearP; omega
theorem stepP_in {n : Nat} {rs : List Rw} {xs : List Int} {r : Nat} {ds : List Int} (h : stepP n rs xs r = some ds) : ds.length ≤ n ∧ ∀ j, j < ds.length → -10000000 ≤ ds.getD j 0 ∧ ds.getD j 0 ≤ 10000000 := by
  unfold stepP at h
  split at h
  · cases h
  · split at h
    · injection h with h
      subst h
      exact ⟨by simp, fun j hj => absurd hj (by simp)⟩
    · injection h with h
      subst h
      refine ⟨by simp, fun j hj => ?_⟩
      rw [List.getD_eq_getElem?_getD, List.getElem?_eq_getElem hj]
      simp only [List.getElem_map, Option.getD_some]
      exact nearP_in _ _

theorem sumTo_in {f : Nat → Int} {B : Int} : ∀ n : Nat, (∀ j, j < n → -B ≤ f j ∧ f j ≤ B) → -(n * B) ≤ sumTo f n ∧ sumTo f n ≤ n * B
  | 0, _ => by simp [sumTo]
  | n + 1, h => by
    have h1 := sumTo_in n (fun j hj => h j (by omega))
    have h2 := h n (by omega)
    show -(((n + 1 : Nat) : Int) * B) ≤ sumTo f n + f n ∧ sumTo f n + f n ≤ ((n + 1 : Nat) : Int) * B
    rw [show ((n + 1 : Nat) : Int) * B = (n : Int) * B + B by rw [Int.natCast_add, Int.add_mul]; simp]
    omega
theorem stp_in {r : Rw} {n : Nat} (h : RwOk r n) (xs : List Int) : -3276800 ≤ stp r xs ∧ stp r xs ≤ 3276800 := by
  obtain ⟨-, -, -, -, ⟨k1, k2⟩, w1, w2⟩ := h
  obtain ⟨s1, s2⟩ := slope_in (r := residual r xs) k1 k2
  unfold stp
  have := mul_in (show -100 ≤ r.weight by omega) w2 s1 s2
  omega
theorem stl_get (r : Rw) (xs : List Int) (j : Nat) : (stl r xs).getD j 0 = r.coef.getD j 0 * stp r xs := by
  unfold stl
  simp only [List.getD_eq_getElem?_getD, List.getElem?_map]
  cases r.coef[j]? <;> simp
theorem steepF_in {rs : List Rw} {n : Nat} (h : ∀ r ∈ rs, RwOk r n) (hl : rs.length ≤ 60) (xs : List Int) {j : Nat} (hj : j < n) : -pb 2 < steepF rs xs j ∧ steepF rs xs j < pb 2 := by
  have hb := sumTo_in (f := fun i => (stl (rs.getD i Rw.zero) xs).getD j 0) (B := 3276800000) rs.length (fun i hi => by
    have hr := h _ (mem_of_lt hi)
    obtain ⟨s1, s2⟩ := stp_in hr xs
    obtain ⟨c1, c2⟩ := hr.2.2.1 j hj
    have := mul_in c1 c2 s1 s2
    show _ ≤ (stl (rs.getD i Rw.zero) xs).getD j 0 ∧ (stl (rs.getD i Rw.zero) xs).getD j 0 ≤ _
    rw [stl_get]
    omega)
  have e : pb 2 = 18446744073709551616 := by decide
  unfold steepF
  omega
theorem Els.tight {w : World} {L : List Nm} {N M : Nat} {f : Nat → Int} (h : Els w L N f) (hf : ∀ j, j < L.length → -pb M < f j ∧ f j < pb M) : Els w L M f := fun j hj => (h j hj).tight (hf j hj).1 (hf j hj).2

/-- A list that lies at B or beyond. -/
def Off (B : Nat) (v : Value) : Prop := ∀ p l c, v = .slice (some p) l c → B ≤ p.block
theorem Off.nil (B l c : Nat) : Off B (.slice none l c) := fun p l c h => by cases h
theorem Off.of {B g : Nat} (h : B ≤ g) (o l c : Nat) : Off B (.slice (some ⟨g, o, none⟩) l c) := fun p l c e => by cases e; exact h
theorem Off.qwn {B base : Nat} {w : World} {v : Value} {ys : List Int} (h : Qwn w base v ys) (hb : B ≤ base) : Off B v := fun p l c e => by
  subst e
  exact Nat.le_trans hb (h.base p.block rfl)
/-- What Step tells. -/
def StR (n : Nat) (rs : List Rw) (xs : List Int) (r : Nat) (B : Nat) (e : Ending) (w' : World) : Prop :=
  (stepP n rs xs r = none ∧ e = .returned (.tuple #[.slice none 0 0, .int .i64 80])) ∨ ∃ ds u, stepP n rs xs r = some ds ∧ e = .returned (.tuple #[u, .int .i64 0]) ∧ Off B u ∧ Iv w' u ds

variable {w0 w : World} {l l2 : List (Nat × Obj)}
set_option maxHeartbeats 8000000 in
set_option maxRecDepth 100000 in
theorem step_any (rv pv qv cs ds t : Value) (cn dn : Bool) (n : Nat) (rs : List Rw) (xs : List Int) (r : Nat) (w : World) (h : Gz w rv pv qv cn cs dn ds n rs) (hx : Sta w t xs n) (hr : r ≤ 12) :
    Calls Tryz.prog 33 #[.agg #[.int .i64 n, rv, pv, qv, .bool cn, cs, .bool dn, ds], t, .int .i64 r] w fun e w' => StR n rs xs r w.heap.size e w' ∧ Below w.heap.size w w' := by
  obtain ⟨CA, cl, cc, rfl⟩ := h.2.2.1.2.2.sl
  obtain ⟨DA, dl, dc, rfl⟩ := h.2.2.2.1.sl
  have HG := Lib.hid h; have HX := Lib.hid hx
  obtain ⟨hl60, hn11⟩ := h.2.2.2.2
  obtain ⟨RA, rc, rfl, -⟩ := h.1
  obtain ⟨PA, pc, rfl, -⟩ := h.2.2.1.1
  obtain ⟨QA, qc, rfl, -⟩ := h.2.2.1.2.1
  obtain ⟨B, d, rfl, -⟩ := hx.1
  have HXL := Lib.hid hx.2.1
  have HSB : Hid (stateB xs = true) := decide_eq_true (fun j hj => hx.2.2 j (by rw [← hx.2.1]; exact hj))
  have K := Lib.hid (Keep.begin1 w (.cells #[.int .i64 n, .slice RA rs.length rc, .slice PA n pc, .slice QA n qc, .bool cn, .slice CA cl cc, .bool dn, .slice DA dl dc] 34))
  clear h hx
  rw [HXL.out] at HX ⊢
  go_enter Tryz.func33, Tryz.ntmps33
  go_upto_region 1 with fail
  (refine out_keep K.out ?_; clear K; intro W K; replace K := Lib.hid K)
  have x0 := K.out.cell (k := 0) (.head _) rfl
  go_wp2_with fail
  refine (state_any _ xs _ (HX.out.1.below K.out.B) (by rw [HXL.out]; omega)).mono ?_
  rintro e w2 ⟨rfl, hb⟩
  rw [HSB.out]
  replace K := Lib.hid (Keep.stays _ _ K.out hb)
  clear hb x0
  have hr12 : ((r : Nat) : Int) ≤ 12 := by omega
  have hr0 : (0 : Int) ≤ (r : Int) := by omega
  go_upto_region 5 with fail
  clear hr12 hr0
  (refine region_ord _ 7 (by kernel_rfl) (by kernel_rfl) K.out.drew ?_; clear K; intro W K hbw; replace K := Lib.hid K)
  clear hbw
  have x0 := Keep.acell (k := 0) K (.head _) rfl
  have x1 := Keep.acell (k := 1) K (.head _) rfl
  have x2 := Keep.acell (k := 2) K (.head _) rfl
  have x3 := Keep.acell (k := 3) K (.head _) rfl
  have x4 := Keep.acell (k := 4) K (.head _) rfl
  have x5 := Keep.acell (k := 5) K (.head _) rfl
  have x6 := Keep.acell (k := 6) K (.head _) rfl
  have x7 := Keep.acell (k := 7) K (.head _) rfl
  (refine Ord.take' 0 rfl (by kernel_rfl) (fun _ _ _ _ h => h) K.out (by rfl) ?_; apply Exists.intro; refine ⟨fun p => ?_, ?_⟩; (focus (go_simp; (try (with_reducible rfl)); done)); (try simp only [Act.put, List.setIfInBounds_toArray, List.set_cons_zero, List.set_cons_succ]))
  (refine Ord.take' 1 rfl (by kernel_rfl) (fun _ _ _ _ h => h) K.out (by rfl) ?_; apply Exists.intro; refine ⟨fun p => ?_, ?_⟩; (focus (go_simp; (try (with_reducible rfl)); done)); (try simp only [Act.put, List.setIfInBounds_toArray, List.set_cons_zero, List.set_cons_succ]))
  (refine Ord.take' 3 rfl (by kernel_rfl) (fun _ _ _ _ h => h) K.out (by rfl) ?_; apply Exists.intro; refine ⟨fun p => ?_, ?_⟩; (focus (go_simp; (try (with_reducible rfl)); done)); (try simp only [Act.put, List.setIfInBounds_toArray, List.set_cons_zero, List.set_cons_succ]))
  (refine Ord.take' 4 rfl (by kernel_rfl) (fun _ _ _ _ h => h) K.out (by rfl) ?_; apply Exists.intro; refine ⟨fun p => ?_, ?_⟩; (focus (go_simp; (try (with_reducible rfl)); done)); (try simp only [Act.put, List.setIfInBounds_toArray, List.set_cons_zero, List.set_cons_succ]))
  clear x0 x1 x2 x3 x4 x5 x6 x7
  (refine Ord.call 2 (g := 69) (args := (#[.agg #[.int .i64 n, .slice RA rs.length rc, .slice PA n pc, .slice QA n qc, .bool cn, .slice CA cl cc, .bool dn, .slice DA dl dc], .slice B n d])) rfl (by kernel_rfl) (by rfl) (by (go_simp; try (with_reducible rfl))) ?_)
  refine (curve_any _ _ _ _ _ _ cn dn n rs xs _ (HG.out.below K.out.B) (HX.out.below K.out.B)).mono ?_
  rintro e w3 ⟨u, rfl, hM, hb⟩
  obtain ⟨VA, vc, rfl, -⟩ : ∃ A c, u = .slice A n c ∧ True := by obtain ⟨A, c, h, -⟩ := hM.mv; exact ⟨A, c, h, trivial⟩
  (refine ⟨_, rfl, Keep.stays _ _ K.out hb, ?_⟩; replace K := Lib.hid (Keep.stays _ _ K.out hb); simp only [Act.put, List.setIfInBounds_toArray, List.set_cons_zero, List.set_cons_succ])
  have HM := Lib.hid hM.mv
  clear hb hM
  (refine Ord.call 5 (g := 70) (args := (#[.agg #[.int .i64 n, .slice RA rs.length rc, .slice PA n pc, .slice QA n qc, .bool cn, .slice CA cl cc, .bool dn, .slice DA dl dc], .int .i64 r])) rfl (by kernel_rfl) (by rfl) (by (go_simp; try (with_reducible rfl))) ?_)
  refine (damping_any _ _ _ _ _ cn dn n rs r _ (HG.out.below K.out.B) hr).mono ?_
  rintro e w4 ⟨q4, A4, l4, c4, rfl, hN4, hb⟩
  (refine ⟨_, rfl, Keep.stays _ _ K.out hb, ?_⟩; replace K := Lib.hid (Keep.stays _ _ K.out hb); simp only [Act.put, List.setIfInBounds_toArray, List.set_cons_zero, List.set_cons_succ])
  replace HM := Lib.hid (HM.out.below hb)
  clear hb
  (refine Ord.call 6 (g := 68) (args := (#[.slice VA n vc, .agg #[.bool q4, .slice A4 l4 c4]])) rfl (by kernel_rfl) (by rfl) (by (go_simp; try (with_reducible rfl))) ?_)
  refine (damped_any _ n 100 5 (curveF rs xs) q4 _ (dampP r) _ HM.out hN4 hn11 (by omega) (by omega)).mono ?_
  rintro e w5 ⟨u, rfl, hM, hb⟩
  obtain ⟨MA, mc, rfl, -⟩ : ∃ A c, u = .slice A n c ∧ True := by obtain ⟨A, c, h, -⟩ := hM.mv; exact ⟨A, c, h, trivial⟩
  (refine ⟨_, rfl, Keep.stays _ _ K.out hb, ?_⟩; replace K := Lib.hid (Keep.stays _ _ K.out hb); simp only [Act.put, List.setIfInBounds_toArray, List.set_cons_zero, List.set_cons_succ])
  replace HM : Hid (Mv w5 (.slice MA n mc) n n 101 (stepM rs xs r)) := Lib.hid hM.mv
  clear hb hM hN4
  (refine Ord.done (by kernel_rfl) ?_; simp only [List.drop_succ_cons, List.drop_zero, Act.put, List.setIfInBounds_toArray, List.set_cons_zero, List.set_cons_succ])
  have HPB3 : Hid (pbd 101 n ≤ 300000) := Nat.le_trans (pbd_mono 101 hn11) (by decide)
  have HPB : Hid (pbd 101 n ≤ 600000) := Nat.le_trans HPB3.out (by omega)
  go_wp2_with fail
  refine (definite_any _ n 101 (stepM rs xs r) _ HM.out hn11 (by omega) HPB.out).mono ?_
  rintro e w6 ⟨rfl, hb⟩
  replace K := Lib.hid (Keep.stays _ _ K.out hb)
  replace HM := Lib.hid (HM.out.below hb)
  clear hb
  cases hdf : defP n (stepM rs xs r)
  · have HNO : Hid (stepP n rs xs r = none) := by show _ = _; unfold stepP; rw [if_pos hdf]
    clear hdf
    go_wp2_with fail
    go_ret2
    exact ⟨.inl ⟨HNO.out, rfl⟩, K.out.B⟩
  · have HST : Hid (stepP n rs xs r = match sweepP n (aug n (stepM rs xs r) (stepB rs xs)) with | none => some [] | some (M, odd) => some ((List.range n).map (fun i => nearP (numP n M odd i) (detP n (stepM rs xs r))))) := by
      show _ = _; unfold stepP; rw [if_neg (by rw [hdf]; decide)]
    clear hdf
    have x0 := K.out.cell (k := 0) (.head _) rfl
    have x1 := K.out.cell (k := 1) (.head _) rfl
    have x2 := K.out.cell (k := 2) (.head _) rfl
    have x3 := K.out.cell (k := 3) (.head _) rfl
    have x4 := K.out.cell (k := 4) (.head _) rfl
    have x5 := K.out.cell (k := 5) (.head _) rfl
    have x6 := K.out.cell (k := 6) (.head _) rfl
    have x7 := K.out.cell (k := 7) (.head _) rfl
    go_wp2_with fail
    refine (steep_any _ _ _ _ _ _ cn dn n rs xs _ (HG.out.below K.out.B) (HX.out.below K.out.B)).mono ?_
    rintro e w7 ⟨u, rfl, ⟨gs, LS, rfl, hgs, hh, hls, hes⟩, hb⟩
    have KW := K
    have HB6 := Lib.hid K.out.B
    have HM6 := HM
    have KS := Lib.hid (Keep.held (Keep.start w6) (Keep.stays _ _ (Keep.start w6) hb) hh hgs)
    have HE := Lib.hid ((hes.tight (M := 2) (fun j hj => steepF_in HG.out.2.1 hl60 xs (show j < n by omega))).more (N' := 5) (by omega) (fun _ _ => rfl))
    have HL := Lib.hid hls
    clear hb hh hgs hls hes x0 x1 x2 x3 x4 x5 x6 x7 K HM
    go_wp2_with fail
    go_loopg [49] n (fun gk iv wr => ∃ (i : Nat) (L : List Nm), gk + i = n ∧ iv = .int .i64 (i : Int) ∧ L.length = n ∧ Els wr L 5 (fun j => if j < i then stepB rs xs j else steepF rs xs j) ∧ Keep w6 [(gs, Obj.lst L)] wr)
    case atStart => exact ⟨0, LS, by omega, rfl, HL.out, HE.out.more (Nat.le_refl _) (fun j _ => by rw [if_neg (by omega)]), KS.out⟩
    case round =>
      clear KS HE HL
      obtain ⟨i, L, hgi, rfl, hl, he, k'⟩ := hrel
      have K := Lib.hid k'; have HL := Lib.hid hl; have HE := Lib.hid he
      clear k' hl he
      obtain rfl : gk = n - i := by omega
      by_cases hi : i < n
      · go_upto_region 12 with fail
        (refine region_ord _ 8 (by kernel_rfl) (by kernel_rfl) K.out.drew ?_; clear K; intro W K hbw; replace K := Lib.hid K)
        replace HE := Lib.hid (HE.out.below hbw)
        clear hbw
        obtain ⟨n1, A1, l1, c1, x0, x1, hn1⟩ := Keep.lsta K (.head _) HE.out i (by rw [HL.out]; exact hi)
        rw [if_neg (show ¬ i < i by omega)] at hn1
        have H1 := Lib.hid hn1
        clear hn1
        (refine Ord.take' 0 rfl (by kernel_rfl) (fun _ _ _ _ h => h) K.out (by rfl) ?_; apply Exists.intro; refine ⟨fun p => ?_, ?_⟩; (focus (go_simp; (try (with_reducible rfl)); done)); (try simp only [Act.put, List.setIfInBounds_toArray, List.set_cons_zero, List.set_cons_succ]))
        (refine Ord.take' 1 rfl (by kernel_rfl) (fun _ _ _ _ h => h) K.out (by rfl) ?_; apply Exists.intro; refine ⟨fun p => ?_, ?_⟩; (focus (go_simp; (try (with_reducible rfl)); done)); (try simp only [Act.put, List.setIfInBounds_toArray, List.set_cons_zero, List.set_cons_succ]))
        (refine Ord.take' 2 rfl (by kernel_rfl) (fun _ _ _ _ h => h) K.out (by rfl) ?_; apply Exists.intro; refine ⟨fun p => ?_, ?_⟩; (focus (go_simp; (try (with_reducible rfl)); done)); (try simp only [Act.put, List.setIfInBounds_toArray, List.set_cons_zero, List.set_cons_succ]))
        (refine Ord.take' 3 rfl (by kernel_rfl) (fun _ _ _ _ h => h) K.out (by rfl) ?_; apply Exists.intro; refine ⟨fun p => ?_, ?_⟩; (focus (go_simp; (try (with_reducible rfl)); done)); (try simp only [Act.put, List.setIfInBounds_toArray, List.set_cons_zero, List.set_cons_succ]))
        (refine Ord.take' 4 rfl (by kernel_rfl) (fun _ _ _ _ h => h) K.out (by rfl) ?_; apply Exists.intro; refine ⟨fun p => ?_, ?_⟩; (focus (go_simp; (try (with_reducible rfl)); done)); (try simp only [Act.put, List.setIfInBounds_toArray, List.set_cons_zero, List.set_cons_succ]))
        (refine Ord.take' 5 rfl (by kernel_rfl) (fun _ _ _ _ h => h) K.out (by rfl) ?_; apply Exists.intro; refine ⟨fun p => ?_, ?_⟩; (focus (go_simp; (try (with_reducible rfl)); done)); (try simp only [Act.put, List.setIfInBounds_toArray, List.set_cons_zero, List.set_cons_succ]))
        clear x0 x1
        (refine Ord.call 6 (g := 19) (args := (#[.int .i64 (-1024)])) rfl (by kernel_rfl) (by rfl) (by (go_simp; try (with_reducible rfl))) ?_)
        refine (int_nz (-1024) _ (by omega) (by omega)).mono ?_
        rintro e w8 ⟨q3, A3, l3, c3, rfl, hN3, hb⟩
        (refine ⟨_, rfl, Keep.stays _ _ K.out hb, ?_⟩; replace K := Lib.hid (Keep.stays _ _ K.out hb); simp only [Act.put, List.setIfInBounds_toArray, List.set_cons_zero, List.set_cons_succ])
        replace HE := Lib.hid (HE.out.below hb)
        replace H1 := Lib.hid (H1.out.below hb)
        clear hb
        (refine Ord.call 7 (g := 23) (args := (#[.agg #[.bool n1, .slice A1 l1 c1], .agg #[.bool q3, .slice A3 l3 c3]])) rfl (by kernel_rfl) (by rfl) (by (go_simp; try (with_reducible rfl))) ?_)
        refine (mul_nz (H1.out.tight (M := 2) (steepF_in HG.out.2.1 hl60 xs hi).1 (steepF_in HG.out.2.1 hl60 xs hi).2) hN3 (by omega) (by omega)).mono ?_
        rintro e w9 ⟨q4, A4, l4, c4, rfl, hN4, hb⟩
        (refine ⟨_, rfl, Keep.stays _ _ K.out hb, ?_⟩; replace K := Lib.hid (Keep.stays _ _ K.out hb); simp only [Act.put, List.setIfInBounds_toArray, List.set_cons_zero, List.set_cons_succ])
        replace HE := Lib.hid (HE.out.below hb)
        have H4 := Lib.hid hN4
        clear hb hN3 hN4 H1
        (refine Ord.done (by kernel_rfl) ?_; simp only [List.drop_succ_cons, List.drop_zero, Act.put, List.setIfInBounds_toArray, List.set_cons_zero, List.set_cons_succ])
        obtain ⟨c0', c1'⟩ := K.out.lstc (.head _) i (by rw [HL.out]; exact hi)
        have f1 := K.out.lstw (.head _)
        go_wp2_with fail
        clear c0' c1' f1
        go_roundg (n - (i + 1))
        case measure => omega
        case rel =>
          have c00 := (K.out.lstc (.head _) 0 (by rw [HL.out]; omega)).1
          exact ⟨i + 1, L.set i ⟨q4, A4, l4, c4⟩, by omega, congrArg (Value.int .i64) (by omega), by rw [List.length_set]; exact HL.out, ((HE.out.putAt c00 _ _).set i ⟨q4, A4, l4, c4⟩ (H4.out.putAt c00 _ _)).more (Nat.le_refl _) (fun j _ => by
            by_cases e : j = i
            · subst e; rw [if_pos rfl, if_pos (by omega)]; rfl
            · rw [if_neg e]
              by_cases e2 : j < i
              · rw [if_pos e2, if_pos (by omega)]
              · rw [if_neg e2, if_neg (by omega)]), K.out.setl [] i ⟨q4, A4, l4, c4⟩⟩
      · have HSL : Hid (Lv wr (.slice (some ⟨gs, 0, none⟩) n n) n 101 (stepB rs xs)) := Lib.hid (Lo.lv (base := 0) ⟨gs, L, rfl, Nat.zero_le _, K.out.gb (.head _), HL.out, HE.out.more (by omega) (fun j hj => by rw [if_pos (by have := HL.out; omega)])⟩)
        replace HM6 := Lib.hid (HM6.out.below K.out.B)
        have KW2 := Lib.hid (Keep.stays _ _ KW.out K.out.B)
        clear HE HL KW HB6 K
        have K := KW2
        clear KW2
        go_wp2_with fail
        refine (lsolve_any _ _ n 101 (stepM rs xs r) (stepB rs xs) _ HM6.out HSL.out hn11 (by omega) HPB.out).mono ?_
        rintro e w8 ⟨hls, hb⟩
        replace K := Lib.hid (Keep.stays _ _ K.out hb)
        clear hb HM6 HSL
        rcases hls with ⟨hs, rfl⟩ | ⟨M, odd, u, q, DA', dl', dc', hs, rfl, hLv, hNd⟩
        · have HRES : Hid (stepP n rs xs r = some []) := by show _ = _; rw [HST.out, hs]
          clear hs HST
          go_upto_region 15 with fail
          replace K := Lib.hid (K.out.alloc (Obj.num false (.slice none 0 0))).rest
          refine out_keep K.out ?_
          clear K
          intro W9 K
          replace K := Lib.hid K
          go_wp2_with fail
          go_loopg [6, 71] 0 (fun gk ov iv wr => ov = .slice none 0 0 ∧ iv = .int .i64 0 ∧ wr = W9)
          case atStart => exact ⟨rfl, rfl, rfl⟩
          case round =>
            obtain ⟨rfl, rfl, rfl⟩ := hrel
            go_wp2_with fail
            go_ret2
            exact ⟨.inr ⟨[], _, HRES.out, rfl, Off.nil _ _ _, ⟨none, 0, rfl, fun _ => rfl, fun j hj => absurd hj (by simp)⟩⟩, K.out.B⟩
        · have HRES : Hid (stepP n rs xs r = some ((List.range n).map (fun i => nearP (numP n M odd i) (detP n (stepM rs xs r))))) := by show _ = _; rw [HST.out, hs]
          clear hs HST
          go_upto_region 15 with fail
          have KT := Lib.hid ((Keep.start w8).alloc (Obj.num q (.slice DA' dl' dc')))
          have hsz := Lib.hid (Nat.succ_le_of_lt (KT.out.lt (.head _)))
          have HND := Lib.hid hNd
          obtain ⟨UA, uc, rfl, -, hat⟩ := hLv
          have HAT := Lib.hid hat
          have HBW := Lib.hid K.out.B
          generalize hg12 : w8.heap.size = g12 at *
          have HGE := Lib.hid hg12
          clear hg12
          refine out_with (B := fun W => g12 + 1 ≤ W.heap.size) KT.out hsz.out ?_
          clear KT hsz hNd hat K
          intro W9 K hsz
          replace K := Lib.hid K
          replace hsz := Lib.hid hsz
          generalize detP n (stepM rs xs r) = dt at *
          go_wp2_with fail
          go_loopg [6, 71] n (fun gk ov iv wr => ∃ (i : Nat) (ys : List Int), gk + i = n ∧ iv = .int .i64 (i : Int) ∧ Qwn wr (g12 + 1) ov ys ∧ ys = (List.range i).map (fun i => nearP (numP n M odd i) dt) ∧ Keep w8 [(g12, Obj.num q (.slice DA' dl' dc'))] wr ∧ g12 + 1 ≤ wr.heap.size)
          case atStart => exact ⟨0, [], by omega, rfl, Qwn.nil _ _, rfl, K.out, hsz.out⟩
          case round =>
            clear K hsz
            obtain ⟨i, ys, hgi, rfl, hq, hys, k', hsz⟩ := hrel
            have K := Lib.hid k'; have HQ := Lib.hid hq; have HYS := Lib.hid hys; have HZ := Lib.hid hsz
            clear k' hq hys hsz
            obtain rfl : gk = n - i := by omega
            have HYL : Hid (ys.length = i) := by show _ = _; rw [HYS.out]; simp
            by_cases hi : i < n
            · obtain ⟨b1, n1, B1, l1, d1, rfl, hlt1, y0, y1, hn1⟩ := HAT.out i hi
              have Y0 := kept_cell K.out (by rw [HGE.out]; exact hlt1) y0
              have Y1 := kept_cell K.out (by rw [HGE.out]; exact hlt1) y1
              have HN := Lib.hid hn1
              clear y0 y1 hn1
              go_upto_region 18 with fail
              clear Y0 Y1
              replace K := Lib.hid (K.out.alloc (Obj.num n1 (.slice B1 l1 d1)))
              replace HQ := Lib.hid (HQ.out.below (below_one wr (Obj.num n1 (.slice B1 l1 d1))))
              replace HZ := Lib.hid (And.intro HZ.out (Nat.le_trans HZ.out (below_one wr (Obj.num n1 (.slice B1 l1 d1))).size))
              generalize wr.heap.size = g15 at *
              refine out_with (B := fun W => Qwn W (g12 + 1) u6 ys ∧ g12 + 1 ≤ W.heap.size) K.out ⟨HQ.out, HZ.out.2⟩ ?_
              clear K HQ HZ
              intro W10 K HQ
              replace K := Lib.hid K
              replace HQ := Lib.hid HQ
              obtain ⟨f1, c10, c11⟩ := K.out.nm (.head _)
              obtain ⟨f2, c20, c21⟩ := K.out.nm (.tail _ (.head _))
              have hp := HPB3.out
              go_wp2_with fail
              refine (nearest_any _ (HN.out.below K.out.B) (HND.out.below K.out.B) hp hp).mono ?_
              rintro e w11 ⟨rfl, hb⟩
              replace K := Lib.hid (Keep.stays _ _ K.out hb)
              replace HQ := Lib.hid (And.intro (HQ.out.1.below hb) (Nat.le_trans HQ.out.2 hb.size))
              clear hb f1 c10 c11 f2 c20 c21
              have HSN : Hid ((List.range (i + 1)).map (fun i => nearP (numP n M odd i) dt) = ys ++ [nearP (numP n M odd i) dt]) := by
                show _ = _
                rw [List.range_succ, List.map_append, HYS.out]; rfl
              generalize nearP (numP n M odd i) dt = np at *
              go_wp2_with (at_builtin; refine app1q rfl (.tmp 75) (.tmp 79) rfl (g12 + 1) u6 ys np rfl HQ.out.1 rfl (by rw [HYL.out]; omega) HQ.out.2 ?_; intro v' w' hown' hkeep')
              have K2 := Lib.hid (hkeep' _ _ K.out.rest (by intro p hp; simp at hp; subst hp; dsimp only; omega) (by rw [HGE.out]; omega))
              have HO := Lib.hid hown'
              clear hown' hkeep' HQ K
              go_roundg (n - (i + 1))
              case measure => omega
              case rel => exact ⟨i + 1, _, by omega, congrArg (Value.int .i64) (by omega), HO.out, HSN.out.symm, K2.out, Nat.succ_le_of_lt (K2.out.lt (.head _))⟩
            · have HOF := Lib.hid (Off.qwn (B := w.heap.size) HQ.out (by have := HBW.out.size; have := HGE.out; omega))
              have HI := Lib.hid (HQ.out.iv (fun j hj => by
                have e := HYS.out
                rw [e, List.getD_eq_getElem?_getD, List.getElem?_eq_getElem (by rw [← e]; exact hj)]
                simp only [List.getElem_map, Option.getD_some]
                have := nearP_in (numP n M odd ((List.range i)[j]'(by rw [HYS.out] at hj; simpa using hj))) dt
                exact ⟨by omega, by omega⟩))
              have HIN : Hid (i = n) := by show _ = _; omega
              rw [HYS.out] at HI
              rw [HIN.out] at HI
              have HB1 := Lib.hid (Below.onto HBW.out K.out.B)
              go_wp2_with fail
              go_ret2
              exact ⟨.inr ⟨_, _, HRES.out, rfl, HOF.out, HI.out⟩, HB1.out⟩
end Go.Proofs.YtmidifgnpjlgcaaGreat
/- The walks of Default, gentle. -/
set_option linter.unusedVariables false
set_option linter.unusedSimpArgs false
namespace Go.Proofs.YtmidifgnpjlgcaaGreat
open Go.RowKit

theorem Keep.setRow {w0 w : World} {l2 : List (Nat × Obj)} {b : Nat} {old : Array Value} {t : TypeId} (l1 : List (Nat × Obj)) (K : Keep w0 (l1 ++ (b, .cells old t) :: l2) w) (cells : Array Value) (hs : old.size = cells.size) : Keep w0 (l1 ++ (b, .cells cells t) :: l2) (w.setRow b cells) := by
  have hg := K.gb (b := b) (vs := old) (t := t) (by simp)
  refine Keep.turn K (below_setRow (Below.refl b w) (Nat.le_refl b) _) ?_ (fun k hk => setRow_other w b k _ hk)
  exact setRow_heap w b old cells t (0, 0) hg
theorem ret_cfg {fn : Func} {p g : Nat} {tmps : Array Value} {w : World} {a0 a1 a2 a3 a4 a5 a6 a7 a8 a9 a10 a11 a12 a13 a14 a15 a16 : Int} {R : Ending → World → Prop} (h : fn.results = #[.cell p 41]) (hp : tmps.getD p undef = .pointer (some ⟨g, 0, none⟩)) (hb : w.heap[g]? = some (.cells (#[.int .i64 a0, .int .i64 a1, .int .i64 a2, .int .i64 a3, .int .i64 a4, .int .i64 a5, .int .i64 a6, .int .i64 a7, .int .i64 a8, .int .i64 a9, .int .i64 a10, .int .i64 a11, .int .i64 a12, .int .i64 a13, .int .i64 a14, .int .i64 a15, .int .i64 a16]) 41)) (hR : R (.returned (.agg (#[.int .i64 a0, .int .i64 a1, .int .i64 a2, .int .i64 a3, .int .i64 a4, .int .i64 a5, .int .i64 a6, .int .i64 a7, .int .i64 a8, .int .i64 a9, .int .i64 a10, .int .i64 a11, .int .i64 a12, .int .i64 a13, .int .i64 a14, .int .i64 a15, .int .i64 a16]))) w) : bodyPost Tryz.prog fn R .ret { tmps := tmps, defers := [] } w :=
  bodyPost_ret (results_cell_row h tmps w g 41 _ _ _ hp hb Tryz.underlying41 rfl (by kernel_rfl)) rfl hR

variable {w0 w : World} {l l2 : List (Nat × Obj)}
set_option maxHeartbeats 4000000 in
set_option maxRecDepth 100000 in
theorem default_any (w : World) : Calls Tryz.prog 9 #[] w fun e w' => e = .returned (.agg (#[.int .i64 100, .int .i64 50, .int .i64 4, .int .i64 5, .int .i64 2097152, .int .i64 33554432, .int .i64 2000, .int .i64 1000, .int .i64 500, .int .i64 100, .int .i64 4, .int .i64 1, .int .i64 2, .int .i64 8, .int .i64 12, .int .i64 6, .int .i64 1000])) ∧ Below w.heap.size w w' := by
  have K := Lib.hid (Keep.begin1 w (.cells (#[.int .i64 100, .int .i64 50, .int .i64 4, .int .i64 5, .int .i64 2097152, .int .i64 33554432, .int .i64 2000, .int .i64 1000, .int .i64 500, .int .i64 100, .int .i64 4, .int .i64 1, .int .i64 2, .int .i64 8, .int .i64 12, .int .i64 6, .int .i64 1000]) 41))
  go_enter Tryz.func9, Tryz.ntmps9
  go_wp2_with fail
  refine ret_cfg Tryz.results9 rfl (K.out.gb (.head _)) ?_
  exact ⟨rfl, K.out.B⟩

set_option maxHeartbeats 4000000 in
set_option maxRecDepth 100000 in
theorem gentle_any (w : World) : Calls Tryz.prog 12 #[] w fun e w' => e = .returned (.agg (#[.int .i64 100, .int .i64 50, .int .i64 5, .int .i64 5, .int .i64 2097152, .int .i64 33554432, .int .i64 32768, .int .i64 32768, .int .i64 32768, .int .i64 32768, .int .i64 4, .int .i64 1, .int .i64 2, .int .i64 8, .int .i64 12, .int .i64 6, .int .i64 0])) ∧ Below w.heap.size w w' := by
  have K := Lib.hid (Keep.begin1 w (.cells #[.int .i64 0, .int .i64 0, .int .i64 0, .int .i64 0, .int .i64 0, .int .i64 0, .int .i64 0, .int .i64 0, .int .i64 0, .int .i64 0, .int .i64 0, .int .i64 0, .int .i64 0, .int .i64 0, .int .i64 0, .int .i64 0, .int .i64 0] 41))
  go_enter Tryz.func12, Tryz.ntmps12
  go_upto_region 1 with fail
  (refine out_keep K.out ?_; clear K; intro W K; replace K := Lib.hid K)
  go_wp2_with fail
  refine (default_any _).mono ?_
  rintro e w2 ⟨rfl, hb⟩
  replace K := Lib.hid (Keep.stays _ _ K.out hb)
  clear hb
  go_upto_region 5 with fail
  replace K := Lib.hid (K.out.alloc (.cells (#[.int .i64 100, .int .i64 50, .int .i64 5, .int .i64 5, .int .i64 2097152, .int .i64 33554432, .int .i64 32768, .int .i64 32768, .int .i64 32768, .int .i64 32768, .int .i64 4, .int .i64 1, .int .i64 2, .int .i64 8, .int .i64 12, .int .i64 6, .int .i64 0]) 41))
  generalize w2.heap.size = g1 at *
  (refine out_keep K.out ?_; clear K; intro W K; replace K := Lib.hid K)
  have hg1 := K.out.gb (.head _)
  have hg0 := K.out.gb (.tail _ (.head _))
  go_step
  refine wpList_load_row rfl 41 _ rfl g1 rfl 41 _ (0, 0) _ hg1 Tryz.underlying41 rfl (by kernel_rfl) ?_
  simp only [Act.put, List.setIfInBounds_toArray, List.set_cons_zero, List.set_cons_succ]
  refine wpList_store_row rfl 41 _ _ rfl w.heap.size _ rfl rfl 41 _ hg0 (by kernel_rfl) rfl (by kernel_rfl) ?_
  simp only [Act.put]
  clear hg1 hg0
  have K2 := Lib.hid (K.out.setRow [_] (#[.int .i64 100, .int .i64 50, .int .i64 5, .int .i64 5, .int .i64 2097152, .int .i64 33554432, .int .i64 32768, .int .i64 32768, .int .i64 32768, .int .i64 32768, .int .i64 4, .int .i64 1, .int .i64 2, .int .i64 8, .int .i64 12, .int .i64 6, .int .i64 0]) rfl)
  clear K
  refine out_keep K2.out ?_
  clear K2
  intro W9 K
  replace K := Lib.hid K
  go_wp2_with fail
  refine ret_cfg Tryz.results12 rfl (K.out.gb (.tail _ (.head _))) ?_
  exact ⟨rfl, K.out.B⟩
end Go.Proofs.YtmidifgnpjlgcaaGreat
/- The walks of fields: one, four, fields. -/
set_option linter.unusedVariables false
set_option linter.unusedSimpArgs false
namespace Go.Proofs.YtmidifgnpjlgcaaGreat
open Go.RowKit

/-- A block of the call's own. -/
def Laid (w w' : World) (g : Nat) (o : Obj) : Prop := Ext w w' ∧ w'.heap[g]? = some o ∧ w.heap.size ≤ g
theorem Laid.new (w : World) (o : Obj) : Laid w (w.alloc o) w.heap.size o := ⟨Ext.alloc _ _, ((Keep.start w).alloc o).box _ (.head _), Nat.le_refl _⟩
variable {w0 w : World} {l l2 : List (Nat × Obj)}
theorem Keep.heldNe {g : Nat} {o : Obj} (K : Keep w0 l w) (h : w.heap[g]? = some o) (hg : w0.heap.size ≤ g) (hne : ∀ p ∈ l, p.2 ≠ o) : Keep w0 ((g, o) :: l) w := by
  refine ⟨fun p hp => ?_, fun p hp => ?_, ?_, K.B⟩
  · rcases List.mem_cons.1 hp with rfl | hp
    · exact h
    · exact K.box p hp
  · rcases List.mem_cons.1 hp with rfl | hp
    · exact hg
    · exact K.own p hp
  · rw [List.map_cons, List.nodup_cons]
    refine ⟨fun hm => ?_, K.one⟩
    obtain ⟨p, hp, e⟩ := List.mem_map.1 hm
    have := K.box p hp
    rw [show p.1 = g from e, h] at this
    exact hne p hp (Option.some.inj this).symm
theorem Ph.lay {P : Program} {ops : Array Oper} {Q : Exit → Act → World → Prop} {S : World → Prop} {L : Act → World → Prop} {s : List (Nat × Nat)} {i : Nat} {a : Act} {w : World} {o : Oper} (hi : ops.toList[i]? = some o) (hw : Region.wanted o (yielded ops a.tmps) = true)
    (h : ∀ w', Ext w w' → ∃ v w'', (execOp a.eval o).run P w' = .ok (.value v) w'' ∧ Ext w' w'' ∧ Ph P ops Q S L s (a.put o.dst v) w'') : Ph P ops Q S L ((2, i) :: s) a w := by
  intro w' he
  refine ⟨o, by simpa using hi, hw, ?_⟩
  obtain ⟨v, w2, h1, h2, h3⟩ := h w' he
  unfold Oper.wp
  rw [h1]
  exact ⟨h2, h3⟩

set_option maxHeartbeats 4000000 in
set_option maxRecDepth 100000 in
theorem one_any (b k : Nat) (w : World) : Calls Tryz.prog 93 #[.pointer (some ⟨b, k, none⟩)] w fun e w' => ∃ g, e = .returned (.slice (some ⟨g, 0, none⟩) 1 1) ∧ Laid w w' g (.cells #[.pointer (some ⟨b, k, none⟩)] 119) := by
  go_enter Tryz.func93, Tryz.ntmps93
  go_wp2_with fail
  go_ret
  exact ⟨_, rfl, Laid.new _ _⟩
set_option maxHeartbeats 4000000 in
set_option maxRecDepth 100000 in
theorem four_any (b k : Nat) (w : World) : Calls Tryz.prog 92 #[.pointer (some ⟨b, k, none⟩)] w fun e w' => ∃ g, e = .returned (.slice (some ⟨g, 0, none⟩) 4 4) ∧ Laid w w' g (.cells #[.pointer (some ⟨b, k, none⟩), .pointer (some ⟨b, k + 1, none⟩), .pointer (some ⟨b, k + 2, none⟩), .pointer (some ⟨b, k + 3, none⟩)] 119) := by
  have K := Lib.hid (Keep.start w)
  go_enter Tryz.func92, Tryz.ntmps92
  go_upto_region 1 with fail
  (refine region_ord _ 12 (by kernel_rfl) (by kernel_rfl) K.out.drew ?_; clear K; intro W K hbw; replace K := Lib.hid K)
  (refine Ord.take' 0 rfl (by kernel_rfl) (fun _ _ _ _ h => h) K.out (by rfl) ?_; apply Exists.intro; refine ⟨fun p => ?_, ?_⟩; (focus (go_simp; (try (with_reducible rfl)); done)); (try simp only [Act.put, List.setIfInBounds_toArray, List.set_cons_zero, List.set_cons_succ]))
  (refine Ord.take' 1 rfl (by kernel_rfl) (fun _ _ _ _ h => h) K.out (by rfl) ?_; apply Exists.intro; refine ⟨fun p => ?_, ?_⟩; (focus (go_simp; (try (with_reducible rfl)); done)); (try simp only [Act.put, List.setIfInBounds_toArray, List.set_cons_zero, List.set_cons_succ]))
  (refine Ord.take' 2 rfl (by kernel_rfl) (fun _ _ _ _ h => h) K.out (by rfl) ?_; apply Exists.intro; refine ⟨fun p => ?_, ?_⟩; (focus (go_simp; (try (with_reducible rfl)); done)); (try simp only [Act.put, List.setIfInBounds_toArray, List.set_cons_zero, List.set_cons_succ]))
  (refine Ord.take' 3 rfl (by kernel_rfl) (fun _ _ _ _ h => h) K.out (by rfl) ?_; apply Exists.intro; refine ⟨fun p => ?_, ?_⟩; (focus (go_simp; (try (with_reducible rfl)); done)); (try simp only [Act.put, List.setIfInBounds_toArray, List.set_cons_zero, List.set_cons_succ]))
  (refine Ord.take' 4 rfl (by kernel_rfl) (fun _ _ _ _ h => h) K.out (by rfl) ?_; apply Exists.intro; refine ⟨fun p => ?_, ?_⟩; (focus (go_simp; (try (with_reducible rfl)); done)); (try simp only [Act.put, List.setIfInBounds_toArray, List.set_cons_zero, List.set_cons_succ]))
  (refine Ord.take' 5 rfl (by kernel_rfl) (fun _ _ _ _ h => h) K.out (by rfl) ?_; apply Exists.intro; refine ⟨fun p => ?_, ?_⟩; (focus (go_simp; (try (with_reducible rfl)); done)); (try simp only [Act.put, List.setIfInBounds_toArray, List.set_cons_zero, List.set_cons_succ]))
  (refine Ord.take' 6 rfl (by kernel_rfl) (fun _ _ _ _ h => h) K.out (by rfl) ?_; apply Exists.intro; refine ⟨fun p => ?_, ?_⟩; (focus (go_simp; (try (with_reducible rfl)); done)); (try simp only [Act.put, List.setIfInBounds_toArray, List.set_cons_zero, List.set_cons_succ]))
  (refine Ord.take' 7 rfl (by kernel_rfl) (fun _ _ _ _ h => h) K.out (by rfl) ?_; apply Exists.intro; refine ⟨fun p => ?_, ?_⟩; (focus (go_simp; (try (with_reducible rfl)); done)); (try simp only [Act.put, List.setIfInBounds_toArray, List.set_cons_zero, List.set_cons_succ]))
  (refine Ord.take' 8 rfl (by kernel_rfl) (fun _ _ _ _ h => h) K.out (by rfl) ?_; apply Exists.intro; refine ⟨fun p => ?_, ?_⟩; (focus (go_simp; (try (with_reducible rfl)); done)); (try simp only [Act.put, List.setIfInBounds_toArray, List.set_cons_zero, List.set_cons_succ]))
  (refine Ord.take' 9 rfl (by kernel_rfl) (fun _ _ _ _ h => h) K.out (by rfl) ?_; apply Exists.intro; refine ⟨fun p => ?_, ?_⟩; (focus (go_simp; (try (with_reducible rfl)); done)); (try simp only [Act.put, List.setIfInBounds_toArray, List.set_cons_zero, List.set_cons_succ]))
  (refine Ord.take' 10 rfl (by kernel_rfl) (fun _ _ _ _ h => h) K.out (by rfl) ?_; apply Exists.intro; refine ⟨fun p => ?_, ?_⟩; (focus (go_simp; (try (with_reducible rfl)); done)); (try simp only [Act.put, List.setIfInBounds_toArray, List.set_cons_zero, List.set_cons_succ]))
  (refine Ord.take' 11 rfl (by kernel_rfl) (fun _ _ _ _ h => h) K.out (by rfl) ?_; apply Exists.intro; refine ⟨fun p => ?_, ?_⟩; (focus (go_simp; (try (with_reducible rfl)); done)); (try simp only [Act.put, List.setIfInBounds_toArray, List.set_cons_zero, List.set_cons_succ]))
  (refine Ord.done (by kernel_rfl) ?_; simp only [List.drop_succ_cons, List.drop_zero, Act.put, List.setIfInBounds_toArray, List.set_cons_zero, List.set_cons_succ])
  go_wp2_with fail
  go_ret
  exact ⟨_, rfl, K.out.B.trans ((Ext.alloc _ _).mono hbw.size), (Laid.new _ _).2.1, hbw.size⟩

set_option maxHeartbeats 16000000 in
set_option maxRecDepth 100000 in
theorem fields_any (b : Nat) (w : World) : Calls Tryz.prog 65 #[.pointer (some ⟨b, 0, none⟩)] w fun e w' => ∃ g : Nat, e = .returned (.func (.func 94) #[] #[.pointer (some ⟨g, 0, none⟩)]) ∧ ∃ bs f0 f1 f2 f3 f4 f5 f6 f7 f8 f9 f10 : Nat, Keep w ([(g, .cells #[.slice (some ⟨bs, 0, none⟩) 11 11] 144), (bs, .cells #[.string ⟨#[82, 97, 116, 101]⟩, .slice (some ⟨f0, 0, none⟩) 1 1, .int .i64 1, .int .i64 1000, .string ⟨#[83, 116, 101, 112]⟩, .slice (some ⟨f1, 0, none⟩) 1 1, .int .i64 1, .int .i64 1000, .string ⟨#[75, 101, 121, 115]⟩, .slice (some ⟨f2, 0, none⟩) 1 1, .int .i64 2, .int .i64 5, .string ⟨#[71, 97, 112]⟩, .slice (some ⟨f3, 0, none⟩) 1 1, .int .i64 1, .int .i64 1000, .string ⟨#[84, 117, 114, 110]⟩, .slice (some ⟨f4, 0, none⟩) 1 1, .int .i64 1, .int .i64 4194304, .string ⟨#[80, 117, 108, 108]⟩, .slice (some ⟨f5, 0, none⟩) 1 1, .int .i64 1, .int .i64 67108864, .string ⟨#[75, 110, 101, 101, 115]⟩, .slice (some ⟨f6, 0, none⟩) 4 4, .int .i64 1, .int .i64 32768, .string ⟨#[87, 101, 105, 103, 104, 116, 115]⟩, .slice (some ⟨f7, 0, none⟩) 4 4, .int .i64 1, .int .i64 100, .string ⟨#[82, 111, 117, 110, 100, 115]⟩, .slice (some ⟨f8, 0, none⟩) 1 1, .int .i64 1, .int .i64 30, .string ⟨#[82, 97, 105, 115, 101, 115]⟩, .slice (some ⟨f9, 0, none⟩) 1 1, .int .i64 0, .int .i64 12, .string ⟨#[70, 108, 97, 116]⟩, .slice (some ⟨f10, 0, none⟩) 1 1, .int .i64 0, .int .i64 1000000000] 118), (f10, .cells #[.pointer (some ⟨b, 16, none⟩)] 119), (f9, .cells #[.pointer (some ⟨b, 15, none⟩)] 119), (f8, .cells #[.pointer (some ⟨b, 14, none⟩)] 119), (f7, .cells #[.pointer (some ⟨b, 10, none⟩), .pointer (some ⟨b, 10 + 1, none⟩), .pointer (some ⟨b, 10 + 2, none⟩), .pointer (some ⟨b, 10 + 3, none⟩)] 119), (f6, .cells #[.pointer (some ⟨b, 6, none⟩), .pointer (some ⟨b, 6 + 1, none⟩), .pointer (some ⟨b, 6 + 2, none⟩), .pointer (some ⟨b, 6 + 3, none⟩)] 119), (f5, .cells #[.pointer (some ⟨b, 5, none⟩)] 119), (f4, .cells #[.pointer (some ⟨b, 4, none⟩)] 119), (f3, .cells #[.pointer (some ⟨b, 3, none⟩)] 119), (f2, .cells #[.pointer (some ⟨b, 2, none⟩)] 119), (f1, .cells #[.pointer (some ⟨b, 1, none⟩)] 119), (f0, .cells #[.pointer (some ⟨b, 0, none⟩)] 119)]) w' := by
  have K := Lib.hid (Keep.start w)
  go_enter Tryz.func65, Tryz.ntmps65
  go_upto_region 3 with fail
  refine region_float1 _ 68 ⟨67, 5, .cells #[.slice none 0 0] 144⟩ [(1, 0), (1, 1), (1, 2), (1, 3), (1, 6), (1, 7), (1, 8), (1, 9), (1, 12), (1, 13), (1, 14), (1, 15), (1, 18), (1, 19), (1, 20), (1, 21), (1, 24), (1, 25), (1, 26), (1, 27), (1, 30), (1, 31), (1, 32), (1, 33), (1, 36), (1, 37), (1, 38), (1, 39), (1, 42), (1, 43), (1, 44), (1, 45), (1, 48), (1, 49), (1, 50), (1, 51), (1, 54), (1, 55), (1, 56), (1, 57), (1, 60), (1, 61), (1, 62), (1, 63), (2, 4), (1, 5), (2, 10), (1, 11), (2, 16), (1, 17), (2, 22), (1, 23), (2, 28), (1, 29), (2, 34), (1, 35), (2, 40), (1, 41), (2, 46), (1, 47), (2, 52), (1, 53), (2, 58), (1, 59), (2, 64), (1, 65), (2, 66)] (by kernel_rfl) (by kernel_rfl) ⟨_, rfl, rfl, rfl, fun a w => rfl, fun md e he => by simp at he⟩ (fun _ _ d _ _ => by cases d <;> exact Iff.rfl) Keep.stays K.out.drew ?_; clear K; intro W K hbw; replace K := Lib.hid K; have K0 := K
  iterate 44 (refine Ph.pure rfl (by rfl) ?_; apply Exists.intro; refine ⟨fun w => ?_, ?_⟩; (focus (go_simp; (try (with_reducible rfl)); done)); (try simp only [Act.put, List.setIfInBounds_toArray, List.set_cons_zero, List.set_cons_succ]))
  ((refine Ph.call (f := 93) (args := (#[.pointer (some ⟨b, 0, none⟩)])) rfl (by rfl) (by (intro w2; go_simp; try (with_reducible rfl))) ?_; intro w2 hb; replace K := Lib.hid (Keep.stays _ _ K.out hb)); refine (one_any b 0 _).mono ?_; rintro e u ⟨f0, rfl, hx, hg, hge⟩; refine ⟨_, rfl, hx, ?_⟩; replace K := Lib.hid (K.out.held (Keep.stays _ _ K.out hx) hg hge); clear hb hx hg hge; (try simp only [Act.put, List.setIfInBounds_toArray, List.set_cons_zero, List.set_cons_succ]); (refine Ph.pure rfl (by rfl) ?_; apply Exists.intro; refine ⟨fun w => ?_, ?_⟩; (focus (go_simp; (try (with_reducible rfl)); done)); (try simp only [Act.put, List.setIfInBounds_toArray, List.set_cons_zero, List.set_cons_succ])))
  ((refine Ph.call (f := 93) (args := (#[.pointer (some ⟨b, 1, none⟩)])) rfl (by rfl) (by (intro w2; go_simp; try (with_reducible rfl))) ?_; intro w2 hb; replace K := Lib.hid (Keep.stays _ _ K.out hb)); refine (one_any b 1 _).mono ?_; rintro e u ⟨f1, rfl, hx, hg, hge⟩; refine ⟨_, rfl, hx, ?_⟩; replace K := Lib.hid (K.out.held (Keep.stays _ _ K.out hx) hg hge); clear hb hx hg hge; (try simp only [Act.put, List.setIfInBounds_toArray, List.set_cons_zero, List.set_cons_succ]); (refine Ph.pure rfl (by rfl) ?_; apply Exists.intro; refine ⟨fun w => ?_, ?_⟩; (focus (go_simp; (try (with_reducible rfl)); done)); (try simp only [Act.put, List.setIfInBounds_toArray, List.set_cons_zero, List.set_cons_succ])))
  ((refine Ph.call (f := 93) (args := (#[.pointer (some ⟨b, 2, none⟩)])) rfl (by rfl) (by (intro w2; go_simp; try (with_reducible rfl))) ?_; intro w2 hb; replace K := Lib.hid (Keep.stays _ _ K.out hb)); refine (one_any b 2 _).mono ?_; rintro e u ⟨f2, rfl, hx, hg, hge⟩; refine ⟨_, rfl, hx, ?_⟩; replace K := Lib.hid (K.out.held (Keep.stays _ _ K.out hx) hg hge); clear hb hx hg hge; (try simp only [Act.put, List.setIfInBounds_toArray, List.set_cons_zero, List.set_cons_succ]); (refine Ph.pure rfl (by rfl) ?_; apply Exists.intro; refine ⟨fun w => ?_, ?_⟩; (focus (go_simp; (try (with_reducible rfl)); done)); (try simp only [Act.put, List.setIfInBounds_toArray, List.set_cons_zero, List.set_cons_succ])))
  ((refine Ph.call (f := 93) (args := (#[.pointer (some ⟨b, 3, none⟩)])) rfl (by rfl) (by (intro w2; go_simp; try (with_reducible rfl))) ?_; intro w2 hb; replace K := Lib.hid (Keep.stays _ _ K.out hb)); refine (one_any b 3 _).mono ?_; rintro e u ⟨f3, rfl, hx, hg, hge⟩; refine ⟨_, rfl, hx, ?_⟩; replace K := Lib.hid (K.out.held (Keep.stays _ _ K.out hx) hg hge); clear hb hx hg hge; (try simp only [Act.put, List.setIfInBounds_toArray, List.set_cons_zero, List.set_cons_succ]); (refine Ph.pure rfl (by rfl) ?_; apply Exists.intro; refine ⟨fun w => ?_, ?_⟩; (focus (go_simp; (try (with_reducible rfl)); done)); (try simp only [Act.put, List.setIfInBounds_toArray, List.set_cons_zero, List.set_cons_succ])))
  ((refine Ph.call (f := 93) (args := (#[.pointer (some ⟨b, 4, none⟩)])) rfl (by rfl) (by (intro w2; go_simp; try (with_reducible rfl))) ?_; intro w2 hb; replace K := Lib.hid (Keep.stays _ _ K.out hb)); refine (one_any b 4 _).mono ?_; rintro e u ⟨f4, rfl, hx, hg, hge⟩; refine ⟨_, rfl, hx, ?_⟩; replace K := Lib.hid (K.out.held (Keep.stays _ _ K.out hx) hg hge); clear hb hx hg hge; (try simp only [Act.put, List.setIfInBounds_toArray, List.set_cons_zero, List.set_cons_succ]); (refine Ph.pure rfl (by rfl) ?_; apply Exists.intro; refine ⟨fun w => ?_, ?_⟩; (focus (go_simp; (try (with_reducible rfl)); done)); (try simp only [Act.put, List.setIfInBounds_toArray, List.set_cons_zero, List.set_cons_succ])))
  ((refine Ph.call (f := 93) (args := (#[.pointer (some ⟨b, 5, none⟩)])) rfl (by rfl) (by (intro w2; go_simp; try (with_reducible rfl))) ?_; intro w2 hb; replace K := Lib.hid (Keep.stays _ _ K.out hb)); refine (one_any b 5 _).mono ?_; rintro e u ⟨f5, rfl, hx, hg, hge⟩; refine ⟨_, rfl, hx, ?_⟩; replace K := Lib.hid (K.out.held (Keep.stays _ _ K.out hx) hg hge); clear hb hx hg hge; (try simp only [Act.put, List.setIfInBounds_toArray, List.set_cons_zero, List.set_cons_succ]); (refine Ph.pure rfl (by rfl) ?_; apply Exists.intro; refine ⟨fun w => ?_, ?_⟩; (focus (go_simp; (try (with_reducible rfl)); done)); (try simp only [Act.put, List.setIfInBounds_toArray, List.set_cons_zero, List.set_cons_succ])))
  ((refine Ph.call (f := 92) (args := (#[.pointer (some ⟨b, 6, none⟩)])) rfl (by rfl) (by (intro w2; go_simp; try (with_reducible rfl))) ?_; intro w2 hb; replace K := Lib.hid (Keep.stays _ _ K.out hb)); refine (four_any b 6 _).mono ?_; rintro e u ⟨f6, rfl, hx, hg, hge⟩; refine ⟨_, rfl, hx, ?_⟩; replace K := Lib.hid (K.out.held (Keep.stays _ _ K.out hx) hg hge); clear hb hx hg hge; (try simp only [Act.put, List.setIfInBounds_toArray, List.set_cons_zero, List.set_cons_succ]); (refine Ph.pure rfl (by rfl) ?_; apply Exists.intro; refine ⟨fun w => ?_, ?_⟩; (focus (go_simp; (try (with_reducible rfl)); done)); (try simp only [Act.put, List.setIfInBounds_toArray, List.set_cons_zero, List.set_cons_succ])))
  ((refine Ph.call (f := 92) (args := (#[.pointer (some ⟨b, 10, none⟩)])) rfl (by rfl) (by (intro w2; go_simp; try (with_reducible rfl))) ?_; intro w2 hb; replace K := Lib.hid (Keep.stays _ _ K.out hb)); refine (four_any b 10 _).mono ?_; rintro e u ⟨f7, rfl, hx, hg, hge⟩; refine ⟨_, rfl, hx, ?_⟩; replace K := Lib.hid (K.out.held (Keep.stays _ _ K.out hx) hg hge); clear hb hx hg hge; (try simp only [Act.put, List.setIfInBounds_toArray, List.set_cons_zero, List.set_cons_succ]); (refine Ph.pure rfl (by rfl) ?_; apply Exists.intro; refine ⟨fun w => ?_, ?_⟩; (focus (go_simp; (try (with_reducible rfl)); done)); (try simp only [Act.put, List.setIfInBounds_toArray, List.set_cons_zero, List.set_cons_succ])))
  ((refine Ph.call (f := 93) (args := (#[.pointer (some ⟨b, 14, none⟩)])) rfl (by rfl) (by (intro w2; go_simp; try (with_reducible rfl))) ?_; intro w2 hb; replace K := Lib.hid (Keep.stays _ _ K.out hb)); refine (one_any b 14 _).mono ?_; rintro e u ⟨f8, rfl, hx, hg, hge⟩; refine ⟨_, rfl, hx, ?_⟩; replace K := Lib.hid (K.out.held (Keep.stays _ _ K.out hx) hg hge); clear hb hx hg hge; (try simp only [Act.put, List.setIfInBounds_toArray, List.set_cons_zero, List.set_cons_succ]); (refine Ph.pure rfl (by rfl) ?_; apply Exists.intro; refine ⟨fun w => ?_, ?_⟩; (focus (go_simp; (try (with_reducible rfl)); done)); (try simp only [Act.put, List.setIfInBounds_toArray, List.set_cons_zero, List.set_cons_succ])))
  ((refine Ph.call (f := 93) (args := (#[.pointer (some ⟨b, 15, none⟩)])) rfl (by rfl) (by (intro w2; go_simp; try (with_reducible rfl))) ?_; intro w2 hb; replace K := Lib.hid (Keep.stays _ _ K.out hb)); refine (one_any b 15 _).mono ?_; rintro e u ⟨f9, rfl, hx, hg, hge⟩; refine ⟨_, rfl, hx, ?_⟩; replace K := Lib.hid (K.out.held (Keep.stays _ _ K.out hx) hg hge); clear hb hx hg hge; (try simp only [Act.put, List.setIfInBounds_toArray, List.set_cons_zero, List.set_cons_succ]); (refine Ph.pure rfl (by rfl) ?_; apply Exists.intro; refine ⟨fun w => ?_, ?_⟩; (focus (go_simp; (try (with_reducible rfl)); done)); (try simp only [Act.put, List.setIfInBounds_toArray, List.set_cons_zero, List.set_cons_succ])))
  ((refine Ph.call (f := 93) (args := (#[.pointer (some ⟨b, 16, none⟩)])) rfl (by rfl) (by (intro w2; go_simp; try (with_reducible rfl))) ?_; intro w2 hb; replace K := Lib.hid (Keep.stays _ _ K.out hb)); refine (one_any b 16 _).mono ?_; rintro e u ⟨f10, rfl, hx, hg, hge⟩; refine ⟨_, rfl, hx, ?_⟩; replace K := Lib.hid (K.out.held (Keep.stays _ _ K.out hx) hg hge); clear hb hx hg hge; (try simp only [Act.put, List.setIfInBounds_toArray, List.set_cons_zero, List.set_cons_succ]); (refine Ph.pure rfl (by rfl) ?_; apply Exists.intro; refine ⟨fun w => ?_, ?_⟩; (focus (go_simp; (try (with_reducible rfl)); done)); (try simp only [Act.put, List.setIfInBounds_toArray, List.set_cons_zero, List.set_cons_succ])))
  refine Ph.lay rfl (by rfl) ?_
  intro w2 hb
  replace K := Lib.hid (Keep.stays _ _ K.out hb)
  clear hb
  refine ⟨.slice (some ⟨w2.heap.size, 0, none⟩) 11 11, w2.alloc (.cells (#[.string ⟨#[82, 97, 116, 101]⟩, .slice (some ⟨f0, 0, none⟩) 1 1, .int .i64 1, .int .i64 1000, .string ⟨#[83, 116, 101, 112]⟩, .slice (some ⟨f1, 0, none⟩) 1 1, .int .i64 1, .int .i64 1000, .string ⟨#[75, 101, 121, 115]⟩, .slice (some ⟨f2, 0, none⟩) 1 1, .int .i64 2, .int .i64 5, .string ⟨#[71, 97, 112]⟩, .slice (some ⟨f3, 0, none⟩) 1 1, .int .i64 1, .int .i64 1000, .string ⟨#[84, 117, 114, 110]⟩, .slice (some ⟨f4, 0, none⟩) 1 1, .int .i64 1, .int .i64 4194304, .string ⟨#[80, 117, 108, 108]⟩, .slice (some ⟨f5, 0, none⟩) 1 1, .int .i64 1, .int .i64 67108864, .string ⟨#[75, 110, 101, 101, 115]⟩, .slice (some ⟨f6, 0, none⟩) 4 4, .int .i64 1, .int .i64 32768, .string ⟨#[87, 101, 105, 103, 104, 116, 115]⟩, .slice (some ⟨f7, 0, none⟩) 4 4, .int .i64 1, .int .i64 100, .string ⟨#[82, 111, 117, 110, 100, 115]⟩, .slice (some ⟨f8, 0, none⟩) 1 1, .int .i64 1, .int .i64 30, .string ⟨#[82, 97, 105, 115, 101, 115]⟩, .slice (some ⟨f9, 0, none⟩) 1 1, .int .i64 0, .int .i64 12, .string ⟨#[70, 108, 97, 116]⟩, .slice (some ⟨f10, 0, none⟩) 1 1, .int .i64 0, .int .i64 1000000000]) 118), ?_, Ext.alloc _ _, ?_⟩
  focus (go_simp; (try (with_reducible rfl)); done)
  replace K := Lib.hid (K.out.alloc (.cells (#[.string ⟨#[82, 97, 116, 101]⟩, .slice (some ⟨f0, 0, none⟩) 1 1, .int .i64 1, .int .i64 1000, .string ⟨#[83, 116, 101, 112]⟩, .slice (some ⟨f1, 0, none⟩) 1 1, .int .i64 1, .int .i64 1000, .string ⟨#[75, 101, 121, 115]⟩, .slice (some ⟨f2, 0, none⟩) 1 1, .int .i64 2, .int .i64 5, .string ⟨#[71, 97, 112]⟩, .slice (some ⟨f3, 0, none⟩) 1 1, .int .i64 1, .int .i64 1000, .string ⟨#[84, 117, 114, 110]⟩, .slice (some ⟨f4, 0, none⟩) 1 1, .int .i64 1, .int .i64 4194304, .string ⟨#[80, 117, 108, 108]⟩, .slice (some ⟨f5, 0, none⟩) 1 1, .int .i64 1, .int .i64 67108864, .string ⟨#[75, 110, 101, 101, 115]⟩, .slice (some ⟨f6, 0, none⟩) 4 4, .int .i64 1, .int .i64 32768, .string ⟨#[87, 101, 105, 103, 104, 116, 115]⟩, .slice (some ⟨f7, 0, none⟩) 4 4, .int .i64 1, .int .i64 100, .string ⟨#[82, 111, 117, 110, 100, 115]⟩, .slice (some ⟨f8, 0, none⟩) 1 1, .int .i64 1, .int .i64 30, .string ⟨#[82, 97, 105, 115, 101, 115]⟩, .slice (some ⟨f9, 0, none⟩) 1 1, .int .i64 0, .int .i64 12, .string ⟨#[70, 108, 97, 116]⟩, .slice (some ⟨f10, 0, none⟩) 1 1, .int .i64 0, .int .i64 1000000000]) 118))
  generalize w2.heap.size = bs at *
  (try simp only [Act.put, List.setIfInBounds_toArray, List.set_cons_zero, List.set_cons_succ])
  intro w3 hb g hg hge
  replace K := Lib.hid ((Keep.stays _ _ K.out hb).heldNe hg (Nat.le_trans K0.out.B.size hge) (by simp))
  clear hg hge K0 hb
  simp only [ptr, List.drop_succ_cons, List.drop_zero, List.append, Act.put, List.setIfInBounds_toArray, List.set_cons_zero, List.set_cons_succ]
  have f1w := K.out.warm (.head _) 0
  have f1c := K.out.cell (k := 0) (.head _) rfl
  go_wp2_with fail
  go_ret
  refine ⟨g, rfl, bs, f0, f1, f2, f3, f4, f5, f6, f7, f8, f9, f10, ?_⟩
  exact K.out.set_0 0 (.slice (some ⟨bs, 0, none⟩) 11 11)
end Go.Proofs.YtmidifgnpjlgcaaGreat
