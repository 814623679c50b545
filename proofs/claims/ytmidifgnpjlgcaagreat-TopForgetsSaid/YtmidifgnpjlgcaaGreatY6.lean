/- The texts Nd, Ne, Oa, Ob of the walk of the law and of all that it calls, in one file. No condition. -/
import Derived.Test.YtmidifgnpjlgcaaGreatY5
/- States: copied, looked at, moved; how steep a row is. -/
set_option linter.unusedVariables false
set_option linter.unusedSimpArgs false
namespace Go.Proofs.YtmidifgnpjlgcaaGreat
open Go.RowKit

theorem nil23 : ∀ w : World, Sem.run Tryz.prog (binOp BinOp.eql 23 (Value.slice none 0 0) (Value.slice none 0 0)) w = .ok (.bool true) w := fun _ => by kernel_rfl
theorem some23 (p : Addr) (n c : Nat) : ∀ w : World, Sem.run Tryz.prog (binOp BinOp.eql 23 (Value.slice (some p) n c) (Value.slice none 0 0)) w = .ok (.bool false) w := fun _ => by kernel_rfl
attribute [go_sem] nil23 some23

theorem Iv.none {w : World} {xs : List Int} {c : Nat} (h : Iv w (.slice none xs.length c) xs) : xs = [] ∧ c = 0 := by
  obtain ⟨A, c', e, h0, h1⟩ := h
  injection e with e1 e2 e3
  subst e1; subst e3
  refine ⟨?_, h0 rfl⟩
  apply Classical.byContradiction
  intro hn
  obtain ⟨-, p, hp, -⟩ := h1 0 (List.length_pos_iff.2 hn)
  cases hp

set_option maxHeartbeats 1000000 in
set_option maxRecDepth 100000 in
theorem clone64_any (s : Value) (ds : List Int) (w : World) (h : Iv w s ds) (l : ds.length ≤ 1000000) :
    Calls Tryz.prog 31 #[s] w fun e w' => ∃ v, e = .returned v ∧ Qwn w' w.heap.size v ds ∧ Below w.heap.size w w' := by
  have H := Lib.hid h
  have HB := Lib.hid (Below.refl w.heap.size w)
  obtain ⟨A, c, rfl, -, -⟩ := h
  cases A with
  | none =>
    obtain ⟨rfl, rfl⟩ := H.out.none
    go_enter Tryz.func31, Tryz.ntmps31
    go_wp2_with fail
    go_ret
    exact ⟨_, rfl, Qwn.nil _ _, HB.out⟩
  | some p =>
    go_enter Tryz.func31, Tryz.ntmps31
    go_wp2_with (at_builtin; refine app3q rfl (.tmp 5) (.tmp 6) rfl _ _ rfl rfl H.out l ?_; intro v' w' hown' hb')
    have Y := Lib.hid (And.intro hown' hb')
    clear hown' hb'
    go_wp2_with fail
    go_ret
    exact ⟨_, rfl, Y.out.1, Y.out.2⟩

/-- May numbers be a state? -/
def stateB (xs : List Int) : Bool := decide (∀ j, j < xs.length → -1000000 ≤ xs.getD j 0 ∧ xs.getD j 0 ≤ 1000000)

set_option maxHeartbeats 4000000 in
set_option maxRecDepth 100000 in
theorem state_any (s : Value) (xs : List Int) (w : World) (h : Iv w s xs) (l : xs.length ≤ 1000000) :
    Calls Tryz.prog 8 #[s] w fun e w' => e = .returned (.bool (stateB xs)) ∧ Below w.heap.size w w' := by
  obtain ⟨A, c, rfl, -, ha⟩ := h
  have HA := Lib.hid ha
  have HS : Hid (stateB xs = decide (∀ j, j < xs.length → -1000000 ≤ xs.getD j 0 ∧ xs.getD j 0 ≤ 1000000)) := by show _ = _; unfold stateB; rfl
  generalize stateB xs = sb at *
  have K := Lib.hid (Keep.start w)
  clear ha
  go_enter Tryz.func8, Tryz.ntmps8
  go_wp2_with fail
  go_loopg [7] xs.length (fun gk iv wr => ∃ i : Nat, gk + i = xs.length ∧ iv = .int .i64 (i : Int) ∧ (∀ j, j < i → -1000000 ≤ xs.getD j 0 ∧ xs.getD j 0 ≤ 1000000) ∧ Keep w [] wr)
  case atStart => exact ⟨0, by omega, rfl, fun j hj => absurd hj (by omega), K.out⟩
  case round =>
    clear K
    obtain ⟨i, hgi, rfl, hall, k⟩ := hrel
    have K := Lib.hid k
    have HL := Lib.hid hall
    clear k hall
    by_cases hi : i < xs.length
    · obtain ⟨-, p, rfl, hp, hpc⟩ := HA.out i hi
      have X : wr.cell? (p.add i) = some (.int .i64 (xs.getD i 0)) := by rw [K.out.B.cell (p := p.add i) (by rw [add_block]; exact hp)]; exact hpc
      clear hp hpc
      generalize hx : xs.getD i 0 = x at *
      have HXE := Lib.hid hx
      clear hx
      by_cases c1 : x < -1000000
      · go_wp2_with fail
        go_ret
        exact ⟨ret_bool (by rw [HS.out]; refine (decide_eq_false ?_).symm; intro h; have := h i hi; rw [HXE.out] at this; omega), K.out.B⟩
      · by_cases c2 : 1000000 < x
        · go_wp2_with fail
          go_ret
          exact ⟨ret_bool (by rw [HS.out]; refine (decide_eq_false ?_).symm; intro h; have := h i hi; rw [HXE.out] at this; omega), K.out.B⟩
        · go_wp2_with fail
          clear X
          go_roundg (gk - 1)
          case measure => omega
          case rel =>
            refine ⟨i + 1, by omega, congrArg (Value.int .i64) (by omega), fun j hj => ?_, K.out⟩
            by_cases e : j = i
            · rw [e, HXE.out]; omega
            · exact HL.out j (by omega)
    · go_wp2_with fail
      go_ret
      exact ⟨ret_bool (by rw [HS.out]; exact (decide_eq_true (fun j hj => HL.out j (by omega))).symm), K.out.B⟩

theorem Keep.qiv {w0 w : World} {l : List (Nat × Obj)} {g c : Nat} {ys : List Int} {rest : List Value} (K : Keep w0 l w) (m : (g, Obj.qowt ys rest) ∈ l) (hi : ∀ j, j < ys.length → i64 (ys.getD j 0)) : Iv w (.slice (some ⟨g, 0, none⟩) ys.length c) ys := by
  refine ⟨_, c, rfl, fun h => (by cases h), fun j hj => ⟨hi j hj, _, rfl, K.lt m, ?_⟩⟩
  have e : ((⟨g, 0, none⟩ : Addr).add j) = ⟨g, j, none⟩ := by unfold Addr.add; split <;> simp_all
  rw [e]
  exact K.qtc m j hj
theorem i64_in' (x : Int) (h : i64 x) : -9223372036854775808 ≤ x ∧ x ≤ 9223372036854775807 := h

set_option maxHeartbeats 8000000 in
set_option maxRecDepth 100000 in
theorem moved_any (s t : Value) (xs ds : List Int) (w : World) (h : Iv w s xs) (hd : Iv w t ds) (l : xs.length ≤ 1000000) (ld : ds.length ≤ xs.length)
    (bx : ∀ j, j < xs.length → -1000000 ≤ xs.getD j 0 ∧ xs.getD j 0 ≤ 1000000) (bd : ∀ j, j < ds.length → -10000000 ≤ ds.getD j 0 ∧ ds.getD j 0 ≤ 10000000) :
    Calls Tryz.prog 36 #[s, t] w fun e w' => ∃ v ys, e = .returned v ∧ Iv w' v ys ∧ ys.length = xs.length ∧ (∀ j, ys.getD j 0 = xs.getD j 0 + ds.getD j 0) ∧ Below w.heap.size w w' := by
  have H := Lib.hid h
  obtain ⟨B, d, rfl, -, hb⟩ := hd
  have HB := Lib.hid hb; have BX := Lib.hid bx; have BD := Lib.hid bd
  have K := Lib.hid (Keep.start w)
  clear hb bx bd h
  go_enter Tryz.func36, Tryz.ntmps36
  go_wp2_with fail
  refine (clone64_any s xs _ (H.out.below K.out.B) l).mono ?_
  rintro e w2 ⟨v, rfl, hown, hb⟩
  rcases hown.row with ⟨rfl, rfl⟩ | ⟨g, c, rest, rfl, hg, hc, hrow⟩
  · replace K := Lib.hid (Keep.stays _ _ K.out hb)
    clear hown hb
    have hd0 : ds.length ≤ 0 := by simpa using ld
    go_wp2_with fail
    go_loopg [11] 0 (fun gk iv wr => iv = .int .i64 0 ∧ Keep w [] wr)
    case atStart => exact ⟨rfl, K.out⟩
    case round =>
      obtain ⟨rfl, k⟩ := hrel
      have K := Lib.hid k
      clear k
      go_wp2_with fail
      go_ret
      exact ⟨_, [], rfl, ⟨none, 0, rfl, fun _ => rfl, fun j hj => absurd hj (by simp)⟩, rfl, fun j => by rw [show ds = [] from List.length_eq_zero_iff.1 (by omega)]; rfl, K.out.B⟩
  · replace K := Lib.hid (Keep.held K.out (Keep.stays _ _ K.out hb) hrow hg)
    clear hown hb hrow hg
    go_wp2_with fail
    go_loopg [11] ds.length (fun gk iv wr => ∃ (i : Nat) (ys : List Int), gk + i = ds.length ∧ iv = .int .i64 (i : Int) ∧ ys.length = xs.length ∧ (∀ j, j < xs.length → i64 (ys.getD j 0)) ∧ ((∀ j, i ≤ j → ys.getD j 0 = xs.getD j 0) ∧ ∀ j, j < i → ys.getD j 0 = xs.getD j 0 + ds.getD j 0) ∧ Keep w [(g, Obj.qowt ys rest)] wr)
    case atStart => exact ⟨0, xs, by omega, rfl, rfl, fun j hj => by have := BX.out j hj; exact ⟨by omega, by omega⟩, ⟨fun j _ => rfl, fun j hj => absurd hj (by omega)⟩, K.out⟩
    case round =>
      clear K
      obtain ⟨i, ys, hgi, rfl, hy, hi6, hsame, k⟩ := hrel
      have K := Lib.hid k
      have HY := Lib.hid (And.intro hy (And.intro hi6 hsame))
      clear k hy hi6 hsame
      by_cases hi : i < ds.length
      · obtain ⟨-, q, rfl, hq, hqc⟩ := HB.out i hi
        have hiy : Hid (i < ys.length) := by show _ < _; rw [HY.out.1]; omega
        have e1 : ∀ p : At (Keep w [(g, Obj.qowt ys rest)]), p.w.cell? ⟨g, i, none⟩ = some (.int .i64 (xs.getD i 0)) := fun p => by rw [p.h.qtc (.head _) i hiy.out, HY.out.2.2.1 i (Nat.le_refl i)]
        have e2 : ∀ p : At (Keep w [(g, Obj.qowt ys rest)]), p.w.cell? (q.add i) = some (.int .i64 (ds.getD i 0)) := fun p => by rw [p.h.B.cell (p := q.add i) (by rw [add_block]; exact hq)]; exact hqc
        obtain ⟨x1, x2⟩ := BX.out i (by omega)
        obtain ⟨d1, d2⟩ := BD.out i hi
        clear hq hqc
        have HXY : Hid (∀ x y, xs.getD i 0 = x → ds.getD i 0 = y → x + y = xs.getD i 0 + ds.getD i 0) := fun x y h1 h2 => by rw [h1, h2]
        generalize hxx : xs.getD i 0 = x at e1 x1 x2
        generalize hyy : ds.getD i 0 = y at e2 d1 d2
        replace HXY := Lib.hid (HXY.out x y hxx hyy)
        clear hxx hyy
        have hw : IntKind.i64.wrap (x + y) = x + y := IntWalk.i64_in _ (by omega)
        go_wp2_with fail
        (refine region_tail _ 9 (by kernel_rfl) (by kernel_rfl) K.out.drew ?_; haveI ne := Keep.ne K)
        (simp only [List.take_succ_cons, List.take_zero, List.drop_succ_cons, List.drop_zero])
        repeat (go_big_quiet_step (fail))
        (refine wpQuiet_nil ?_; clear ne K; intro W K; replace K := Lib.hid K)
        clear e1 e2 hw
        have Z := K.out.qtc (.head _) i hiy.out
        have f5 := K.out.qtw (.head _)
        go_wp2_with fail
        replace K := Lib.hid (K.out.setqt [] i hiy.out (x + y))
        clear Z f5
        go_roundg (gk - 1)
        case measure => omega
        case rel =>
          refine ⟨i + 1, _, by omega, congrArg (Value.int .i64) (by omega), by rw [List.length_set]; exact HY.out.1, fun j hj => ?_, ⟨fun j hj => ?_, fun j hj => ?_⟩, K.out⟩
          · by_cases e : i = j
            · rw [← e, getD_set_at hiy.out]; exact ⟨by omega, by omega⟩
            · rw [getD_set_ne' e]; exact HY.out.2.1 j hj
          · rw [getD_set_ne' (by omega)]; exact HY.out.2.2.1 j (by omega)
          · by_cases e : i = j
            · rw [← e, getD_set_at hiy.out]; exact HXY.out
            · rw [getD_set_ne' e]; exact HY.out.2.2.2 j (by omega)
      · have HG := Lib.hid (K.out.qiv (c := c) (.head _) (fun j hj => HY.out.2.1 j (by rw [← HY.out.1]; exact hj)))
        rw [HY.out.1] at HG
        go_wp2_with fail
        go_ret
        exact ⟨_, ys, rfl, HG.out, HY.out.1, fun j => by
          by_cases hj : j < i
          · exact HY.out.2.2.2 j hj
          · rw [HY.out.2.2.1 j (by omega), getD_out (b := ds) (by omega), Int.add_zero], K.out.B⟩
end Go.Proofs.YtmidifgnpjlgcaaGreat
/- How steep a row is; whether a list has a number that is not 0. -/
set_option linter.unusedVariables false
set_option linter.unusedSimpArgs false
namespace Go.Proofs.YtmidifgnpjlgcaaGreat
open Go.RowKit

/-- How steep a row is. -/
def stp (r : Rw) (xs : List Int) : Int := r.weight * slope (residual r xs) r.knee
theorem map_take_succ {l : List Int} {f : Int → Int} {i : Nat} (h : i < l.length) : (l.take (i + 1)).map f = (l.take i).map f ++ [f (l.getD i 0)] := by
  rw [take_succ h, List.map_append]; rfl

set_option maxHeartbeats 8000000 in
set_option maxRecDepth 100000 in
theorem rsteep_any (v t : Value) (r : Rw) (n : Nat) (xs : List Int) (w : World) (h : Iv w v r.coef) (hr : RwOk r n) (hx : Iv w t xs) (lx : xs.length = n) (bx : ∀ j, j < n → -1000000 ≤ xs.getD j 0 ∧ xs.getD j 0 ≤ 1000000) :
    Calls Tryz.prog 97 #[.agg #[v, .int .i64 r.z, .int .i64 r.knee, .int .i64 r.weight], t] w fun e w' => ∃ u, e = .returned u ∧ Iv w' u (r.coef.map (fun a => a * stp r xs)) ∧ Below w.heap.size w w' := by
  have K := Lib.hid (Keep.begin1 w (Obj.rw v r))
  have HI := Lib.hid h; have HX := Lib.hid hx; have HR := Lib.hid hr; have LX := Lib.hid lx; have BX := Lib.hid bx
  obtain ⟨r1, r2, r3, -, ⟨k1, k2⟩, w1, w2⟩ := hr
  have LN := Lib.hid r1
  have HC := Lib.hid r3
  obtain ⟨A, c, rfl, -, ha⟩ := h
  have HA := Lib.hid ha
  obtain ⟨B, d, rfl, -⟩ := hx
  have HRI := Lib.hid (residual_in r xs)
  clear lx bx r1 r3 ha
  have hn11 : r.coef.length ≤ 11 := by rw [LN.out]; exact r2
  go_enter Tryz.func97, Tryz.ntmps97
  go_upto_region 1 with fail
  (refine out_keep K.out ?_; clear K; intro W K; replace K := Lib.hid K)
  (refine region_ord _ 9 (by kernel_rfl) (by kernel_rfl) K.out.drew ?_; clear K; intro W K hbw; replace K := Lib.hid K)
  clear hbw
  (have c0 := Keep.acell (k := 0) K (.head _) rfl; have c1 := Keep.acell (k := 1) K (.head _) rfl; have c2 := Keep.acell (k := 2) K (.head _) rfl; have c3 := Keep.acell (k := 3) K (.head _) rfl)
  (refine Ord.take' 0 rfl (by kernel_rfl) (fun _ _ _ _ h => h) K.out (by rfl) ?_; apply Exists.intro; refine ⟨fun p => ?_, ?_⟩; (focus (go_simp; (try (with_reducible rfl)); done)); (try simp only [Act.put, List.setIfInBounds_toArray, List.set_cons_zero, List.set_cons_succ]))
  (refine Ord.take' 1 rfl (by kernel_rfl) (fun _ _ _ _ h => h) K.out (by rfl) ?_; apply Exists.intro; refine ⟨fun p => ?_, ?_⟩; (focus (go_simp; (try (with_reducible rfl)); done)); (try simp only [Act.put, List.setIfInBounds_toArray, List.set_cons_zero, List.set_cons_succ]))
  (refine Ord.take' 2 rfl (by kernel_rfl) (fun _ _ _ _ h => h) K.out (by rfl) ?_; apply Exists.intro; refine ⟨fun p => ?_, ?_⟩; (focus (go_simp; (try (with_reducible rfl)); done)); (try simp only [Act.put, List.setIfInBounds_toArray, List.set_cons_zero, List.set_cons_succ]))
  (refine Ord.take' 3 rfl (by kernel_rfl) (fun _ _ _ _ h => h) K.out (by rfl) ?_; apply Exists.intro; refine ⟨fun p => ?_, ?_⟩; (focus (go_simp; (try (with_reducible rfl)); done)); (try simp only [Act.put, List.setIfInBounds_toArray, List.set_cons_zero, List.set_cons_succ]))
  (refine Ord.take' 5 rfl (by kernel_rfl) (fun _ _ _ _ h => h) K.out (by rfl) ?_; apply Exists.intro; refine ⟨fun p => ?_, ?_⟩; (focus (go_simp; (try (with_reducible rfl)); done)); (try simp only [Act.put, List.setIfInBounds_toArray, List.set_cons_zero, List.set_cons_succ]))
  (refine Ord.take' 6 rfl (by kernel_rfl) (fun _ _ _ _ h => h) K.out (by rfl) ?_; apply Exists.intro; refine ⟨fun p => ?_, ?_⟩; (focus (go_simp; (try (with_reducible rfl)); done)); (try simp only [Act.put, List.setIfInBounds_toArray, List.set_cons_zero, List.set_cons_succ]))
  ((try clear f1); clear c0 c1 c2 c3)
  (refine Ord.call 4 (g := 74) (args := (#[.agg #[.slice A r.coef.length c, .int .i64 r.z, .int .i64 r.knee, .int .i64 r.weight], .slice B xs.length d])) rfl (by kernel_rfl) (by rfl) (by (go_simp; try (with_reducible rfl))) ?_)
  refine (residual_any _ _ r n xs _ (HI.out.below K.out.B) HR.out (HX.out.below K.out.B) LX.out BX.out).mono ?_
  rintro e w2 ⟨rfl, hb⟩
  (refine ⟨_, rfl, Keep.stays _ _ K.out hb, ?_⟩; replace K := Lib.hid (Keep.stays _ _ K.out hb); simp only [Act.put, List.setIfInBounds_toArray, List.set_cons_zero, List.set_cons_succ])
  clear hb
  obtain ⟨a1, a2⟩ := HRI.out
  (refine Ord.call 7 (g := 111) (args := (#[.int .i64 (residual r xs), .int .i64 r.knee])) rfl (by kernel_rfl) (by rfl) (by (go_simp; try (with_reducible rfl))) ?_)
  refine (slope_any _ r.knee _ a1 a2 k1 k2).mono ?_
  rintro e w3 ⟨rfl, hb⟩
  (refine ⟨_, rfl, Keep.stays _ _ K.out hb, ?_⟩; replace K := Lib.hid (Keep.stays _ _ K.out hb); simp only [Act.put, List.setIfInBounds_toArray, List.set_cons_zero, List.set_cons_succ])
  clear hb
  have HSTP : Hid (stp r xs = r.weight * slope (residual r xs) r.knee) := rfl
  obtain ⟨q1, q2⟩ := slope_in (r := residual r xs) k1 k2
  generalize slope (residual r xs) r.knee = q at *
  generalize residual r xs = rs at *
  obtain ⟨t1, t2⟩ : -3276800 ≤ r.weight * q ∧ r.weight * q ≤ 3276800 := by
    have k : (r.weight * q).natAbs ≤ 100 * 32768 := by
      rw [Int.natAbs_mul]
      exact Nat.mul_le_mul (by omega) (by omega)
    omega
  have hw : IntKind.i64.wrap (r.weight * q) = r.weight * q := IntWalk.i64_in _ (by omega)
  (refine Ord.take' 8 rfl (by kernel_rfl) (fun _ _ _ _ h => h) K.out (by rfl) ?_; apply Exists.intro; refine ⟨fun p => ?_, ?_⟩; (focus (go_simp; (try (with_reducible rfl)); done)); (try simp only [Act.put, List.setIfInBounds_toArray, List.set_cons_zero, List.set_cons_succ]))
  clear hw
  generalize r.weight * q = sl at *
  (refine Ord.done (by kernel_rfl) ?_; simp only [List.drop_succ_cons, List.drop_zero, Act.put, List.setIfInBounds_toArray, List.set_cons_zero, List.set_cons_succ])
  have hsz := Lib.hid (show w.heap.size + 1 ≤ w3.heap.size from K.out.lt (.head _))
  (have c0 := K.out.cell (k := 0) (.head _) rfl; have c1 := K.out.cell (k := 1) (.head _) rfl; have c2 := K.out.cell (k := 2) (.head _) rfl; have c3 := K.out.cell (k := 3) (.head _) rfl; have f1 := fun o => K.out.warm (.head _) o)
  go_wp2_with fail
  ((try clear f1); clear c0 c1 c2 c3)
  go_loopg [6, 21] r.coef.length (fun gk ov iv wr => ∃ (i : Nat) (ys : List Int), gk + i = r.coef.length ∧ iv = .int .i64 (i : Int) ∧ Qwn wr (w.heap.size + 1) ov ys ∧ (ys.length = i ∧ ys = (r.coef.take i).map (fun a => a * sl)) ∧ (∀ j, j < ys.length → i64 (ys.getD j 0)) ∧ Keep w [(w.heap.size, Obj.rw (.slice A r.coef.length c) r)] wr ∧ w.heap.size + 1 ≤ wr.heap.size)
  case atStart => exact ⟨0, [], by omega, rfl, Qwn.nil _ _, ⟨rfl, by simp⟩, fun j hj => absurd hj (by simp), K.out, hsz.out⟩
  case round =>
    clear K hsz
    obtain ⟨i, ys, hgi, rfl, hown, hyl, hy6, k, hs⟩ := hrel
    have K := Lib.hid k
    have HO := Lib.hid (And.intro hown (And.intro hyl hy6))
    have HS := Lib.hid hs
    clear k hown hyl hy6 hs
    by_cases hi : i < r.coef.length
    · obtain ⟨-, p, rfl, hp, hpc⟩ := HA.out i hi
      have X : wr.cell? (p.add i) = some (.int .i64 (r.coef.getD i 0)) := by rw [K.out.B.cell (p := p.add i) (by rw [add_block]; exact hp)]; exact hpc
      obtain ⟨x1, x2⟩ := HC.out i (by rw [← LN.out]; exact hi)
      clear hp hpc
      have HMT := Lib.hid (map_take_succ (f := fun a => a * sl) hi)
      rw [← HO.out.2.1.2] at HMT
      generalize r.coef.getD i 0 = x at *
      obtain ⟨y1, y2⟩ : -3276800000 ≤ x * sl ∧ x * sl ≤ 3276800000 := by
        have k : (x * sl).natAbs ≤ 1000 * 3276800 := by
          rw [Int.natAbs_mul]
          exact Nat.mul_le_mul (by omega) (by omega)
        omega
      go_wp2_with (at_builtin; refine app1q rfl (.tmp 25) (.tmp 29) rfl (w.heap.size + 1) u6 ys (x * sl) rfl HO.out.1 rfl (by rw [HO.out.2.1.1]; omega) HS.out ?_; intro v' w' hown' hkeep')
      have Y := Lib.hid (And.intro hown' (hkeep' _ _ K.out (by simp) (by omega)))
      have HY6 : Hid (∀ j, j < (ys ++ [x * sl]).length → i64 ((ys ++ [x * sl]).getD j 0)) := by
        intro j hj
        by_cases e : j < ys.length
        · rw [List.getD_eq_getElem?_getD, List.getElem?_append_left e, ← List.getD_eq_getElem?_getD]
          exact HO.out.2.2 j e
        · have : j = ys.length := by simp at hj; omega
          rw [this, List.getD_eq_getElem?_getD, List.getElem?_append_right (Nat.le_refl _)]
          simp
          exact ⟨by omega, by omega⟩
      have HYL : Hid ((ys ++ [x * sl]).length = i + 1 ∧ ys ++ [x * sl] = (r.coef.take (i + 1)).map (fun a => a * sl)) := ⟨by rw [List.length_append, HO.out.2.1.1]; rfl, HMT.out.symm⟩
      clear hown' hkeep' HO K X HS
      go_roundg (gk - 1)
      case measure => omega
      case rel => exact ⟨i + 1, _, by omega, congrArg (Value.int .i64) (by omega), Y.out.1, HYL.out, HY6.out, Y.out.2, Y.out.2.lt (.head _)⟩
    · have HEQ : Hid (ys = r.coef.map (fun a => a * stp r xs)) := by show _ = _; rw [HSTP.out, HO.out.2.1.2, List.take_of_length_le (by omega)]
      have HG := Lib.hid (HO.out.1.iv HO.out.2.2)
      rw [HEQ.out] at HG
      go_wp2_with fail
      go_ret
      exact ⟨_, rfl, HG.out, K.out.B⟩

set_option maxHeartbeats 1000000 in
set_option maxRecDepth 100000 in
theorem solve1_any (n : Int) (w : World) : Calls Tryz.prog 35 #[.int .i64 n] w fun e w' => e = .returned (.bool (!decide (n = 0))) ∧ Below w.heap.size w w' := by
  have HB := Lib.hid (Below.refl w.heap.size w)
  go_enter Tryz.func35, Tryz.ntmps35
  go_wp2_with fail
  go_ret
  exact ⟨ret_bool (by first | rfl | (by_cases h : n = 0 <;> simp [h])), HB.out⟩

/-- Is a number of a list not 0? -/
def nonz (xs : List Int) : Bool := !decide (∀ j, j < xs.length → xs.getD j 0 = 0)

set_option maxHeartbeats 4000000 in
set_option maxRecDepth 100000 in
theorem index64_any (s : Value) (xs : List Int) (w : World) (h : Iv w s xs) (l : xs.length ≤ 1000000) :
    Calls Tryz.prog 72 #[s, .func (.func 35) #[] #[]] w fun e w' => ∃ k, e = .returned (.int .i64 k) ∧ (-1 ≤ k ∧ k ≤ 1000000) ∧ decide (0 ≤ k) = nonz xs ∧ Below w.heap.size w w' := by
  obtain ⟨A, c, rfl, -, ha⟩ := h
  have HA := Lib.hid ha
  have K := Lib.hid (Keep.start w)
  clear ha
  go_enter Tryz.func72, Tryz.ntmps72
  go_wp2_with fail
  go_loopg [8] xs.length (fun gk iv wr => ∃ i : Nat, gk + i = xs.length ∧ iv = .int .i64 (i : Int) ∧ (∀ j, j < i → xs.getD j 0 = 0) ∧ Keep w [] wr)
  case atStart => exact ⟨0, by omega, rfl, fun j hj => absurd hj (by omega), K.out⟩
  case round =>
    clear K
    obtain ⟨i, hgi, rfl, hz, k⟩ := hrel
    have K := Lib.hid k
    have HZ := Lib.hid hz
    clear k hz
    by_cases hi : i < xs.length
    · obtain ⟨-, p, rfl, hp, hpc⟩ := HA.out i hi
      have X : wr.cell? (p.add i) = some (.int .i64 (xs.getD i 0)) := by rw [K.out.B.cell (p := p.add i) (by rw [add_block]; exact hp)]; exact hpc
      clear hp hpc
      generalize hxx : xs.getD i 0 = x at X
      have HX := Lib.hid hxx
      clear hxx
      go_wp2_with fail
      (refine ((solve1_any x _)).mono ?_; rintro e w2 ⟨rfl, hb⟩; replace K := Lib.hid (Keep.stays _ _ K.out hb); clear hb)
      clear X
      by_cases hx : x = 0
      · subst hx
        go_wp2_with fail
        go_roundg (gk - 1)
        case measure => omega
        case rel =>
          refine ⟨i + 1, by omega, congrArg (Value.int .i64) (by omega), fun j hj => ?_, K.out⟩
          by_cases e : j = i
          · rw [e]; exact HX.out
          · exact HZ.out j (by omega)
      · go_wp2_with fail
        go_ret
        refine ⟨_, rfl, by omega, ?_, K.out.B⟩
        rw [decide_eq_true (by omega)]
        unfold nonz
        rw [decide_eq_false (fun h => hx (by rw [← HX.out]; exact h i hi))]
        rfl
    · go_wp2_with fail
      go_ret
      refine ⟨_, rfl, by omega, ?_, K.out.B⟩
      rw [decide_eq_false (by omega)]
      unfold nonz
      rw [decide_eq_true (fun j hj => HZ.out j (by omega))]
      rfl

set_option maxHeartbeats 4000000 in
set_option maxRecDepth 100000 in
theorem contains64_any (s : Value) (xs : List Int) (w : World) (h : Iv w s xs) (l : xs.length ≤ 1000000) :
    Calls Tryz.prog 34 #[s, .func (.func 35) #[] #[]] w fun e w' => e = .returned (.bool (nonz xs)) ∧ Below w.heap.size w w' := by
  have K := Lib.hid (Keep.start w)
  have H := Lib.hid h
  clear h
  go_enter Tryz.func34, Tryz.ntmps34
  go_wp2_with fail
  refine (index64_any s xs _ (H.out.below K.out.B) l).mono ?_
  rintro e w2 ⟨k, rfl, ⟨k1, k2⟩, hk, hb⟩
  replace K := Lib.hid (Keep.stays _ _ K.out hb)
  have HK := Lib.hid hk
  clear hb hk
  go_wp2_with fail
  go_ret
  exact ⟨ret_bool HK.out, K.out.B⟩
end Go.Proofs.YtmidifgnpjlgcaaGreat
/- Numbers and lists of numbers, told by what they come to; the walk of dot. -/
set_option linter.unusedVariables false
set_option linter.unusedSimpArgs false
namespace Go.Proofs.YtmidifgnpjlgcaaGreat
open Go.RowKit

/-- A number that comes to z, of N parts at most. -/
def Nz (w : World) (n : Bool) (s : Value) (z : Int) (N : Nat) : Prop := ∃ ds, Num w n s ds ∧ zof n ds = z ∧ ds.length ≤ N
theorem Nz.below {w w' : World} {n : Bool} {s : Value} {z : Int} {N : Nat} (h : Nz w n s z N) (hb : Below w.heap.size w w') : Nz w' n s z N := by
  obtain ⟨ds, h1, h2, h3⟩ := h
  exact ⟨ds, h1.below hb, h2, h3⟩
theorem Nz.more {w : World} {n : Bool} {s : Value} {z : Int} {N N' : Nat} (h : Nz w n s z N) (hN : N ≤ N') : Nz w n s z N' := by
  obtain ⟨ds, h1, h2, h3⟩ := h
  exact ⟨ds, h1, h2, Nat.le_trans h3 hN⟩
theorem Nz.sl {w : World} {n : Bool} {s : Value} {z : Int} {N : Nat} (h : Nz w n s z N) : ∃ A l c, s = .slice A l c := by
  obtain ⟨ds, h1, h2, h3⟩ := h
  obtain ⟨A, c, rfl, -⟩ := h1.1.len
  exact ⟨A, _, c, rfl⟩
theorem Nz.nil (w : World) : Nz w false (.slice none 0 0) 0 0 := ⟨[], Num.nil w, rfl, Nat.le_refl _⟩
theorem Nz.put {w : World} {n m : Bool} {s : Value} {z : Int} {N g : Nat} (h : Nz w n s z N) (hg : w.cell? ⟨g, 0, none⟩ = some (.bool m)) (u v : Value) : Nz ((w.setCell ⟨g, 0, none⟩ u).setCell ⟨g, 1, none⟩ v) n s z N := by
  obtain ⟨ds, h1, h2, h3⟩ := h
  exact ⟨ds, h1.put hg u v, h2, h3⟩

theorem add_nz {n m : Bool} {s t : Value} {x y : Int} {a b : Nat} {w : World} (h1 : Nz w n s x a) (h2 : Nz w m t y b) (l1 : a ≤ 900000) (l2 : b ≤ 900000) :
    Calls Tryz.prog 43 #[.agg #[.bool n, s], .agg #[.bool m, t]] w fun e w' => ∃ q A l c, e = .returned (.agg #[.bool q, .slice A l c]) ∧ Nz w' q (.slice A l c) (x + y) (max a b + 1) ∧ Below w.heap.size w w' := by
  obtain ⟨ds, h1, rfl, h3⟩ := h1
  obtain ⟨es, k1, rfl, k3⟩ := h2
  refine (add_any n m s t ds es w h1 k1 (by omega) (by omega)).mono ?_
  rintro e w' ⟨q, v, out, rfl, hN, hz, hl, hb⟩
  obtain ⟨A, c, rfl, -⟩ := hN.1.len
  exact ⟨q, A, _, c, rfl, ⟨out, hN, hz, by omega⟩, hb⟩
theorem sub_nz {n m : Bool} {s t : Value} {x y : Int} {a b : Nat} {w : World} (h1 : Nz w n s x a) (h2 : Nz w m t y b) (l1 : a ≤ 900000) (l2 : b ≤ 900000) :
    Calls Tryz.prog 59 #[.agg #[.bool n, s], .agg #[.bool m, t]] w fun e w' => ∃ q A l c, e = .returned (.agg #[.bool q, .slice A l c]) ∧ Nz w' q (.slice A l c) (x - y) (max a b + 1) ∧ Below w.heap.size w w' := by
  obtain ⟨ds, h1, rfl, h3⟩ := h1
  obtain ⟨es, k1, rfl, k3⟩ := h2
  refine (sub_any n m s t ds es w h1 k1 (by omega) (by omega)).mono ?_
  rintro e w' ⟨q, v, out, rfl, hN, hz, hl, hb⟩
  obtain ⟨A, c, rfl, -⟩ := hN.1.len
  exact ⟨q, A, _, c, rfl, ⟨out, hN, hz, by omega⟩, hb⟩
theorem mul_nz {n m : Bool} {s t : Value} {x y : Int} {a b : Nat} {w : World} (h1 : Nz w n s x a) (h2 : Nz w m t y b) (l1 : a ≤ 400000) (l2 : b ≤ 400000) :
    Calls Tryz.prog 23 #[.agg #[.bool n, s], .agg #[.bool m, t]] w fun e w' => ∃ q A l c, e = .returned (.agg #[.bool q, .slice A l c]) ∧ Nz w' q (.slice A l c) (x * y) (a + b + 1) ∧ Below w.heap.size w w' := by
  obtain ⟨ds, h1, rfl, h3⟩ := h1
  obtain ⟨es, k1, rfl, k3⟩ := h2
  refine (mul_any n m s t ds es w h1 k1 (by omega) (by omega)).mono ?_
  rintro e w' ⟨q, v, out, rfl, hN, hz, hl, hb⟩
  obtain ⟨A, c, rfl, -⟩ := hN.1.len
  exact ⟨q, A, _, c, rfl, ⟨out, hN, hz, by omega⟩, hb⟩
theorem neg_nz {n : Bool} {s : Value} {x : Int} {a : Nat} {w : World} (h1 : Nz w n s x a) (l1 : a ≤ 900000) :
    Calls Tryz.prog 67 #[.agg #[.bool n, s]] w fun e w' => ∃ q A l c, e = .returned (.agg #[.bool q, .slice A l c]) ∧ Nz w' q (.slice A l c) (-x) a ∧ Below w.heap.size w w' := by
  obtain ⟨ds, h1, rfl, h3⟩ := h1
  refine (neg_any n s ds w h1 (by omega)).mono ?_
  rintro e w' ⟨q, v, out, rfl, hN, hz, hl, hb⟩
  obtain ⟨A, c, rfl, -⟩ := hN.1.len
  exact ⟨q, A, _, c, rfl, ⟨out, hN, hz, by omega⟩, hb⟩
theorem int_nz (x : Int) (w : World) (h1 : -9223372036854775808 ≤ x) (h2 : x ≤ 9223372036854775807) :
    Calls Tryz.prog 19 #[.int .i64 x] w fun e w' => ∃ q A l c, e = .returned (.agg #[.bool q, .slice A l c]) ∧ Nz w' q (.slice A l c) x 2 ∧ Below w.heap.size w w' := by
  refine (int_any x w h1 h2).mono ?_
  rintro e w' ⟨q, v, out, rfl, hN, hz, hl, hb⟩
  obtain ⟨A, c, rfl, -⟩ := hN.1.len
  exact ⟨q, A, _, c, rfl, ⟨out, hN, hz, by omega⟩, hb⟩
theorem icmp_nz {n m : Bool} {s t : Value} {x y : Int} {a b : Nat} {w : World} (h1 : Nz w n s x a) (h2 : Nz w m t y b) (l1 : a ≤ 900000) (l2 : b ≤ 900000) :
    Calls Tryz.prog 24 #[.agg #[.bool n, s], .agg #[.bool m, t]] w fun e w' => e = .returned (.int .i64 (sgn (x - y))) ∧ Below w.heap.size w w' := by
  obtain ⟨ds, h1, rfl, h3⟩ := h1
  obtain ⟨es, k1, rfl, k3⟩ := h2
  exact icmp_any n m s t ds es w h1 k1 (by omega) (by omega)
theorem sign_nz {n : Bool} {s : Value} {x : Int} {a : Nat} {w : World} (h1 : Nz w n s x a) :
    Calls Tryz.prog 15 #[.agg #[.bool n, s]] w fun e w' => e = .returned (.int .i64 (sgn x)) ∧ Below w.heap.size w w' := by
  obtain ⟨ds, h1, rfl, h3⟩ := h1
  exact sign_any n s ds w h1
theorem quo_nz {n m : Bool} {s t : Value} {x y : Int} {a b : Nat} {w : World} (h1 : Nz w n s x a) (h2 : Nz w m t y b) (l1 : a ≤ 700000) (l2 : b ≤ 700000) :
    Calls Tryz.prog 80 #[.agg #[.bool n, s], .agg #[.bool m, t]] w fun e w' => ∃ q A l c rn R rl rc e' u, e = .returned (.tuple #[.agg #[.bool q, .slice A l c], .agg #[.bool rn, .slice R rl rc], .int .i64 e']) ∧ Nz w' q (.slice A l c) (Int.fdiv x y) (a + 3) ∧ Nz w' rn (.slice R rl rc) u (a + b + 2) ∧ Below w.heap.size w w' := by
  obtain ⟨ds, h1, rfl, h3⟩ := h1
  obtain ⟨es, k1, rfl, k3⟩ := h2
  refine (quo_any n m s t ds es w h1 k1 (by omega) (by omega)).mono ?_
  rintro e w' ⟨qn, qv, q, rn, rv, r, e', rfl, hN, hM, hz, hl, hr, hb⟩
  obtain ⟨A, c, rfl, -⟩ := hN.1.len
  obtain ⟨B, d, rfl, -⟩ := hM.1.len
  exact ⟨qn, A, _, c, rn, B, _, d, e', _, rfl, ⟨q, hN, hz, by omega⟩, ⟨r, hM, rfl, by omega⟩, hb⟩
theorem small_nz {n : Bool} {s : Value} {x : Int} {a : Nat} {w : World} (h1 : Nz w n s x a) (l1 : a ≤ 700000) :
    Calls Tryz.prog 100 #[.agg #[.bool n, s]] w fun e w' => e = .returned (.tuple #[.int .i64 (smallV x), .bool (smallB x)]) ∧ Below w.heap.size w w' := by
  obtain ⟨ds, h1, rfl, h3⟩ := h1
  exact small_any n s ds w h1 (by omega)

/-- A list of numbers as it lies: m numbers, each of N parts at most, the j-th comes to f j. -/
def Lv (w : World) (v : Value) (m N : Nat) (f : Nat → Int) : Prop :=
  ∃ A c, v = .slice A m c ∧ (A = none → c = 0) ∧ ∀ j, j < m → ∃ b n B l d, A = some ⟨b, 0, none⟩ ∧ b < w.heap.size ∧ w.cell? ⟨b, j * 2, none⟩ = some (.bool n) ∧ w.cell? ⟨b, j * 2 + 1, none⟩ = some (.slice B l d) ∧ Nz w n (.slice B l d) (f j) N
theorem Lv.below {w w' : World} {v : Value} {m N : Nat} {f : Nat → Int} (h : Lv w v m N f) (hb : Below w.heap.size w w') : Lv w' v m N f := by
  obtain ⟨A, c, hv, h0, h⟩ := h
  refine ⟨A, c, hv, h0, fun j hj => ?_⟩
  obtain ⟨b, n, B, l, d, hA, hlt, c0, c1, hN⟩ := h j hj
  exact ⟨b, n, B, l, d, hA, Nat.lt_of_lt_of_le hlt hb.size, by rw [hb.cell (p := ⟨b, _, none⟩) hlt]; exact c0, by rw [hb.cell (p := ⟨b, _, none⟩) hlt]; exact c1, hN.below hb⟩
theorem Nz.val {w : World} {n : Bool} {s : Value} {x y : Int} {N : Nat} (h : Nz w n s x N) (e : x = y) : Nz w n s y N := e ▸ h
theorem Lv.more {w : World} {v : Value} {m N N' : Nat} {f f' : Nat → Int} (h : Lv w v m N f) (hN : N ≤ N') (hf : ∀ j, j < m → f j = f' j) : Lv w v m N' f' := by
  obtain ⟨A, c, hv, h0, h⟩ := h
  refine ⟨A, c, hv, h0, fun j hj => ?_⟩
  obtain ⟨b, n, B, l, d, hA, hlt, c0, c1, hN'⟩ := h j hj
  exact ⟨b, n, B, l, d, hA, hlt, c0, c1, (hN'.more hN).val (hf j hj)⟩

variable {w0 w : World} {l l2 : List (Nat × Obj)}
set_option maxHeartbeats 4000000 in
set_option maxRecDepth 100000 in
theorem dot_any (v t : Value) (m N M : Nat) (f g : Nat → Int) (w : World) (h1 : Lv w v m N f) (h2 : Lv w t m M g) (hN : N + M + m ≤ 300000) :
    Calls Tryz.prog 60 #[v, t] w fun e w' => ∃ q A l c, e = .returned (.agg #[.bool q, .slice A l c]) ∧ Nz w' q (.slice A l c) (sumTo (fun k => f k * g k) m) (N + M + 1 + m) ∧ Below w.heap.size w w' := by
  obtain ⟨A, c, rfl, ha0, ha⟩ := h1
  obtain ⟨B, d, rfl, hb0, hb⟩ := h2
  have K := Lib.hid (Keep.begin2 w (Obj.num false (.slice none 0 0)) (Obj.num false (.slice none 0 0)))
  have HA := Lib.hid ha; have HB := Lib.hid hb
  clear ha hb ha0 hb0
  go_enter Tryz.func60, Tryz.ntmps60
  go_wp2_with fail
  go_loopg [9] m (fun gk iv wr => ∃ (i : Nat) (q : Bool) (C : Option Addr) (l k : Nat), gk + i = m ∧ iv = .int .i64 (i : Int) ∧ Nz wr q (.slice C l k) (sumTo (fun k => f k * g k) i) (N + M + 1 + i) ∧ Keep w [(w.heap.size + 1, Obj.num q (.slice C l k)), (w.heap.size, Obj.num false (.slice none 0 0))] wr)
  case atStart => exact ⟨0, false, none, 0, 0, by omega, rfl, (Nz.nil _).more (by omega), K.out⟩
  case round =>
    clear K
    obtain ⟨i, q, C, l, k, hgi, rfl, hN', k'⟩ := hrel
    have K := Lib.hid k'
    have HN := Lib.hid hN'
    clear k' hN'
    by_cases hi : i < m
    · obtain ⟨b, n1, B1, l1, d1, rfl, hlt1, x0, x1, hn1⟩ := HA.out i hi
      obtain ⟨b2, n2, B2, l2, d2, rfl, hlt2, y0, y1, hn2⟩ := HB.out i hi
      have X0 : ∀ p : At (Keep w [(w.heap.size + 1, Obj.num q (.slice C l k)), (w.heap.size, Obj.num false (.slice none 0 0))]), p.w.cell? ⟨b, i * 2, none⟩ = some (.bool n1) := fun p => kept_cell p.h hlt1 x0
      have X1 : ∀ p : At (Keep w [(w.heap.size + 1, Obj.num q (.slice C l k)), (w.heap.size, Obj.num false (.slice none 0 0))]), p.w.cell? ⟨b, i * 2 + 1, none⟩ = some (.slice B1 l1 d1) := fun p => kept_cell p.h hlt1 x1
      have Y0 : ∀ p : At (Keep w [(w.heap.size + 1, Obj.num q (.slice C l k)), (w.heap.size, Obj.num false (.slice none 0 0))]), p.w.cell? ⟨b2, i * 2, none⟩ = some (.bool n2) := fun p => kept_cell p.h hlt2 y0
      have Y1 : ∀ p : At (Keep w [(w.heap.size + 1, Obj.num q (.slice C l k)), (w.heap.size, Obj.num false (.slice none 0 0))]), p.w.cell? ⟨b2, i * 2 + 1, none⟩ = some (.slice B2 l2 d2) := fun p => kept_cell p.h hlt2 y1
      have H1 := Lib.hid hn1; have H2 := Lib.hid hn2
      clear x0 x1 y0 y1 hn1 hn2
      go_wp2_with fail
      (refine region_ord _ 11 (by kernel_rfl) (by kernel_rfl) K.out.drew ?_; clear K; intro W K hbw; replace K := Lib.hid K)
      obtain ⟨e10, e11⟩ := Keep.anm K (.head _)
      (refine Ord.take' 0 rfl (by kernel_rfl) (fun _ _ _ _ h => h) K.out (by rfl) ?_; apply Exists.intro; refine ⟨fun p => ?_, ?_⟩; (focus (go_simp; (try (with_reducible rfl)); done)); (try simp only [Act.put, List.setIfInBounds_toArray, List.set_cons_zero, List.set_cons_succ]))
      (refine Ord.take' 1 rfl (by kernel_rfl) (fun _ _ _ _ h => h) K.out (by rfl) ?_; apply Exists.intro; refine ⟨fun p => ?_, ?_⟩; (focus (go_simp; (try (with_reducible rfl)); done)); (try simp only [Act.put, List.setIfInBounds_toArray, List.set_cons_zero, List.set_cons_succ]))
      (refine Ord.take' 2 rfl (by kernel_rfl) (fun _ _ _ _ h => h) K.out (by rfl) ?_; apply Exists.intro; refine ⟨fun p => ?_, ?_⟩; (focus (go_simp; (try (with_reducible rfl)); done)); (try simp only [Act.put, List.setIfInBounds_toArray, List.set_cons_zero, List.set_cons_succ]))
      (refine Ord.take' 3 rfl (by kernel_rfl) (fun _ _ _ _ h => h) K.out (by rfl) ?_; apply Exists.intro; refine ⟨fun p => ?_, ?_⟩; (focus (go_simp; (try (with_reducible rfl)); done)); (try simp only [Act.put, List.setIfInBounds_toArray, List.set_cons_zero, List.set_cons_succ]))
      (refine Ord.take' 4 rfl (by kernel_rfl) (fun _ _ _ _ h => h) K.out (by rfl) ?_; apply Exists.intro; refine ⟨fun p => ?_, ?_⟩; (focus (go_simp; (try (with_reducible rfl)); done)); (try simp only [Act.put, List.setIfInBounds_toArray, List.set_cons_zero, List.set_cons_succ]))
      (refine Ord.take' 5 rfl (by kernel_rfl) (fun _ _ _ _ h => h) K.out (by rfl) ?_; apply Exists.intro; refine ⟨fun p => ?_, ?_⟩; (focus (go_simp; (try (with_reducible rfl)); done)); (try simp only [Act.put, List.setIfInBounds_toArray, List.set_cons_zero, List.set_cons_succ]))
      (refine Ord.take' 6 rfl (by kernel_rfl) (fun _ _ _ _ h => h) K.out (by rfl) ?_; apply Exists.intro; refine ⟨fun p => ?_, ?_⟩; (focus (go_simp; (try (with_reducible rfl)); done)); (try simp only [Act.put, List.setIfInBounds_toArray, List.set_cons_zero, List.set_cons_succ]))
      (refine Ord.take' 7 rfl (by kernel_rfl) (fun _ _ _ _ h => h) K.out (by rfl) ?_; apply Exists.intro; refine ⟨fun p => ?_, ?_⟩; (focus (go_simp; (try (with_reducible rfl)); done)); (try simp only [Act.put, List.setIfInBounds_toArray, List.set_cons_zero, List.set_cons_succ]))
      (refine Ord.take' 8 rfl (by kernel_rfl) (fun _ _ _ _ h => h) K.out (by rfl) ?_; apply Exists.intro; refine ⟨fun p => ?_, ?_⟩; (focus (go_simp; (try (with_reducible rfl)); done)); (try simp only [Act.put, List.setIfInBounds_toArray, List.set_cons_zero, List.set_cons_succ]))
      clear e10 e11 X0 X1 Y0 Y1
      (refine Ord.call 9 (g := 23) (args := (#[.agg #[.bool n1, .slice B1 l1 d1], .agg #[.bool n2, .slice B2 l2 d2]])) rfl (by kernel_rfl) (by rfl) (by (go_simp; try (with_reducible rfl))) ?_)
      refine (mul_nz (H1.out.below K.out.B) (H2.out.below K.out.B) (by omega) (by omega)).mono ?_
      rintro e w2 ⟨q3, A3, l3, c3, rfl, hN3, hb⟩
      (refine ⟨_, rfl, Keep.stays _ _ K.out hb, ?_⟩; replace K := Lib.hid (Keep.stays _ _ K.out hb); simp only [Act.put, List.setIfInBounds_toArray, List.set_cons_zero, List.set_cons_succ])
      replace HN := Lib.hid (HN.out.below (hbw.trans (hb.mono hbw.size)))
      clear hb hbw
      (refine Ord.call 10 (g := 43) (args := (#[.agg #[.bool q, .slice C l k], .agg #[.bool q3, .slice A3 l3 c3]])) rfl (by kernel_rfl) (by rfl) (by (go_simp; try (with_reducible rfl))) ?_)
      refine (add_nz HN.out hN3 (by omega) (by omega)).mono ?_
      rintro e w3 ⟨q4, A4, l4, c4, rfl, hN4, hb⟩
      (refine ⟨_, rfl, Keep.stays _ _ K.out hb, ?_⟩; replace K := Lib.hid (Keep.stays _ _ K.out hb); simp only [Act.put, List.setIfInBounds_toArray, List.set_cons_zero, List.set_cons_succ])
      have H4 := Lib.hid hN4
      clear hb hN3 hN4 HN
      (refine Ord.done (by kernel_rfl) ?_; simp only [List.drop_succ_cons, List.drop_zero, Act.put, List.setIfInBounds_toArray, List.set_cons_zero, List.set_cons_succ])
      obtain ⟨f1, c10, c11⟩ := K.out.nm (.head _)
      go_wp2_with fail
      go_roundg (gk - 1)
      case measure => omega
      case rel => exact ⟨i + 1, q4, A4, l4, c4, by omega, congrArg (Value.int .i64) (by omega), (H4.out.put (K.out.nm (.head _)).2.1 _ _).more (by omega), K.out.putn_0 _ _⟩
    · obtain rfl : i = m := by omega
      obtain ⟨f1, c10, c11⟩ := K.out.nm (.head _)
      obtain ⟨f2, c20, c21⟩ := K.out.nm (.tail _ (.head _))
      go_wp2_with fail
      refine ret_nm Tryz.results60 rfl ((K.out.putn_1 q (.slice C l k)).nb (.tail _ (.head _))) ?_
      exact ⟨q, _, _, _, rfl, HN.out.put (K.out.nm (.tail _ (.head _))).2.1 _ _, (K.out.putn_1 q (.slice C l k)).B⟩
end Go.Proofs.YtmidifgnpjlgcaaGreat
/- Matrices; the walks of sum and what it is told. -/
set_option linter.unusedVariables false
set_option linter.unusedSimpArgs false
namespace Go.Proofs.YtmidifgnpjlgcaaGreat
open Go.RowKit

theorem ret_nm2 {fn : Func} {p q g k : Nat} {tmps : Array Value} {w : World} {n m : Bool} {s t : Value} {R : Ending → World → Prop} (h : fn.results = #[.cell p 30, .cell q 30]) (hp : tmps.getD p undef = .pointer (some ⟨g, 0, none⟩)) (hq : tmps.getD q undef = .pointer (some ⟨k, 0, none⟩))
    (hb : w.heap[g]? = some (Obj.num n s)) (hk : w.heap[k]? = some (Obj.num m t)) (hR : R (.returned (.tuple #[.agg #[.bool n, s], .agg #[.bool m, t]])) w) : bodyPost Tryz.prog fn R .ret { tmps := tmps, defers := [] } w := by
  refine bodyPost_ret ?_ rfl hR
  have hp' : tmps[p]?.getD undef = .pointer (some ⟨g, 0, none⟩) := by simpa using hp
  have hq' : tmps[q]?.getD undef = .pointer (some ⟨k, 0, none⟩) := by simpa using hq
  have e1 := run_loadVar_row (P := Tryz.prog) w g 30 30 _ _ _ hb Tryz.underlying30 rfl (by kernel_rfl)
  have e2 := run_loadVar_row (P := Tryz.prog) w k 30 30 _ _ _ hk Tryz.underlying30 rfl (by kernel_rfl)
  simp [results, h, hp', hq', asAddr, e1, e2]

/-- A matrix as it lies: n rows of m numbers. -/
def Mv (w : World) (v : Value) (n m N : Nat) (f : Nat → Nat → Int) : Prop :=
  ∃ A c, v = .slice A n c ∧ (A = none → c = 0) ∧ ∀ j, j < n → ∃ b B d, A = some ⟨b, 0, none⟩ ∧ b < w.heap.size ∧ w.cell? ⟨b, j, none⟩ = some (.slice B m d) ∧ Lv w (.slice B m d) m N (f j)
theorem Mv.below {w w' : World} {v : Value} {n m N : Nat} {f : Nat → Nat → Int} (h : Mv w v n m N f) (hb : Below w.heap.size w w') : Mv w' v n m N f := by
  obtain ⟨A, c, hv, h0, h⟩ := h
  refine ⟨A, c, hv, h0, fun j hj => ?_⟩
  obtain ⟨b, B, d, hA, hlt, c0, hL⟩ := h j hj
  exact ⟨b, B, d, hA, Nat.lt_of_lt_of_le hlt hb.size, by rw [hb.cell (p := ⟨b, _, none⟩) hlt]; exact c0, hL.below hb⟩
theorem Mv.more {w : World} {v : Value} {n m N N' : Nat} {f f' : Nat → Nat → Int} (h : Mv w v n m N f) (hN : N ≤ N') (hf : ∀ i j, i < n → j < m → f i j = f' i j) : Mv w v n m N' f' := by
  obtain ⟨A, c, hv, h0, h⟩ := h
  refine ⟨A, c, hv, h0, fun j hj => ?_⟩
  obtain ⟨b, B, d, hA, hlt, c0, hL⟩ := h j hj
  exact ⟨b, B, d, hA, hlt, c0, hL.more hN (fun i hi => hf j i hj hi)⟩
theorem Lv.at {w : World} {A : Option Addr} {m l c N : Nat} {f : Nat → Int} (h : Lv w (.slice A l c) m N f) : ∀ j, j < m → ∃ b n B l d, A = some ⟨b, 0, none⟩ ∧ b < w.heap.size ∧ w.cell? ⟨b, j * 2, none⟩ = some (.bool n) ∧ w.cell? ⟨b, j * 2 + 1, none⟩ = some (.slice B l d) ∧ Nz w n (.slice B l d) (f j) N := by
  obtain ⟨A', c', hv, -, h⟩ := h
  cases hv
  exact h
/-- A captured variable's own cell. -/
def Cap (w : World) (g : Nat) (v : Value) : Prop := g < w.heap.size ∧ w.cell? ⟨g, 0, none⟩ = some v
theorem Cap.below {w w' : World} {g : Nat} {v : Value} (h : Cap w g v) (hb : Below w.heap.size w w') : Cap w' g v :=
  ⟨Nat.lt_of_lt_of_le h.1 hb.size, by rw [hb.cell (p := ⟨g, 0, none⟩) h.1]; exact h.2⟩

theorem Keep.far {w0 w : World} {b j : Nat} {v : Value} {l : List (Nat × Obj)} (K : Hid (Keep w0 l w)) (hlt : b < w0.heap.size) (h : w0.cell? ⟨b, j, none⟩ = some v) (p : At (Keep w0 l)) : p.w.cell? ⟨b, j, none⟩ = some v := kept_cell p.h hlt h

/-- What a function tells of a place: two numbers. -/
def Told2 (w : World) (N M : Nat) (x y : Int) (e : Ending) (w' : World) : Prop := ∃ a A al ac b B bl bc, e = .returned (.tuple #[.agg #[.bool a, .slice A al ac], .agg #[.bool b, .slice B bl bc]]) ∧ Nz w' a (.slice A al ac) x N ∧ Nz w' b (.slice B bl bc) y M ∧ Below w.heap.size w w'

variable {w0 w : World} {l l2 : List (Nat × Obj)}
set_option maxHeartbeats 4000000 in
set_option maxRecDepth 100000 in
theorem two91_any (ga gi gx : Nat) (v t : Value) (i k n m N M : Nat) (f : Nat → Nat → Int) (g : Nat → Int) (w : World) (ha : Cap w ga v) (hi : Cap w gi (.int .i64 i)) (hx : Cap w gx t) (h1 : Mv w v n m N f) (h2 : Lv w t m M g) (li : i < n) (lk : k < m) :
    Calls Tryz.prog 91 #[.int .i64 k, .pointer (some ⟨ga, 0, none⟩), .pointer (some ⟨gi, 0, none⟩), .pointer (some ⟨gx, 0, none⟩)] w (Told2 w N M (f i k) (g k)) := by
  obtain ⟨A, c, rfl, ha0, h1⟩ := h1
  obtain ⟨ba, B, d, rfl, hlt, c0, hL⟩ := h1 i li
  obtain ⟨b1, n1, B1, l1, d1, rfl, hlt1, x0, x1, hn1⟩ := hL.at k lk
  obtain ⟨D, q, rfl, hd0, h2⟩ := h2
  obtain ⟨b2, n2, B2, l2, d2, rfl, hlt2, y0, y1, hn2⟩ := h2 k lk
  have K := Lib.hid (Keep.begin2 w (Obj.num false (.slice none 0 0)) (Obj.num false (.slice none 0 0)))
  have HA := Lib.hid ha; have HI := Lib.hid hi; have HX := Lib.hid hx
  have HC := Lib.hid (And.intro c0 (And.intro (And.intro x0 x1) (And.intro y0 y1)))
  have H1 := Lib.hid hn1; have H2 := Lib.hid hn2
  clear ha hi hx h1 h2 hL c0 x0 x1 y0 y1 hn1 hn2 ha0 hd0
  go_enter Tryz.func91, Tryz.ntmps91
  go_upto_region 1 with fail
  (refine out_keep K.out ?_; clear K; intro W K; replace K := Lib.hid K)
  have ca := kept_cell K.out HA.out.1 HA.out.2; have ci := kept_cell K.out HI.out.1 HI.out.2; have cx := kept_cell K.out HX.out.1 HX.out.2
  have c1 := kept_cell K.out hlt HC.out.1
  have xx0 := kept_cell K.out hlt1 HC.out.2.1.1; have xx1 := kept_cell K.out hlt1 HC.out.2.1.2
  have yy0 := kept_cell K.out hlt2 HC.out.2.2.1; have yy1 := kept_cell K.out hlt2 HC.out.2.2.2
  have nga0 : (ga : Nat) ≠ w.heap.size := Nat.ne_of_lt HA.out.1
  have nga1 : (ga : Nat) ≠ w.heap.size + 1 := Nat.ne_of_lt (Nat.lt_succ_of_lt HA.out.1)
  have ngi0 : (gi : Nat) ≠ w.heap.size := Nat.ne_of_lt HI.out.1
  have ngi1 : (gi : Nat) ≠ w.heap.size + 1 := Nat.ne_of_lt (Nat.lt_succ_of_lt HI.out.1)
  have ngx0 : (gx : Nat) ≠ w.heap.size := Nat.ne_of_lt HX.out.1
  have ngx1 : (gx : Nat) ≠ w.heap.size + 1 := Nat.ne_of_lt (Nat.lt_succ_of_lt HX.out.1)
  have nba0 : (ba : Nat) ≠ w.heap.size := Nat.ne_of_lt hlt
  have nba1 : (ba : Nat) ≠ w.heap.size + 1 := Nat.ne_of_lt (Nat.lt_succ_of_lt hlt)
  have nb10 : (b1 : Nat) ≠ w.heap.size := Nat.ne_of_lt hlt1
  have nb11 : (b1 : Nat) ≠ w.heap.size + 1 := Nat.ne_of_lt (Nat.lt_succ_of_lt hlt1)
  have nb20 : (b2 : Nat) ≠ w.heap.size := Nat.ne_of_lt hlt2
  have nb21 : (b2 : Nat) ≠ w.heap.size + 1 := Nat.ne_of_lt (Nat.lt_succ_of_lt hlt2)
  obtain ⟨f1, c10, c11⟩ := K.out.nm (.tail _ (.head _))
  obtain ⟨f2, c20, c21⟩ := K.out.nm (.head _)
  go_region
  clear f1 c10 c11 f2 c20 c21 ca ci cx c1 xx0 xx1 yy0 yy1
  go_wp2_with fail
  have K2 := Lib.hid (((K.out.putn_1 n1 (.slice B1 l1 d1)).putn_0 n2 (.slice B2 l2 d2)).drew)
  refine ret_nm2 Tryz.results91 rfl rfl (K2.out.nb (.tail _ (.head _))) (K2.out.nb (.head _)) ?_
  exact ⟨n1, B1, l1, d1, n2, B2, l2, d2, rfl, H1.out.below K2.out.B, H2.out.below K2.out.B, K2.out.B⟩

set_option maxHeartbeats 4000000 in
set_option maxRecDepth 100000 in
theorem two63_any (gi gx : Nat) (v t : Value) (k m N M : Nat) (f g : Nat → Int) (w : World) (hi : Cap w gi v) (hx : Cap w gx t) (h1 : Lv w v m N f) (h2 : Lv w t m M g) (lk : k < m) :
    Calls Tryz.prog 63 #[.int .i64 k, .pointer (some ⟨gi, 0, none⟩), .pointer (some ⟨gx, 0, none⟩)] w (Told2 w N M (f k) (g k)) := by
  obtain ⟨A, c, rfl, ha0, h1⟩ := h1
  obtain ⟨b1, n1, B1, l1, d1, rfl, hlt1, x0, x1, hn1⟩ := h1 k lk
  obtain ⟨D, q, rfl, hd0, h2⟩ := h2
  obtain ⟨b2, n2, B2, l2, d2, rfl, hlt2, y0, y1, hn2⟩ := h2 k lk
  have K := Lib.hid (Keep.begin2 w (Obj.num false (.slice none 0 0)) (Obj.num false (.slice none 0 0)))
  have HI := Lib.hid hi; have HX := Lib.hid hx
  have HC := Lib.hid (And.intro (And.intro x0 x1) (And.intro y0 y1))
  have H1 := Lib.hid hn1; have H2 := Lib.hid hn2
  clear hi hx h1 h2 x0 x1 y0 y1 hn1 hn2 ha0 hd0
  go_enter Tryz.func63, Tryz.ntmps63
  go_upto_region 1 with fail
  (refine out_keep K.out ?_; clear K; intro W K; replace K := Lib.hid K)
  have ci := kept_cell K.out HI.out.1 HI.out.2; have cx := kept_cell K.out HX.out.1 HX.out.2
  have xx0 := kept_cell K.out hlt1 HC.out.1.1; have xx1 := kept_cell K.out hlt1 HC.out.1.2
  have yy0 := kept_cell K.out hlt2 HC.out.2.1; have yy1 := kept_cell K.out hlt2 HC.out.2.2
  have ngi0 : (gi : Nat) ≠ w.heap.size := Nat.ne_of_lt HI.out.1
  have ngi1 : (gi : Nat) ≠ w.heap.size + 1 := Nat.ne_of_lt (Nat.lt_succ_of_lt HI.out.1)
  have ngx0 : (gx : Nat) ≠ w.heap.size := Nat.ne_of_lt HX.out.1
  have ngx1 : (gx : Nat) ≠ w.heap.size + 1 := Nat.ne_of_lt (Nat.lt_succ_of_lt HX.out.1)
  have nb10 : (b1 : Nat) ≠ w.heap.size := Nat.ne_of_lt hlt1
  have nb11 : (b1 : Nat) ≠ w.heap.size + 1 := Nat.ne_of_lt (Nat.lt_succ_of_lt hlt1)
  have nb20 : (b2 : Nat) ≠ w.heap.size := Nat.ne_of_lt hlt2
  have nb21 : (b2 : Nat) ≠ w.heap.size + 1 := Nat.ne_of_lt (Nat.lt_succ_of_lt hlt2)
  obtain ⟨f1, c10, c11⟩ := K.out.nm (.tail _ (.head _))
  obtain ⟨f2, c20, c21⟩ := K.out.nm (.head _)
  go_region
  clear f1 c10 c11 f2 c20 c21 ci cx xx0 xx1 yy0 yy1
  go_wp2_with fail
  have K2 := Lib.hid (((K.out.putn_1 n1 (.slice B1 l1 d1)).putn_0 n2 (.slice B2 l2 d2)).drew)
  refine ret_nm2 Tryz.results63 rfl rfl (K2.out.nb (.tail _ (.head _))) (K2.out.nb (.head _)) ?_
  exact ⟨n1, B1, l1, d1, n2, B2, l2, d2, rfl, H1.out.below K2.out.B, H2.out.below K2.out.B, K2.out.B⟩

set_option maxHeartbeats 4000000 in
set_option maxRecDepth 100000 in
theorem sum91_any (c1 c2 c3 : Value) (n N M : Nat) (x y : Nat → Int) (w : World) (hF : ∀ k : Nat, k < n → ∀ w', Below w.heap.size w w' → Calls Tryz.prog 91 #[.int .i64 k, c1, c2, c3] w' (Told2 w' N M (x k) (y k))) (hN : N + M + n ≤ 300000) :
    Calls Tryz.prog 62 #[.int .i64 n, .func (.func 91) #[] #[c1, c2, c3]] w fun e w' => ∃ q A l c, e = .returned (.agg #[.bool q, .slice A l c]) ∧ Nz w' q (.slice A l c) (sumTo (fun k => x k * y k) n) (N + M + 1 + n) ∧ Below w.heap.size w w' := by
  have K := Lib.hid (Keep.begin2 w (Obj.num false (.slice none 0 0)) (Obj.num false (.slice none 0 0)))
  have HF := Lib.hid hF
  clear hF
  go_enter Tryz.func62, Tryz.ntmps62
  go_wp2_with fail
  go_loopg [10] n (fun gk iv wr => ∃ (i : Nat) (q : Bool) (C : Option Addr) (l k : Nat), gk + i = n ∧ iv = .int .i64 (i : Int) ∧ Nz wr q (.slice C l k) (sumTo (fun k => x k * y k) i) (N + M + 1 + i) ∧ Keep w [(w.heap.size + 1, Obj.num q (.slice C l k)), (w.heap.size, Obj.num false (.slice none 0 0))] wr)
  case atStart => exact ⟨0, false, none, 0, 0, by omega, rfl, (Nz.nil _).more (by omega), K.out⟩
  case round =>
    clear K
    obtain ⟨i, q, C, l, k, hgi, rfl, hN', k'⟩ := hrel
    have K := Lib.hid k'
    have HN := Lib.hid hN'
    clear k' hN'
    by_cases hi : i < n
    · go_wp2_with fail
      refine (HF.out i hi _ K.out.B).mono ?_
      rintro e w2 ⟨n1, B1, l1, d1, n2, B2, l2, d2, rfl, hn1, hn2, hb⟩
      replace K := Lib.hid (Keep.stays _ _ K.out hb)
      replace HN := Lib.hid (HN.out.below hb)
      have H1 := Lib.hid hn1; have H2 := Lib.hid hn2
      clear hb hn1 hn2
      go_upto_region 6 with fail
      replace K := Lib.hid (K.out.alloc2 (Obj.num n1 (.slice B1 l1 d1)) (Obj.num n2 (.slice B2 l2 d2)))
      replace HN := Lib.hid (HN.out.below (below_two _ (Obj.num n1 (.slice B1 l1 d1)) (Obj.num n2 (.slice B2 l2 d2))))
      replace H1 := Lib.hid (H1.out.below (below_two _ (Obj.num n1 (.slice B1 l1 d1)) (Obj.num n2 (.slice B2 l2 d2))))
      replace H2 := Lib.hid (H2.out.below (below_two _ (Obj.num n1 (.slice B1 l1 d1)) (Obj.num n2 (.slice B2 l2 d2))))
      generalize w2.heap.size = g1 at *
      (refine region_ord _ 5 (by kernel_rfl) (by kernel_rfl) K.out.drew ?_; clear K; intro W K hbw; replace K := Lib.hid K)
      replace HN := Lib.hid (HN.out.below hbw)
      replace H1 := Lib.hid (H1.out.below hbw)
      replace H2 := Lib.hid (H2.out.below hbw)
      clear hbw
      obtain ⟨e10, e11⟩ := Keep.anm K (.tail _ (.tail _ (.head _)))
      obtain ⟨e20, e21⟩ := Keep.anm K (.tail _ (.head _))
      obtain ⟨e30, e31⟩ := Keep.anm K (.head _)
      (refine Ord.take' 0 rfl (by kernel_rfl) (fun _ _ _ _ h => h) K.out (by rfl) ?_; apply Exists.intro; refine ⟨fun p => ?_, ?_⟩; (focus (go_simp; (try (with_reducible rfl)); done)); (try simp only [Act.put, List.setIfInBounds_toArray, List.set_cons_zero, List.set_cons_succ]))
      (refine Ord.take' 1 rfl (by kernel_rfl) (fun _ _ _ _ h => h) K.out (by rfl) ?_; apply Exists.intro; refine ⟨fun p => ?_, ?_⟩; (focus (go_simp; (try (with_reducible rfl)); done)); (try simp only [Act.put, List.setIfInBounds_toArray, List.set_cons_zero, List.set_cons_succ]))
      (refine Ord.take' 2 rfl (by kernel_rfl) (fun _ _ _ _ h => h) K.out (by rfl) ?_; apply Exists.intro; refine ⟨fun p => ?_, ?_⟩; (focus (go_simp; (try (with_reducible rfl)); done)); (try simp only [Act.put, List.setIfInBounds_toArray, List.set_cons_zero, List.set_cons_succ]))
      clear e10 e11 e20 e21 e30 e31
      (refine Ord.call 3 (g := 23) (args := (#[.agg #[.bool n1, .slice B1 l1 d1], .agg #[.bool n2, .slice B2 l2 d2]])) rfl (by kernel_rfl) (by rfl) (by (go_simp; try (with_reducible rfl))) ?_)
      refine (mul_nz H1.out H2.out (by omega) (by omega)).mono ?_
      rintro e w3 ⟨q3, A3, l3, k3, rfl, hN3, hb⟩
      (refine ⟨_, rfl, Keep.stays _ _ K.out hb, ?_⟩; replace K := Lib.hid (Keep.stays _ _ K.out hb); simp only [Act.put, List.setIfInBounds_toArray, List.set_cons_zero, List.set_cons_succ])
      replace HN := Lib.hid (HN.out.below hb)
      clear hb
      (refine Ord.call 4 (g := 43) (args := (#[.agg #[.bool q, .slice C l k], .agg #[.bool q3, .slice A3 l3 k3]])) rfl (by kernel_rfl) (by rfl) (by (go_simp; try (with_reducible rfl))) ?_)
      refine (add_nz HN.out hN3 (by omega) (by omega)).mono ?_
      rintro e w4 ⟨q4, A4, l4, c4, rfl, hN4, hb⟩
      (refine ⟨_, rfl, Keep.stays _ _ K.out hb, ?_⟩; replace K := Lib.hid (Keep.stays _ _ K.out hb); simp only [Act.put, List.setIfInBounds_toArray, List.set_cons_zero, List.set_cons_succ])
      have H4 := Lib.hid hN4
      clear hb hN3 hN4 HN
      (refine Ord.done (by kernel_rfl) ?_; simp only [List.drop_succ_cons, List.drop_zero, Act.put, List.setIfInBounds_toArray, List.set_cons_zero, List.set_cons_succ])
      replace K := Lib.hid K.out.rest.rest
      obtain ⟨f1, c10, c11⟩ := K.out.nm (.head _)
      go_wp2_with fail
      go_roundg (gk - 1)
      case measure => omega
      case rel => exact ⟨i + 1, q4, A4, l4, c4, by omega, congrArg (Value.int .i64) (by omega), (H4.out.put (K.out.nm (.head _)).2.1 _ _).more (by omega), K.out.putn_0 _ _⟩
    · obtain rfl : i = n := by omega
      obtain ⟨f1, c10, c11⟩ := K.out.nm (.head _)
      obtain ⟨f2, c20, c21⟩ := K.out.nm (.tail _ (.head _))
      go_wp2_with fail
      refine ret_nm Tryz.results62 rfl ((K.out.putn_1 q (.slice C l k)).nb (.tail _ (.head _))) ?_
      exact ⟨q, _, _, _, rfl, HN.out.put (K.out.nm (.tail _ (.head _))).2.1 _ _, (K.out.putn_1 q (.slice C l k)).B⟩

set_option maxHeartbeats 4000000 in
set_option maxRecDepth 100000 in
theorem sum63_any (c1 c2 : Value) (n N M : Nat) (x y : Nat → Int) (w : World) (hF : ∀ k : Nat, k < n → ∀ w', Below w.heap.size w w' → Calls Tryz.prog 63 #[.int .i64 k, c1, c2] w' (Told2 w' N M (x k) (y k))) (hN : N + M + n ≤ 300000) :
    Calls Tryz.prog 62 #[.int .i64 n, .func (.func 63) #[] #[c1, c2]] w fun e w' => ∃ q A l c, e = .returned (.agg #[.bool q, .slice A l c]) ∧ Nz w' q (.slice A l c) (sumTo (fun k => x k * y k) n) (N + M + 1 + n) ∧ Below w.heap.size w w' := by
  have K := Lib.hid (Keep.begin2 w (Obj.num false (.slice none 0 0)) (Obj.num false (.slice none 0 0)))
  have HF := Lib.hid hF
  clear hF
  go_enter Tryz.func62, Tryz.ntmps62
  go_wp2_with fail
  go_loopg [10] n (fun gk iv wr => ∃ (i : Nat) (q : Bool) (C : Option Addr) (l k : Nat), gk + i = n ∧ iv = .int .i64 (i : Int) ∧ Nz wr q (.slice C l k) (sumTo (fun k => x k * y k) i) (N + M + 1 + i) ∧ Keep w [(w.heap.size + 1, Obj.num q (.slice C l k)), (w.heap.size, Obj.num false (.slice none 0 0))] wr)
  case atStart => exact ⟨0, false, none, 0, 0, by omega, rfl, (Nz.nil _).more (by omega), K.out⟩
  case round =>
    clear K
    obtain ⟨i, q, C, l, k, hgi, rfl, hN', k'⟩ := hrel
    have K := Lib.hid k'
    have HN := Lib.hid hN'
    clear k' hN'
    by_cases hi : i < n
    · go_wp2_with fail
      refine (HF.out i hi _ K.out.B).mono ?_
      rintro e w2 ⟨n1, B1, l1, d1, n2, B2, l2, d2, rfl, hn1, hn2, hb⟩
      replace K := Lib.hid (Keep.stays _ _ K.out hb)
      replace HN := Lib.hid (HN.out.below hb)
      have H1 := Lib.hid hn1; have H2 := Lib.hid hn2
      clear hb hn1 hn2
      go_upto_region 6 with fail
      replace K := Lib.hid (K.out.alloc2 (Obj.num n1 (.slice B1 l1 d1)) (Obj.num n2 (.slice B2 l2 d2)))
      replace HN := Lib.hid (HN.out.below (below_two _ (Obj.num n1 (.slice B1 l1 d1)) (Obj.num n2 (.slice B2 l2 d2))))
      replace H1 := Lib.hid (H1.out.below (below_two _ (Obj.num n1 (.slice B1 l1 d1)) (Obj.num n2 (.slice B2 l2 d2))))
      replace H2 := Lib.hid (H2.out.below (below_two _ (Obj.num n1 (.slice B1 l1 d1)) (Obj.num n2 (.slice B2 l2 d2))))
      generalize w2.heap.size = g1 at *
      (refine region_ord _ 5 (by kernel_rfl) (by kernel_rfl) K.out.drew ?_; clear K; intro W K hbw; replace K := Lib.hid K)
      replace HN := Lib.hid (HN.out.below hbw)
      replace H1 := Lib.hid (H1.out.below hbw)
      replace H2 := Lib.hid (H2.out.below hbw)
      clear hbw
      obtain ⟨e10, e11⟩ := Keep.anm K (.tail _ (.tail _ (.head _)))
      obtain ⟨e20, e21⟩ := Keep.anm K (.tail _ (.head _))
      obtain ⟨e30, e31⟩ := Keep.anm K (.head _)
      (refine Ord.take' 0 rfl (by kernel_rfl) (fun _ _ _ _ h => h) K.out (by rfl) ?_; apply Exists.intro; refine ⟨fun p => ?_, ?_⟩; (focus (go_simp; (try (with_reducible rfl)); done)); (try simp only [Act.put, List.setIfInBounds_toArray, List.set_cons_zero, List.set_cons_succ]))
      (refine Ord.take' 1 rfl (by kernel_rfl) (fun _ _ _ _ h => h) K.out (by rfl) ?_; apply Exists.intro; refine ⟨fun p => ?_, ?_⟩; (focus (go_simp; (try (with_reducible rfl)); done)); (try simp only [Act.put, List.setIfInBounds_toArray, List.set_cons_zero, List.set_cons_succ]))
      (refine Ord.take' 2 rfl (by kernel_rfl) (fun _ _ _ _ h => h) K.out (by rfl) ?_; apply Exists.intro; refine ⟨fun p => ?_, ?_⟩; (focus (go_simp; (try (with_reducible rfl)); done)); (try simp only [Act.put, List.setIfInBounds_toArray, List.set_cons_zero, List.set_cons_succ]))
      clear e10 e11 e20 e21 e30 e31
      (refine Ord.call 3 (g := 23) (args := (#[.agg #[.bool n1, .slice B1 l1 d1], .agg #[.bool n2, .slice B2 l2 d2]])) rfl (by kernel_rfl) (by rfl) (by (go_simp; try (with_reducible rfl))) ?_)
      refine (mul_nz H1.out H2.out (by omega) (by omega)).mono ?_
      rintro e w3 ⟨q3, A3, l3, k3, rfl, hN3, hb⟩
      (refine ⟨_, rfl, Keep.stays _ _ K.out hb, ?_⟩; replace K := Lib.hid (Keep.stays _ _ K.out hb); simp only [Act.put, List.setIfInBounds_toArray, List.set_cons_zero, List.set_cons_succ])
      replace HN := Lib.hid (HN.out.below hb)
      clear hb
      (refine Ord.call 4 (g := 43) (args := (#[.agg #[.bool q, .slice C l k], .agg #[.bool q3, .slice A3 l3 k3]])) rfl (by kernel_rfl) (by rfl) (by (go_simp; try (with_reducible rfl))) ?_)
      refine (add_nz HN.out hN3 (by omega) (by omega)).mono ?_
      rintro e w4 ⟨q4, A4, l4, c4, rfl, hN4, hb⟩
      (refine ⟨_, rfl, Keep.stays _ _ K.out hb, ?_⟩; replace K := Lib.hid (Keep.stays _ _ K.out hb); simp only [Act.put, List.setIfInBounds_toArray, List.set_cons_zero, List.set_cons_succ])
      have H4 := Lib.hid hN4
      clear hb hN3 hN4 HN
      (refine Ord.done (by kernel_rfl) ?_; simp only [List.drop_succ_cons, List.drop_zero, Act.put, List.setIfInBounds_toArray, List.set_cons_zero, List.set_cons_succ])
      replace K := Lib.hid K.out.rest.rest
      obtain ⟨f1, c10, c11⟩ := K.out.nm (.head _)
      go_wp2_with fail
      go_roundg (gk - 1)
      case measure => omega
      case rel => exact ⟨i + 1, q4, A4, l4, c4, by omega, congrArg (Value.int .i64) (by omega), (H4.out.put (K.out.nm (.head _)).2.1 _ _).more (by omega), K.out.putn_0 _ _⟩
    · obtain rfl : i = n := by omega
      obtain ⟨f1, c10, c11⟩ := K.out.nm (.head _)
      obtain ⟨f2, c20, c21⟩ := K.out.nm (.tail _ (.head _))
      go_wp2_with fail
      refine ret_nm Tryz.results62 rfl ((K.out.putn_1 q (.slice C l k)).nb (.tail _ (.head _))) ?_
      exact ⟨q, _, _, _, rfl, HN.out.put (K.out.nm (.tail _ (.head _))).2.1 _ _, (K.out.putn_1 q (.slice C l k)).B⟩
end Go.Proofs.YtmidifgnpjlgcaaGreat
