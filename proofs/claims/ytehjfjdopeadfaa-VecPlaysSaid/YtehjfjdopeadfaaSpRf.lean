/- The document's own small functions on spans: each answers as the program's. -/
import Derived.Test.YtehjfjdopeadfaaSpAw
set_option linter.unusedVariables false
set_option linter.unusedSimpArgs false
namespace Go.Proofs.Ytehjfjdopeadfaa
open Go.RowKit SpMath

/-- A span of the document's in a box. -/
def BoxR (w : World) (b : Nat) (s : Sp) : Prop := w.heap[b]? = some (Obj.ref s)
theorem BoxR.cell0 {w : World} {b : Nat} {s : Sp} (h : BoxR w b s) : w.cell? ⟨b, 0, none⟩ = some (.int .i64 s.lo) := by
  unfold BoxR Obj.ref at h; simp [World.cell?, h]
theorem BoxR.cell1 {w : World} {b : Nat} {s : Sp} (h : BoxR w b s) : w.cell? ⟨b, 1, none⟩ = some (.int .i64 s.hi) := by
  unfold BoxR Obj.ref at h; simp [World.cell?, h]
theorem BoxR.cell2 {w : World} {b : Nat} {s : Sp} (h : BoxR w b s) : w.cell? ⟨b, 2, none⟩ = some (.bool s.all) := by
  unfold BoxR Obj.ref at h; simp [World.cell?, h]
theorem BoxR.warm {w : World} {b : Nat} {s : Sp} (h : BoxR w b s) (o : Nat) : w.frozen? ⟨b, o, none⟩ = false := by
  unfold BoxR Obj.ref at h; simp [World.frozen?, h]
theorem Keep.rf {w0 w : World} {l : List (Nat × Obj)} {b : Nat} {s : Sp} (K : Keep w0 l w) (h : (b, Obj.ref s) ∈ l) : BoxR w b s := K.box _ h
theorem Keep.ar0 {w0 w : World} {l : List (Nat × Obj)} {b : Nat} {s : Sp} (K : Hid (Keep w0 l w)) (m : (b, Obj.ref s) ∈ l) (p : At (Keep w0 l)) : p.w.cell? ⟨b, 0, none⟩ = some (.int .i64 s.lo) := (p.h.rf m).cell0
theorem Keep.ar1 {w0 w : World} {l : List (Nat × Obj)} {b : Nat} {s : Sp} (K : Hid (Keep w0 l w)) (m : (b, Obj.ref s) ∈ l) (p : At (Keep w0 l)) : p.w.cell? ⟨b, 1, none⟩ = some (.int .i64 s.hi) := (p.h.rf m).cell1
theorem Keep.ar2 {w0 w : World} {l : List (Nat × Obj)} {b : Nat} {s : Sp} (K : Hid (Keep w0 l w)) (m : (b, Obj.ref s) ∈ l) (p : At (Keep w0 l)) : p.w.cell? ⟨b, 2, none⟩ = some (.bool s.all) := (p.h.rf m).cell2

theorem ret_rf {fn : Func} {p g : Nat} {tmps : Array Value} {w : World} {s : Sp} {R : Ending → World → Prop} (h : fn.results = #[.cell p 34]) (hp : tmps.getD p undef = .pointer (some ⟨g, 0, none⟩)) (hb : BoxR w g s) (hR : R (.returned s.v) w) : bodyPost Try.prog fn R .ret { tmps := tmps, defers := [] } w := by
  obtain ⟨x, hx⟩ : ∃ x, Try.prog.underlying 34 = some (.struct x) := ⟨_, Try.underlying34⟩
  exact bodyPost_ret (v := s.v) (results_cell_row h tmps w g 34 _ _ _ hp hb hx rfl (by kernel_rfl)) rfl hR
theorem ret_rf2 {fn : Func} {p u g : Nat} {tmps : Array Value} {w : World} {s : Sp} {t : Value} {R : Ending → World → Prop} (h : fn.results = #[.cell p 34, .tmp u]) (hp : tmps.getD p undef = .pointer (some ⟨g, 0, none⟩)) (hu : tmps.getD u undef = t) (hb : BoxR w g s) (hR : R (.returned (.tuple #[s.v, t])) w) : bodyPost Try.prog fn R .ret { tmps := tmps, defers := [] } w := by
  obtain ⟨x, hx⟩ : ∃ x, Try.prog.underlying 34 = some (.struct x) := ⟨_, Try.underlying34⟩
  refine bodyPost_ret (v := .tuple #[s.v, t]) ?_ rfl hR
  rw [results_cell_tmp h, hp, hu]
  simp [asAddr, Result.andThen, run_loadVar_row w g 34 34 _ _ _ hb hx rfl (by kernel_rfl)]

set_option maxHeartbeats 1000000 in
set_option maxRecDepth 100000 in
theorem doc_any (x : Sp) (w : World) : Calls Try.prog 48 #[x.v] w fun e w' => e = .returned x.v ∧ Below w.heap.size w w' := by
  have K := Lib.hid (Keep.begin2 w (Obj.box x) (Obj.ref ⟨0, 0, false⟩))
  go_enter Try.func48, Try.ntmps48
  go_upto_region 1 with fail
  (refine out_keep K.out ?_; clear K; intro W K; replace K := Lib.hid K)
  (have f1 := (K.out.sp (.tail _ (.head _))).warm; have c10 := (K.out.sp (.tail _ (.head _))).cell0; have c11 := (K.out.sp (.tail _ (.head _))).cell1; have c12 := (K.out.sp (.tail _ (.head _))).cell2)
  (have f2 := (K.out.rf (.head _)).warm; have c20 := (K.out.rf (.head _)).cell0; have c21 := (K.out.rf (.head _)).cell1; have c22 := (K.out.rf (.head _)).cell2)
  go_wp2_with fail
  exact ret_rf Try.results48 rfl ((K.out.putr_0 x).rf (.head _)) ⟨rfl, (K.out.putr_0 x).B⟩

set_option maxHeartbeats 1000000 in
set_option maxRecDepth 100000 in
theorem right_ref (x : Sp) (w : World) : Calls Try.prog 82 #[x.v] w fun e w' => e = .returned (right x).v ∧ Below w.heap.size w w' := by
  have K := Lib.hid (Keep.begin2 w (Obj.ref x) (Obj.ref ⟨0, 0, false⟩))
  go_enter Try.func82, Try.ntmps82
  go_upto_region 1 with fail
  (refine out_keep K.out ?_; clear K; intro W K; replace K := Lib.hid K)
  (have f2 := (K.out.rf (.head _)).warm; have c20 := (K.out.rf (.head _)).cell0; have c21 := (K.out.rf (.head _)).cell1; have c22 := (K.out.rf (.head _)).cell2)
  obtain ⟨lo, hi, all⟩ := x
  by_cases hf : Fin ⟨lo, hi, all⟩
  · have HF := Lib.hid (right_fin hf)
    obtain ⟨h0, h1, h2, h3⟩ := hf
    simp only at h0 h1 h2 h3
    subst h0
    (have f1 := (K.out.rf (.tail _ (.head _))).warm; have c10 := (K.out.rf (.tail _ (.head _))).cell0; have c11 := (K.out.rf (.tail _ (.head _))).cell1; have c12 := (K.out.rf (.tail _ (.head _))).cell2)
    go_wp2_with fail
    exact ret_rf Try.results82 rfl ((K.out.putr_0 ⟨lo, hi, false⟩).rf (.head _)) ⟨by rw [HF.out], (K.out.putr_0 ⟨lo, hi, false⟩).B⟩
  · have HF := Lib.hid (right_not hf)
    (have f1 := (K.out.rf (.tail _ (.head _))).warm; have c10 := (K.out.rf (.tail _ (.head _))).cell0; have c11 := (K.out.rf (.tail _ (.head _))).cell1; have c12 := (K.out.rf (.tail _ (.head _))).cell2)
    cases all with
    | true =>
      clear hf
      go_wp2_with fail
      exact ret_rf Try.results82 rfl ((K.out.putr_0 ⟨0, 0, true⟩).rf (.head _)) ⟨by rw [HF.out]; rfl, (K.out.putr_0 ⟨0, 0, true⟩).B⟩
    | false =>
      by_cases h1 : lo < -2147483647
      · clear hf
        go_wp2_with fail
        exact ret_rf Try.results82 rfl ((K.out.putr_0 ⟨0, 0, true⟩).rf (.head _)) ⟨by rw [HF.out]; rfl, (K.out.putr_0 ⟨0, 0, true⟩).B⟩
      · by_cases h2 : 2147483647 < hi
        · clear hf
          go_wp2_with fail
          exact ret_rf Try.results82 rfl ((K.out.putr_0 ⟨0, 0, true⟩).rf (.head _)) ⟨by rw [HF.out]; rfl, (K.out.putr_0 ⟨0, 0, true⟩).B⟩
        · have h3 : hi < lo := by
            apply Classical.byContradiction
            intro h
            exact hf ⟨rfl, by show -2147483647 ≤ lo; omega, by show lo ≤ hi; omega, by show hi ≤ 2147483647; omega⟩
          clear hf
          go_wp2_with fail
          exact ret_rf Try.results82 rfl ((K.out.putr_0 ⟨0, 0, true⟩).rf (.head _)) ⟨by rw [HF.out]; rfl, (K.out.putr_0 ⟨0, 0, true⟩).B⟩

set_option maxHeartbeats 1000000 in
set_option maxRecDepth 100000 in
theorem of_ref (a b : Int) (w : World) : Calls Try.prog 65 #[.int .i64 a, .int .i64 b] w fun e w' => e = .returned (of a b).v ∧ Below w.heap.size w w' := by
  have K := Lib.hid (Keep.begin1 w (Obj.ref ⟨0, 0, false⟩))
  go_enter Try.func65, Try.ntmps65
  go_upto_region 1 with fail
  (refine out_keep K.out ?_; clear K; intro W K; replace K := Lib.hid K)
  go_wp2_with fail
  (refine ((right_ref ⟨min a b, max a b, false⟩ _)).mono ?_; rintro e w2 ⟨rfl, hb⟩; replace K := Lib.hid (Keep.stays _ _ K.out hb); clear hb)
  (have f2 := (K.out.rf (.head _)).warm; have c20 := (K.out.rf (.head _)).cell0; have c21 := (K.out.rf (.head _)).cell1; have c22 := (K.out.rf (.head _)).cell2)
  go_wp2_with fail
  exact ret_rf Try.results65 rfl ((K.out.putr_0 (of a b)).rf (.head _)) ⟨rfl, (K.out.putr_0 (of a b)).B⟩

set_option maxHeartbeats 1000000 in
set_option maxRecDepth 100000 in
theorem has_ref (x : Sp) (n : Int) (hn : (Lit.int .i64 n).wf = true) (w : World) : Calls Try.prog 66 #[x.v, .int .i64 n] w fun e w' => e = .returned (.bool (has x n)) ∧ Below w.heap.size w w' := by
  have K := Lib.hid (Keep.begin1 w (Obj.ref x))
  go_enter Try.func66, Try.ntmps66
  go_upto_region 1 with fail
  (refine out_keep K.out ?_; clear K; intro W K; replace K := Lib.hid K)
  (have f1 := (K.out.rf (.head _)).warm; have c10 := (K.out.rf (.head _)).cell0; have c11 := (K.out.rf (.head _)).cell1; have c12 := (K.out.rf (.head _)).cell2)
  go_wp2_with fail
  (refine ((right_ref x _)).mono ?_; rintro e w2 ⟨rfl, hb⟩; replace K := Lib.hid (Keep.stays _ _ K.out hb); clear hb)
  ((try clear f1); (try clear c10 c11 c12))
  (go_upto_region 2 with fail; replace K := Lib.hid (K.out.alloc (Obj.ref (right x))); generalize w2.heap.size = gg at *; refine out_keep K.out ?_; clear K; intro W K; replace K := Lib.hid K; clear w2)
  rcases right_two x with ⟨lo, hi, hr, h1, h2, h3, -, -⟩ | ⟨hr, -⟩
  · have hh : Hid (has x n = (decide (lo ≤ n) && decide (n ≤ hi))) := by show _ = _; simp [has, hr]
    rw [hr] at K
    clear hr
    (have f2 := (K.out.rf (.head _)).warm; have c20 := (K.out.rf (.head _)).cell0; have c21 := (K.out.rf (.head _)).cell1; have c22 := (K.out.rf (.head _)).cell2)
    by_cases d1 : lo ≤ n
    · go_wp2_with fail
      go_ret
      exact ⟨ret_bool (by rw [hh.out]; first | (simp [d1]; done) | (simp [d1]; omega)), K.out.B⟩
    · go_wp2_with fail
      go_ret
      exact ⟨ret_bool (by rw [hh.out]; first | (simp [d1]; done) | (simp [d1]; omega)), K.out.B⟩
  · have hh : Hid (has x n = true) := by show _ = _; simp [has, hr]
    rw [hr] at K
    clear hr
    (have f2 := (K.out.rf (.head _)).warm; have c20 := (K.out.rf (.head _)).cell0; have c21 := (K.out.rf (.head _)).cell1; have c22 := (K.out.rf (.head _)).cell2)
    go_wp2_with fail
    go_ret
    exact ⟨ret_bool hh.out.symm, K.out.B⟩

set_option maxHeartbeats 1000000 in
set_option maxRecDepth 100000 in
theorem in_ref (x y : Sp) (w : World) : Calls Try.prog 67 #[x.v, y.v] w fun e w' => e = .returned (.bool (inn x y)) ∧ Below w.heap.size w w' := by
  have K := Lib.hid (Keep.begin2 w (Obj.ref x) (Obj.ref y))
  go_enter Try.func67, Try.ntmps67
  go_upto_region 1 with fail
  (refine out_keep K.out ?_; clear K; intro W K; replace K := Lib.hid K)
  (have f1 := (K.out.rf (.tail _ (.head _))).warm; have c10 := (K.out.rf (.tail _ (.head _))).cell0; have c11 := (K.out.rf (.tail _ (.head _))).cell1; have c12 := (K.out.rf (.tail _ (.head _))).cell2)
  go_wp2_with fail
  (refine ((right_ref x _)).mono ?_; rintro e w2 ⟨rfl, hb⟩; replace K := Lib.hid (Keep.stays _ _ K.out hb); clear hb)
  ((try clear f1); (try clear c10 c11 c12))
  (go_upto_region 2 with fail; replace K := Lib.hid (K.out.alloc (Obj.ref (right x))); generalize w2.heap.size = gg at *; refine out_keep K.out ?_; clear K; intro W K; replace K := Lib.hid K; clear w2)
  (have f1 := (K.out.rf (.tail _ (.head _))).warm; have c10 := (K.out.rf (.tail _ (.head _))).cell0; have c11 := (K.out.rf (.tail _ (.head _))).cell1; have c12 := (K.out.rf (.tail _ (.head _))).cell2)
  go_wp2_with fail
  (refine ((right_ref y _)).mono ?_; rintro e w2 ⟨rfl, hb⟩; replace K := Lib.hid (Keep.stays _ _ K.out hb); clear hb)
  ((try clear f1); (try clear c10 c11 c12))
  (go_upto_region 3 with fail; replace K := Lib.hid (K.out.alloc (Obj.ref (right y))); generalize w2.heap.size = gg at *; refine out_keep K.out ?_; clear K; intro W K; replace K := Lib.hid K; clear w2)
  rcases right_four y x with ⟨l2, h2, lo, hi, hy, hx, hbd, -, -⟩ | ⟨hy, -⟩ | ⟨⟨lo, hi, hy, hb1, hb2, hb3, -⟩, hx, -⟩
  · have HJ : Hid (inn x y = (decide (l2 ≤ lo) && decide (hi ≤ h2)) ) := by show _ = _; simp [inn, hx, hy, whole]
    rw [hx, hy] at K
    clear hx hy hbd
    (have f1 := (K.out.rf (.tail _ (.head _))).warm; have c10 := (K.out.rf (.tail _ (.head _))).cell0; have c11 := (K.out.rf (.tail _ (.head _))).cell1; have c12 := (K.out.rf (.tail _ (.head _))).cell2)
    (have f2 := (K.out.rf (.head _)).warm; have c20 := (K.out.rf (.head _)).cell0; have c21 := (K.out.rf (.head _)).cell1; have c22 := (K.out.rf (.head _)).cell2)
    by_cases e1 : l2 ≤ lo
    · go_wp2_with fail
      go_ret
      exact ⟨ret_bool (by rw [HJ.out]; first | rfl | (simp [e1]; done) | (simp [e1]; omega)), K.out.B⟩
    · go_wp2_with fail
      go_ret
      exact ⟨ret_bool (by rw [HJ.out]; first | rfl | (simp [e1]; done) | (simp [e1]; omega)), K.out.B⟩
  · have HJ : Hid (inn x y = true) := by show _ = _; simp [inn, hy, whole]
    rw [hy] at K
    clear hy
    (have f1 := (K.out.rf (.tail _ (.head _))).warm; have c10 := (K.out.rf (.tail _ (.head _))).cell0; have c11 := (K.out.rf (.tail _ (.head _))).cell1; have c12 := (K.out.rf (.tail _ (.head _))).cell2)
    (have f2 := (K.out.rf (.head _)).warm; have c20 := (K.out.rf (.head _)).cell0; have c21 := (K.out.rf (.head _)).cell1; have c22 := (K.out.rf (.head _)).cell2)
    go_wp2_with fail
    go_ret
    exact ⟨ret_bool (by rw [HJ.out]), K.out.B⟩
  · have HJ : Hid (inn x y = false) := by show _ = _; simp [inn, hx, hy, whole]
    rw [hx, hy] at K
    clear hx hy
    (have f1 := (K.out.rf (.tail _ (.head _))).warm; have c10 := (K.out.rf (.tail _ (.head _))).cell0; have c11 := (K.out.rf (.tail _ (.head _))).cell1; have c12 := (K.out.rf (.tail _ (.head _))).cell2)
    (have f2 := (K.out.rf (.head _)).warm; have c20 := (K.out.rf (.head _)).cell0; have c21 := (K.out.rf (.head _)).cell1; have c22 := (K.out.rf (.head _)).cell2)
    go_wp2_with fail
    go_ret
    exact ⟨ret_bool (by rw [HJ.out]), K.out.B⟩

set_option maxHeartbeats 1000000 in
set_option maxRecDepth 100000 in
theorem join_ref (x y : Sp) (w : World) : Calls Try.prog 68 #[x.v, y.v] w fun e w' => e = .returned (join x y).v ∧ Below w.heap.size w w' := by
  have K := Lib.hid (Keep.begin3 w (Obj.ref x) (Obj.ref y) (Obj.ref ⟨0, 0, false⟩))
  go_enter Try.func68, Try.ntmps68
  go_upto_region 1 with fail
  (refine out_keep K.out ?_; clear K; intro W K; replace K := Lib.hid K)
  (have f1 := (K.out.rf (.tail _ (.tail _ (.head _)))).warm; have c10 := (K.out.rf (.tail _ (.tail _ (.head _)))).cell0; have c11 := (K.out.rf (.tail _ (.tail _ (.head _)))).cell1; have c12 := (K.out.rf (.tail _ (.tail _ (.head _)))).cell2)
  go_wp2_with fail
  (refine ((right_ref x _)).mono ?_; rintro e w2 ⟨rfl, hb⟩; replace K := Lib.hid (Keep.stays _ _ K.out hb); clear hb)
  ((try clear f1); (try clear c10 c11 c12))
  (go_upto_region 2 with fail; replace K := Lib.hid (K.out.alloc (Obj.ref (right x))); generalize w2.heap.size = gg at *; refine out_keep K.out ?_; clear K; intro W K; replace K := Lib.hid K; clear w2)
  (have f1 := (K.out.rf (.tail _ (.tail _ (.head _)))).warm; have c10 := (K.out.rf (.tail _ (.tail _ (.head _)))).cell0; have c11 := (K.out.rf (.tail _ (.tail _ (.head _)))).cell1; have c12 := (K.out.rf (.tail _ (.tail _ (.head _)))).cell2)
  go_wp2_with fail
  (refine ((right_ref y _)).mono ?_; rintro e w2 ⟨rfl, hb⟩; replace K := Lib.hid (Keep.stays _ _ K.out hb); clear hb)
  ((try clear f1); (try clear c10 c11 c12))
  (go_upto_region 3 with fail; replace K := Lib.hid (K.out.alloc (Obj.ref (right y))); generalize w2.heap.size = gg at *; refine out_keep K.out ?_; clear K; intro W K; replace K := Lib.hid K; clear w2)
  rcases right_four x y with ⟨lo, hi, l2, h2, hx, hy, hbd, -, -⟩ | ⟨hx, -⟩ | ⟨⟨lo, hi, hx, hb1, hb2, hb3, -⟩, hy, -⟩
  · have HJ : Hid (join x y = ⟨min lo l2, max hi h2, false⟩) := by
      show _ = _
      simp only [join, hx, hy]
      rw [if_neg (by rintro (h | h) <;> exact fin_ne _ _ h)]
      exact right_fin ⟨rfl, by show -2147483647 ≤ min lo l2; omega, by show min lo l2 ≤ max hi h2; omega, by show max hi h2 ≤ 2147483647; omega⟩
    rw [hx, hy] at K
    clear hx hy hbd
    (have f1 := (K.out.rf (.tail _ (.head _))).warm; have c10 := (K.out.rf (.tail _ (.head _))).cell0; have c11 := (K.out.rf (.tail _ (.head _))).cell1; have c12 := (K.out.rf (.tail _ (.head _))).cell2)
    (have f2 := (K.out.rf (.head _)).warm; have c20 := (K.out.rf (.head _)).cell0; have c21 := (K.out.rf (.head _)).cell1; have c22 := (K.out.rf (.head _)).cell2)
    (have f3 := (K.out.rf (.tail _ (.tail _ (.head _)))).warm; have c30 := (K.out.rf (.tail _ (.tail _ (.head _)))).cell0; have c31 := (K.out.rf (.tail _ (.tail _ (.head _)))).cell1; have c32 := (K.out.rf (.tail _ (.tail _ (.head _)))).cell2)
    go_wp2_with fail
    exact ret_rf Try.results68 rfl ((K.out.putr_2 ⟨min lo l2, max hi h2, false⟩).rf (.tail _ (.tail _ (.head _)))) ⟨by rw [HJ.out], (K.out.putr_2 ⟨min lo l2, max hi h2, false⟩).B⟩
  · have HJ : Hid (join x y = ⟨0, 0, true⟩) := by
      show _ = _
      simp only [join, hx]
      rw [if_pos (.inl (show (⟨0, 0, true⟩ : Sp) = whole from rfl))]; rfl
    rw [hx] at K
    clear hx
    (have f1 := (K.out.rf (.tail _ (.head _))).warm; have c10 := (K.out.rf (.tail _ (.head _))).cell0; have c11 := (K.out.rf (.tail _ (.head _))).cell1; have c12 := (K.out.rf (.tail _ (.head _))).cell2)
    (have f2 := (K.out.rf (.head _)).warm; have c20 := (K.out.rf (.head _)).cell0; have c21 := (K.out.rf (.head _)).cell1; have c22 := (K.out.rf (.head _)).cell2)
    (have f3 := (K.out.rf (.tail _ (.tail _ (.head _)))).warm; have c30 := (K.out.rf (.tail _ (.tail _ (.head _)))).cell0; have c31 := (K.out.rf (.tail _ (.tail _ (.head _)))).cell1; have c32 := (K.out.rf (.tail _ (.tail _ (.head _)))).cell2)
    go_wp2_with fail
    exact ret_rf Try.results68 rfl ((K.out.putr_2 ⟨0, 0, true⟩).rf (.tail _ (.tail _ (.head _)))) ⟨by rw [HJ.out], (K.out.putr_2 ⟨0, 0, true⟩).B⟩
  · have HJ : Hid (join x y = ⟨0, 0, true⟩) := by
      show _ = _
      simp only [join, hy]
      rw [if_pos (.inr (show (⟨0, 0, true⟩ : Sp) = whole from rfl))]; rfl
    rw [hx, hy] at K
    clear hx hy
    (have f1 := (K.out.rf (.tail _ (.head _))).warm; have c10 := (K.out.rf (.tail _ (.head _))).cell0; have c11 := (K.out.rf (.tail _ (.head _))).cell1; have c12 := (K.out.rf (.tail _ (.head _))).cell2)
    (have f2 := (K.out.rf (.head _)).warm; have c20 := (K.out.rf (.head _)).cell0; have c21 := (K.out.rf (.head _)).cell1; have c22 := (K.out.rf (.head _)).cell2)
    (have f3 := (K.out.rf (.tail _ (.tail _ (.head _)))).warm; have c30 := (K.out.rf (.tail _ (.tail _ (.head _)))).cell0; have c31 := (K.out.rf (.tail _ (.tail _ (.head _)))).cell1; have c32 := (K.out.rf (.tail _ (.tail _ (.head _)))).cell2)
    go_wp2_with fail
    exact ret_rf Try.results68 rfl ((K.out.putr_2 ⟨0, 0, true⟩).rf (.tail _ (.tail _ (.head _)))) ⟨by rw [HJ.out], (K.out.putr_2 ⟨0, 0, true⟩).B⟩

set_option maxHeartbeats 1000000 in
set_option maxRecDepth 100000 in
theorem meet_ref (x y : Sp) (w : World) : Calls Try.prog 62 #[x.v, y.v] w fun e w' => e = .returned (.tuple #[(meet x y).1.v, .bool (meet x y).2]) ∧ Below w.heap.size w w' := by
  have K := Lib.hid (Keep.begin3 w (Obj.ref x) (Obj.ref y) (Obj.ref ⟨0, 0, false⟩))
  go_enter Try.func62, Try.ntmps62
  go_upto_region 1 with fail
  (refine out_keep K.out ?_; clear K; intro W K; replace K := Lib.hid K)
  (have f1 := (K.out.rf (.tail _ (.tail _ (.head _)))).warm; have c10 := (K.out.rf (.tail _ (.tail _ (.head _)))).cell0; have c11 := (K.out.rf (.tail _ (.tail _ (.head _)))).cell1; have c12 := (K.out.rf (.tail _ (.tail _ (.head _)))).cell2)
  go_wp2_with fail
  (refine ((right_ref x _)).mono ?_; rintro e w2 ⟨rfl, hb⟩; replace K := Lib.hid (Keep.stays _ _ K.out hb); clear hb)
  ((try clear f1); (try clear c10 c11 c12))
  (go_upto_region 2 with fail; replace K := Lib.hid (K.out.alloc (Obj.ref (right x))); generalize w2.heap.size = gg at *; refine out_keep K.out ?_; clear K; intro W K; replace K := Lib.hid K; clear w2)
  (have f1 := (K.out.rf (.tail _ (.tail _ (.head _)))).warm; have c10 := (K.out.rf (.tail _ (.tail _ (.head _)))).cell0; have c11 := (K.out.rf (.tail _ (.tail _ (.head _)))).cell1; have c12 := (K.out.rf (.tail _ (.tail _ (.head _)))).cell2)
  go_wp2_with fail
  (refine ((right_ref y _)).mono ?_; rintro e w2 ⟨rfl, hb⟩; replace K := Lib.hid (Keep.stays _ _ K.out hb); clear hb)
  ((try clear f1); (try clear c10 c11 c12))
  (go_upto_region 3 with fail; replace K := Lib.hid (K.out.alloc (Obj.ref (right y))); generalize w2.heap.size = gg at *; refine out_keep K.out ?_; clear K; intro W K; replace K := Lib.hid K; clear w2)
  rcases right_four x y with ⟨lo, hi, l2, h2, hx, hy, hbd, -, -⟩ | ⟨hx, -⟩ | ⟨⟨lo, hi, hx, hb1, hb2, hb3, -⟩, hy, -⟩
  · have HX := Lib.hid hx; have HY := Lib.hid hy
    rw [hx, hy] at K
    obtain ⟨q1, q2, q3, q4, q5, q6⟩ := hbd
    clear hx hy
    (have f1 := (K.out.rf (.tail _ (.head _))).warm; have c10 := (K.out.rf (.tail _ (.head _))).cell0; have c11 := (K.out.rf (.tail _ (.head _))).cell1; have c12 := (K.out.rf (.tail _ (.head _))).cell2)
    (have f2 := (K.out.rf (.head _)).warm; have c20 := (K.out.rf (.head _)).cell0; have c21 := (K.out.rf (.head _)).cell1; have c22 := (K.out.rf (.head _)).cell2)
    go_upto_region 8 with fail
    replace K := Lib.hid (K.out.alloc (Obj.ref ⟨max lo l2, min hi h2, false⟩))
    ((try clear f1); (try clear c10 c11 c12))
    ((try clear f2); (try clear c20 c21 c22))
    generalize W.heap.size = gg at *
    (refine out_keep K.out ?_; clear K; intro W K; replace K := Lib.hid K)
    (have f1 := (K.out.rf (.head _)).warm; have c10 := (K.out.rf (.head _)).cell0; have c11 := (K.out.rf (.head _)).cell1; have c12 := (K.out.rf (.head _)).cell2)
    by_cases e1 : min hi h2 < max lo l2
    · have HJ : Hid (meet x y = (⟨0, 0, false⟩, false)) := by
        show _ = _
        simp only [meet, HX.out, HY.out]
        rw [if_neg (fin_ne _ _), if_neg (fin_ne _ _), if_pos e1]
      (have f2 := (K.out.rf (.tail _ (.tail _ (.tail _ (.head _))))).warm; have c20 := (K.out.rf (.tail _ (.tail _ (.tail _ (.head _))))).cell0; have c21 := (K.out.rf (.tail _ (.tail _ (.tail _ (.head _))))).cell1; have c22 := (K.out.rf (.tail _ (.tail _ (.tail _ (.head _))))).cell2)
      go_wp2_with fail
      exact ret_rf2 Try.results62 rfl rfl ((K.out.putr_3 ⟨0, 0, false⟩).rf (.tail _ (.tail _ (.tail _ (.head _))))) ⟨by rw [HJ.out] <;> rfl, (K.out.putr_3 ⟨0, 0, false⟩).B⟩
    · have HJ : Hid (meet x y = (⟨max lo l2, min hi h2, false⟩, true)) := by
        show _ = _
        simp only [meet, HX.out, HY.out]
        rw [if_neg (fin_ne _ _), if_neg (fin_ne _ _), if_neg e1]
        rw [show made (max lo l2) (min hi h2) = ⟨max lo l2, min hi h2, false⟩ from right_fin ⟨rfl, by show -2147483647 ≤ max lo l2; omega, by show max lo l2 ≤ min hi h2; omega, by show min hi h2 ≤ 2147483647; omega⟩]
      (have f2 := (K.out.rf (.tail _ (.tail _ (.tail _ (.head _))))).warm; have c20 := (K.out.rf (.tail _ (.tail _ (.tail _ (.head _))))).cell0; have c21 := (K.out.rf (.tail _ (.tail _ (.tail _ (.head _))))).cell1; have c22 := (K.out.rf (.tail _ (.tail _ (.tail _ (.head _))))).cell2)
      go_wp2_with fail
      exact ret_rf2 Try.results62 rfl rfl ((K.out.putr_3 ⟨max lo l2, min hi h2, false⟩).rf (.tail _ (.tail _ (.tail _ (.head _))))) ⟨by rw [HJ.out] <;> rfl, (K.out.putr_3 ⟨max lo l2, min hi h2, false⟩).B⟩
  · have HJ : Hid (meet x y = (right y, true)) := by
      show _ = _
      simp only [meet, hx]; rw [if_pos (show (⟨0, 0, true⟩ : Sp) = whole from rfl)]
    rw [hx] at K
    clear hx
    (have f1 := (K.out.rf (.tail _ (.head _))).warm; have c10 := (K.out.rf (.tail _ (.head _))).cell0; have c11 := (K.out.rf (.tail _ (.head _))).cell1; have c12 := (K.out.rf (.tail _ (.head _))).cell2)
    (have f2 := (K.out.rf (.head _)).warm; have c20 := (K.out.rf (.head _)).cell0; have c21 := (K.out.rf (.head _)).cell1; have c22 := (K.out.rf (.head _)).cell2)
    (have f3 := (K.out.rf (.tail _ (.tail _ (.head _)))).warm; have c30 := (K.out.rf (.tail _ (.tail _ (.head _)))).cell0; have c31 := (K.out.rf (.tail _ (.tail _ (.head _)))).cell1; have c32 := (K.out.rf (.tail _ (.tail _ (.head _)))).cell2)
    go_wp2_with fail
    exact ret_rf2 Try.results62 rfl rfl ((K.out.putr_2 (right y)).rf (.tail _ (.tail _ (.head _)))) ⟨by rw [HJ.out] <;> rfl, (K.out.putr_2 (right y)).B⟩
  · have HJ : Hid (meet x y = (⟨lo, hi, false⟩, true)) := by
      show _ = _
      simp only [meet, hx, hy]; rw [if_neg (fin_ne _ _), if_pos (show (⟨0, 0, true⟩ : Sp) = whole from rfl)]
    rw [hx, hy] at K
    clear hx hy
    (have f1 := (K.out.rf (.tail _ (.head _))).warm; have c10 := (K.out.rf (.tail _ (.head _))).cell0; have c11 := (K.out.rf (.tail _ (.head _))).cell1; have c12 := (K.out.rf (.tail _ (.head _))).cell2)
    (have f2 := (K.out.rf (.head _)).warm; have c20 := (K.out.rf (.head _)).cell0; have c21 := (K.out.rf (.head _)).cell1; have c22 := (K.out.rf (.head _)).cell2)
    (have f3 := (K.out.rf (.tail _ (.tail _ (.head _)))).warm; have c30 := (K.out.rf (.tail _ (.tail _ (.head _)))).cell0; have c31 := (K.out.rf (.tail _ (.tail _ (.head _)))).cell1; have c32 := (K.out.rf (.tail _ (.tail _ (.head _)))).cell2)
    go_wp2_with fail
    exact ret_rf2 Try.results62 rfl rfl ((K.out.putr_2 ⟨lo, hi, false⟩).rf (.tail _ (.tail _ (.head _)))) ⟨by rw [HJ.out] <;> rfl, (K.out.putr_2 ⟨lo, hi, false⟩).B⟩

theorem half (s : Int) : (s < 0 → s.tmod 2 = 0 → s.tdiv 2 = s / 2) ∧ (s < 0 → s.tmod 2 ≠ 0 → s.tdiv 2 - 1 = s / 2) ∧ (¬ s < 0 → s.tdiv 2 = s / 2) := by
  have h := tdiv_floor s 2 (by decide)
  have e : fl s 2 = s / 2 := rfl
  rw [e] at h
  refine ⟨fun h1 h2 => ?_, fun h1 h2 => ?_, fun h1 => ?_⟩
  · rw [h, if_neg (by simp [h2])]
  · rw [h, if_pos ⟨h2, by rw [decide_eq_true h1]; rfl⟩]
  · rw [h, if_neg (by rw [decide_eq_false h1]; simp)]

set_option maxHeartbeats 1000000 in
set_option maxRecDepth 100000 in
theorem mid_ref (x : Sp) (w : World) : Calls Try.prog 69 #[x.v] w fun e w' => e = .returned (.int .i64 (mid x)) ∧ Below w.heap.size w w' := by
  have K := Lib.hid (Keep.begin1 w (Obj.ref x))
  go_enter Try.func69, Try.ntmps69
  go_upto_region 1 with fail
  (refine out_keep K.out ?_; clear K; intro W K; replace K := Lib.hid K)
  (have f1 := (K.out.rf (.head _)).warm; have c10 := (K.out.rf (.head _)).cell0; have c11 := (K.out.rf (.head _)).cell1; have c12 := (K.out.rf (.head _)).cell2)
  go_wp2_with fail
  (refine ((right_ref x _)).mono ?_; rintro e w2 ⟨rfl, hb⟩; replace K := Lib.hid (Keep.stays _ _ K.out hb); clear hb)
  ((try clear f1); (try clear c10 c11 c12))
  (go_upto_region 2 with fail; replace K := Lib.hid (K.out.alloc (Obj.ref (right x))); generalize w2.heap.size = gg at *; refine out_keep K.out ?_; clear K; intro W K; replace K := Lib.hid K; clear w2)
  rcases right_two x with ⟨lo, hi, hr, h1, h2, h3, -, -⟩ | ⟨hr, -⟩
  · have HM : Hid (mid x = (lo + hi) / 2) := by show _ = _; simp [mid, hr]
    have HF := Lib.hid (half (lo + hi))
    have hq : -4294967294 ≤ (lo + hi).tdiv 2 ∧ (lo + hi).tdiv 2 ≤ 4294967294 := by
      have := Int.natAbs_tdiv_le_natAbs (lo + hi) 2
      omega
    obtain ⟨q1, q2⟩ := hq
    rw [hr] at K
    clear hr
    (have f1 := (K.out.rf (.head _)).warm; have c10 := (K.out.rf (.head _)).cell0; have c11 := (K.out.rf (.head _)).cell1; have c12 := (K.out.rf (.head _)).cell2)
    by_cases hs : lo + hi < 0
    · by_cases ht : (lo + hi).tmod 2 = 0
      · go_wp2_with fail
        go_ret
        exact ⟨ret_int (by rw [HM.out, HF.out.1 hs ht]), K.out.B⟩
      · go_wp2_with fail
        go_ret
        exact ⟨ret_int (by rw [HM.out, HF.out.2.1 hs ht]), K.out.B⟩
    · go_wp2_with fail
      go_ret
      exact ⟨ret_int (by first | rw [HM.out, HF.out.2.2 hs] | rw [HM.out]), K.out.B⟩
  · have HM : Hid (mid x = 0) := by show _ = _; simp [mid, hr]
    rw [hr] at K
    clear hr
    (have f1 := (K.out.rf (.head _)).warm; have c10 := (K.out.rf (.head _)).cell0; have c11 := (K.out.rf (.head _)).cell1; have c12 := (K.out.rf (.head _)).cell2)
    go_wp2_with fail
    go_ret
    exact ⟨ret_int HM.out.symm, K.out.B⟩

set_option maxHeartbeats 1000000 in
set_option maxRecDepth 100000 in
theorem rad_ref (x : Sp) (w : World) : Calls Try.prog 70 #[x.v] w fun e w' => e = .returned (.int .i64 (rad x)) ∧ Below w.heap.size w w' := by
  have K := Lib.hid (Keep.begin1 w (Obj.ref x))
  go_enter Try.func70, Try.ntmps70
  go_upto_region 1 with fail
  (refine out_keep K.out ?_; clear K; intro W K; replace K := Lib.hid K)
  (have f1 := (K.out.rf (.head _)).warm; have c10 := (K.out.rf (.head _)).cell0; have c11 := (K.out.rf (.head _)).cell1; have c12 := (K.out.rf (.head _)).cell2)
  go_wp2_with fail
  (refine ((right_ref x _)).mono ?_; rintro e w2 ⟨rfl, hb⟩; replace K := Lib.hid (Keep.stays _ _ K.out hb); clear hb)
  ((try clear f1); (try clear c10 c11 c12))
  (go_upto_region 2 with fail; replace K := Lib.hid (K.out.alloc (Obj.ref (right x))); generalize w2.heap.size = gg at *; refine out_keep K.out ?_; clear K; intro W K; replace K := Lib.hid K; clear w2)
  rcases right_two x with ⟨lo, hi, hr, h1, h2, h3, -, -⟩ | ⟨hr, -⟩
  · have hm : mid ⟨lo, hi, false⟩ = (lo + hi) / 2 := by
      simp [mid, right_fin (show Fin ⟨lo, hi, false⟩ from ⟨rfl, h1, h2, h3⟩)]
    have HM : Hid (rad x = hi - (lo + hi) / 2) := by show _ = _; simp only [rad, hr]; rw [hm]; rfl
    have HC := Lib.hid (fun w => mid_ref ⟨lo, hi, false⟩ w)
    rw [hm] at HC
    rw [hr] at K
    clear hr hm
    (have f1 := (K.out.rf (.head _)).warm; have c10 := (K.out.rf (.head _)).cell0; have c11 := (K.out.rf (.head _)).cell1; have c12 := (K.out.rf (.head _)).cell2)
    go_wp2_with fail
    (refine region_quiet _ (by kernel_rfl) (by kernel_rfl) K.out.drew ?_; haveI ne := Keep.ne K)
    (have c20 := Keep.ar0 K (.head _); have c21 := Keep.ar1 K (.head _); have c22 := Keep.ar2 K (.head _))
    repeat (go_big_quiet_step ((go_at_call 69; with_reducible exact At.call Keep.stays (HC.out _))))
    (refine wpQuiet_nil ?_; clear ne K; intro W K; replace K := Lib.hid K)
    ((try clear f2); (try clear c20 c21 c22))
    ((try clear f1); (try clear c10 c11 c12))
    go_wp2_with fail
    go_ret
    exact ⟨ret_int HM.out.symm, K.out.B⟩
  · have HM : Hid (rad x = 2147483647) := by show _ = _; simp [rad, hr]
    rw [hr] at K
    clear hr
    (have f1 := (K.out.rf (.head _)).warm; have c10 := (K.out.rf (.head _)).cell0; have c11 := (K.out.rf (.head _)).cell1; have c12 := (K.out.rf (.head _)).cell2)
    go_wp2_with fail
    go_ret
    exact ⟨ret_int HM.out.symm, K.out.B⟩
end Go.Proofs.Ytehjfjdopeadfaa
