/- Walk of both: what comes of two spans, if neither is the whole line; sums and differences. -/
import Derived.Test.YtehjfjdopeadfaaSpW2
set_option linter.unusedVariables false
set_option linter.unusedSimpArgs false
namespace Go.Proofs.Ytehjfjdopeadfaa
open Go.RowKit SpMath

theorem both_fin {x y : Sp} {f : Sp → Sp → Sp} (hx : Fin x) (hy : Fin y) : both x y f = f x y := if_pos ⟨hx, hy⟩
theorem both_not {x y : Sp} {f : Sp → Sp → Sp} (h : ¬ (Fin x ∧ Fin y)) : both x y f = whole := if_neg h

set_option maxHeartbeats 2000000 in
set_option maxRecDepth 100000 in
theorem both_any (N : FuncId) (hN : N = 76 ∨ N = 78 ∨ N = 79 ∨ N = 80) (F : Sp → Sp → Sp) (hF : ∀ (x y : Sp) (w : World), Fin x → Fin y → Calls Try.prog N #[x.v, y.v] w fun e w' => e = .returned (F x y).v ∧ Below w.heap.size w w') (x y : Sp) (w : World) :
    Calls Try.prog 75 #[x.v, y.v, .func (.func N) #[] #[]] w fun e w' => e = .returned (both x y F).v ∧ Below w.heap.size w w' := by
  obtain ⟨hx, hy, hz, hb⟩ := three_boxes w x y ⟨0, 0, false⟩
  have HX := Lib.hid hx; have HY := Lib.hid hy; have HZ := Lib.hid hz; have HB := Lib.hid hb
  have HF := Lib.hid hF; have HN := Lib.hid hN
  clear hx hy hz hb hF hN
  go_enter Try.func75, Try.ntmps75
  go_wp2_with fail
  (have f := (HX).out.warm; have c0 := (HX).out.cell0; have c1 := (HX).out.cell1; have c2 := (HX).out.cell2)
  (have g := (HY).out.warm; have d0 := (HY).out.cell0; have d1 := (HY).out.cell1; have d2 := (HY).out.cell2)
  (go_region_with (first | (go_at_call 71; with_reducible refine ((right_any x _)).mono ?_; rintro e w2 ⟨rfl, hb⟩; (try clear f c0 c1 c2); (try clear g d0 d1 d2); replace HX := Lib.hid (HX.out.below hb rfl); replace HY := Lib.hid (HY.out.below hb rfl); (try replace HZ := Lib.hid (HZ.out.below hb rfl)); replace HB := Lib.hid (below_go HB.out HB.out.size hb rfl rfl rfl rfl); clear hb; (have f := (HX).out.warm; have c0 := (HX).out.cell0; have c1 := (HX).out.cell1; have c2 := (HX).out.cell2); (have g := (HY).out.warm; have d0 := (HY).out.cell0; have d1 := (HY).out.cell1; have d2 := (HY).out.cell2)) | (go_at_call 71; with_reducible refine ((right_any y _)).mono ?_; rintro e w2 ⟨rfl, hb⟩; (try clear f c0 c1 c2); (try clear g d0 d1 d2); replace HX := Lib.hid (HX.out.below hb rfl); replace HY := Lib.hid (HY.out.below hb rfl); (try replace HZ := Lib.hid (HZ.out.below hb rfl)); replace HB := Lib.hid (below_go HB.out HB.out.size hb rfl rfl rfl rfl); clear hb; (have f := (HX).out.warm; have c0 := (HX).out.cell0; have c1 := (HX).out.cell1; have c2 := (HX).out.cell2); (have g := (HY).out.warm; have d0 := (HY).out.cell0; have d1 := (HY).out.cell1; have d2 := (HY).out.cell2))))
  all_goals
    ((try clear f c0 c1 c2); (try clear g d0 d1 d2); refine out_world _ _ ?_; intro W hW; (replace HX : Hid (BoxS W w.heap.size (right x)) := (by (refine Lib.hid ?_; rw [← hW]; first | with_reducible exact BoxS.others (BoxS.put HX.out (right x)) (by omega) _ _ _ | with_reducible exact BoxS.put (BoxS.others HX.out (by omega) _ _ _) (right x)))); (replace HY : Hid (BoxS W (w.heap.size + 1) (right y)) := (by (refine Lib.hid ?_; rw [← hW]; first | with_reducible exact BoxS.others (BoxS.put HY.out (right y)) (by omega) _ _ _ | with_reducible exact BoxS.put (BoxS.others HY.out (by omega) _ _ _) (right y)))); (try (replace HZ : Hid (BoxS W (w.heap.size + 1 + 1) ⟨0, 0, false⟩) := (by (refine Lib.hid ?_; rw [← hW]; with_reducible exact BoxS.others (BoxS.others HZ.out (by omega) _ _ _) (by omega) _ _ _)))); (replace HB : Hid (Below w.heap.size w W) := (by (refine Lib.hid ?_; rw [← hW]; with_reducible exact below_put (below_put HB.out (by omega) _ _ _) (by omega) _ _ _))); clear hW)
    have hw := whole_v
    rcases right_four x y with ⟨lo, hi, l2, h2, hx, hy, hbd, fx, fy⟩ | ⟨hx, nf⟩ | ⟨⟨lo, hi, hx, hb1, hb2, hb3, -⟩, hy, nf⟩
    · have hxx : x = ⟨lo, hi, false⟩ := by rw [← hx]; exact (right_fin fx).symm
      have hyy : y = ⟨l2, h2, false⟩ := by rw [← hy]; exact (right_fin fy).symm
      have HJ : Hid (both x y F = F ⟨lo, hi, false⟩ ⟨l2, h2, false⟩) := by show _ = _; rw [both_fin fx fy, ← hxx, ← hyy]
      have HFX : Hid (Fin ⟨lo, hi, false⟩ ∧ Fin ⟨l2, h2, false⟩) := by rw [← hxx, ← hyy]; exact ⟨fx, fy⟩
      clear hxx hyy hbd fx fy
      rw [hx] at HX; rw [hy] at HY
      (have f := (HX).out.warm; have c0 := (HX).out.cell0; have c1 := (HX).out.cell1; have c2 := (HX).out.cell2); (have g := (HY).out.warm; have d0 := (HY).out.cell0; have d1 := (HY).out.cell1; have d2 := (HY).out.cell2)
      rcases HN.out with rfl | rfl | rfl | rfl
      all_goals
        go_wp2_with fail
        refine (HF.out ⟨lo, hi, false⟩ ⟨l2, h2, false⟩ _ HFX.out.1 HFX.out.2).mono ?_; rintro e w3 ⟨rfl, hb⟩
        (replace HZ := Lib.hid (HZ.out.below hb rfl); replace HB := Lib.hid (below_go HB.out HB.out.size hb rfl rfl rfl rfl); clear hb; (try clear f c0 c1 c2); (try clear g d0 d1 d2); (have k := (HZ).out.warm; have b0 := (HZ).out.cell0; have b1 := (HZ).out.cell1; have b2 := (HZ).out.cell2))
        go_wp2_with fail
        exact ret_sp Try.results75 rfl (HZ.out.put (F ⟨lo, hi, false⟩ ⟨l2, h2, false⟩)) ⟨by rw [HJ.out], below_put HB.out (by omega) _ _ _⟩
    · have HJ : Hid (both x y F = whole) := both_not (fun h => nf h.1)
      clear nf
      rw [hx] at HX
      (have f := (HX).out.warm; have c0 := (HX).out.cell0; have c1 := (HX).out.cell1; have c2 := (HX).out.cell2); (have g := (HY).out.warm; have d0 := (HY).out.cell0; have d1 := (HY).out.cell1; have d2 := (HY).out.cell2)
      go_wp2_with fail
      refine (whole_any _).mono ?_; rintro e w3 ⟨rfl, hb⟩
      (replace HZ := Lib.hid (HZ.out.below hb rfl); replace HB := Lib.hid (below_go HB.out HB.out.size hb rfl rfl rfl rfl); clear hb; (try clear f c0 c1 c2); (try clear g d0 d1 d2); (have k := (HZ).out.warm; have b0 := (HZ).out.cell0; have b1 := (HZ).out.cell1; have b2 := (HZ).out.cell2))
      go_wp2_with fail
      exact ret_sp Try.results75 rfl (HZ.out.put ⟨0, 0, true⟩) ⟨by rw [HJ.out]; rfl, below_put HB.out (by omega) _ _ _⟩
    · have HJ : Hid (both x y F = whole) := both_not (fun h => nf h.2)
      clear nf
      rw [hx] at HX; rw [hy] at HY
      (have f := (HX).out.warm; have c0 := (HX).out.cell0; have c1 := (HX).out.cell1; have c2 := (HX).out.cell2); (have g := (HY).out.warm; have d0 := (HY).out.cell0; have d1 := (HY).out.cell1; have d2 := (HY).out.cell2)
      go_wp2_with fail
      refine (whole_any _).mono ?_; rintro e w3 ⟨rfl, hb⟩
      (replace HZ := Lib.hid (HZ.out.below hb rfl); replace HB := Lib.hid (below_go HB.out HB.out.size hb rfl rfl rfl rfl); clear hb; (try clear f c0 c1 c2); (try clear g d0 d1 d2); (have k := (HZ).out.warm; have b0 := (HZ).out.cell0; have b1 := (HZ).out.cell1; have b2 := (HZ).out.cell2))
      go_wp2_with fail
      exact ret_sp Try.results75 rfl (HZ.out.put ⟨0, 0, true⟩) ⟨by rw [HJ.out]; rfl, below_put HB.out (by omega) _ _ _⟩

set_option maxHeartbeats 1000000 in
set_option maxRecDepth 100000 in
theorem addF_any (x y : Sp) (w : World) (fx : Fin x) (fy : Fin y) : Calls Try.prog 78 #[x.v, y.v] w fun e w' => e = .returned (addF x y).v ∧ Below w.heap.size w w' := by
  obtain ⟨hx, hy, hz, hb⟩ := three_boxes w x y ⟨0, 0, false⟩
  have HZ := Lib.hid hz; have HB := Lib.hid hb
  clear hx hy hz hb
  have h1 : -9223372036854775808 ≤ x.lo + y.lo ∧ x.lo + y.lo ≤ 9223372036854775807 := by obtain ⟨_, a, b, c⟩ := fx; obtain ⟨_, d, e, f⟩ := fy; omega
  have h2 : -9223372036854775808 ≤ x.hi + y.hi ∧ x.hi + y.hi ≤ 9223372036854775807 := by obtain ⟨_, a, b, c⟩ := fx; obtain ⟨_, d, e, f⟩ := fy; omega
  obtain ⟨h1, h1'⟩ := h1
  obtain ⟨h2, h2'⟩ := h2
  clear fx fy
  go_enter Try.func78, Try.ntmps78
  go_wp2_with fail
  refine (made_any (x.lo + y.lo) (x.hi + y.hi) _).mono ?_; rintro e w3 ⟨rfl, hb⟩
  (replace HZ := Lib.hid (HZ.out.below hb rfl); replace HB := Lib.hid (below_go HB.out HB.out.size hb rfl rfl rfl rfl); clear hb; (try clear f c0 c1 c2); (try clear g d0 d1 d2); (have k := (HZ).out.warm; have b0 := (HZ).out.cell0; have b1 := (HZ).out.cell1; have b2 := (HZ).out.cell2))
  go_wp2_with fail
  exact ret_sp Try.results78 rfl (HZ.out.put (addF x y)) ⟨rfl, below_put HB.out (by omega) _ _ _⟩

set_option maxHeartbeats 1000000 in
set_option maxRecDepth 100000 in
theorem subF_any (x y : Sp) (w : World) (fx : Fin x) (fy : Fin y) : Calls Try.prog 79 #[x.v, y.v] w fun e w' => e = .returned (subF x y).v ∧ Below w.heap.size w w' := by
  obtain ⟨hx, hy, hz, hb⟩ := three_boxes w x y ⟨0, 0, false⟩
  have HZ := Lib.hid hz; have HB := Lib.hid hb
  clear hx hy hz hb
  have h1 : -9223372036854775808 ≤ x.lo - y.hi ∧ x.lo - y.hi ≤ 9223372036854775807 := by obtain ⟨_, a, b, c⟩ := fx; obtain ⟨_, d, e, f⟩ := fy; omega
  have h2 : -9223372036854775808 ≤ x.hi - y.lo ∧ x.hi - y.lo ≤ 9223372036854775807 := by obtain ⟨_, a, b, c⟩ := fx; obtain ⟨_, d, e, f⟩ := fy; omega
  obtain ⟨h1, h1'⟩ := h1
  obtain ⟨h2, h2'⟩ := h2
  clear fx fy
  go_enter Try.func79, Try.ntmps79
  go_wp2_with fail
  refine (made_any (x.lo - y.hi) (x.hi - y.lo) _).mono ?_; rintro e w3 ⟨rfl, hb⟩
  (replace HZ := Lib.hid (HZ.out.below hb rfl); replace HB := Lib.hid (below_go HB.out HB.out.size hb rfl rfl rfl rfl); clear hb; (try clear f c0 c1 c2); (try clear g d0 d1 d2); (have k := (HZ).out.warm; have b0 := (HZ).out.cell0; have b1 := (HZ).out.cell1; have b2 := (HZ).out.cell2))
  go_wp2_with fail
  exact ret_sp Try.results79 rfl (HZ.out.put (subF x y)) ⟨rfl, below_put HB.out (by omega) _ _ _⟩

set_option maxRecDepth 100000 in
theorem add_any (x y : Sp) (w : World) : Calls Try.prog 46 #[x.v, y.v] w fun e w' => e = .returned (add x y).v ∧ Below w.heap.size w w' := by
  obtain ⟨hx, hy, hz, hb⟩ := three_boxes w x y ⟨0, 0, false⟩
  have HZ := Lib.hid hz; have HB := Lib.hid hb
  clear hx hy hz hb
  go_enter Try.func46, Try.ntmps46
  go_wp2_with fail
  refine (both_any 78 (by decide) addF addF_any x y _).mono ?_; rintro e w3 ⟨rfl, hb⟩
  (replace HZ := Lib.hid (HZ.out.below hb rfl); replace HB := Lib.hid (below_go HB.out HB.out.size hb rfl rfl rfl rfl); clear hb; (try clear f c0 c1 c2); (try clear g d0 d1 d2); (have k := (HZ).out.warm; have b0 := (HZ).out.cell0; have b1 := (HZ).out.cell1; have b2 := (HZ).out.cell2))
  go_wp2_with fail
  exact ret_sp Try.results46 rfl (HZ.out.put (add x y)) ⟨rfl, below_put HB.out (by omega) _ _ _⟩

set_option maxRecDepth 100000 in
theorem sub_any (x y : Sp) (w : World) : Calls Try.prog 49 #[x.v, y.v] w fun e w' => e = .returned (sub x y).v ∧ Below w.heap.size w w' := by
  obtain ⟨hx, hy, hz, hb⟩ := three_boxes w x y ⟨0, 0, false⟩
  have HZ := Lib.hid hz; have HB := Lib.hid hb
  clear hx hy hz hb
  go_enter Try.func49, Try.ntmps49
  go_wp2_with fail
  refine (both_any 79 (by decide) subF subF_any x y _).mono ?_; rintro e w3 ⟨rfl, hb⟩
  (replace HZ := Lib.hid (HZ.out.below hb rfl); replace HB := Lib.hid (below_go HB.out HB.out.size hb rfl rfl rfl rfl); clear hb; (try clear f c0 c1 c2); (try clear g d0 d1 d2); (have k := (HZ).out.warm; have b0 := (HZ).out.cell0; have b1 := (HZ).out.cell1; have b2 := (HZ).out.cell2))
  go_wp2_with fail
  exact ret_sp Try.results49 rfl (HZ.out.put (sub x y)) ⟨rfl, below_put HB.out (by omega) _ _ _⟩
end Go.Proofs.Ytehjfjdopeadfaa
