/- The walk of the statement VecTurns. -/
import Derived.Test.YtehjfjdopeadfaaVcN
import Derived.Test.YtehjfjdopeadfaaSpB
set_option linter.unusedVariables false
set_option linter.unusedSimpArgs false
namespace Go.Proofs.Ytehjfjdopeadfaa
open Go.RowKit SpMath

theorem take_at {P : Program} {md : Region.Mode} {ops : Array Oper} {Q : Exit → Act → World → Prop} {i d : Nat} {oi : Oper} {v : Value} {fuel : Nat} {listed : Array Bool} {a : Act} {w : World} (hi : ops[i]? = some oi) (hd : oi.dst = some d)
    (hs : Region.noSelect ops = true) (hf : Region.free md ops listed i = true) (hr : (Region.ready md ops listed).contains i = true)
    (hQ : ∀ c a w, Q (.panic c) (a.put (some d) v) w → Q (.panic c) a w) (hy : Yields P ops oi v a)
    (h : wpAny P md ops Q fuel (listed.setIfInBounds i true) (a.put (some d) v) w) : wpAny P md ops Q (fuel + 1) listed a w :=
  wpAny_take hi hs hf hr (by rw [hd]; exact hQ) hy (by rw [hd]; exact h)

set_option maxHeartbeats 8000000 in
set_option maxRecDepth 100000 in
theorem VecTurns_walk (v u : Vc) {w : World} :
    Calls Try.prog 8 #[v.v, u.v] w fun e w' => e = .returned (.bool true) ∧ Below w.heap.size w w' := by
  have K := Lib.hid (Keep.begin2 w (Obj.vec 25 v) (Obj.vec 25 u))
  obtain ⟨p1, p2, p3⟩ := upright v u
  have P1 : Hid (∀ w, Calls Try.prog 17 #[(dot v (cross v u)).v, .int .i64 0] w fun e w' => e = .returned (.bool true) ∧ Below w.heap.size w w') := by
    intro w; have := has_any (dot v (cross v u)) 0 rfl w; rwa [p1] at this
  have P2 : Hid (∀ w, Calls Try.prog 17 #[(dot u (cross v u)).v, .int .i64 0] w fun e w' => e = .returned (.bool true) ∧ Below w.heap.size w w') := by
    intro w; have := has_any (dot u (cross v u)) 0 rfl w; rwa [p2] at this
  have P3 : Hid (∀ w, Calls Try.prog 44 #[(mul (norm2 v) (norm2 u)).v, (add (sqr (dot v u)) (norm2 (cross v u))).v] w fun e w' => e = .returned (.tuple #[(meet (mul (norm2 v) (norm2 u)) (add (sqr (dot v u)) (norm2 (cross v u)))).1.v, .bool true]) ∧ Below w.heap.size w w') := by
    intro w; have := meet_any (mul (norm2 v) (norm2 u)) (add (sqr (dot v u)) (norm2 (cross v u))) w; rwa [p3] at this
  have D1 : Hid (∀ w, Calls Try.prog 24 #[(vof 0 0 0).v, (cross u v).v] w fun e w' => e = .returned (cross v u).v ∧ Below w.heap.size w w') := by
    intro w; have := vsub_any (vof 0 0 0) (cross u v) w; rwa [vturn v u] at this
  clear p1 p2 p3
  generalize hm : (meet (mul (norm2 v) (norm2 u)) (add (sqr (dot v u)) (norm2 (cross v u)))).1 = mm at P3
  clear hm
  go_enter Try.func8, Try.ntmps8
  go_upto_region 1 with fail
  (refine out_keep K.out ?_; clear K; intro W K; replace K := Lib.hid K)
  (go_wp2_with fail; (refine (((vawake_any _))).mono ?_; rintro e w2 ⟨rfl, hb⟩; replace K := Lib.hid (Keep.stays _ _ K.out hb); clear hb))
  (have f1 := (K.out.vc (.tail _ (.head _))).warm; have c10 := (K.out.vc (.tail _ (.head _))).cell0; have c11 := (K.out.vc (.tail _ (.head _))).cell1; have c12 := (K.out.vc (.tail _ (.head _))).cell2; have c13 := (K.out.vc (.tail _ (.head _))).cell3; have c14 := (K.out.vc (.tail _ (.head _))).cell4; have c15 := (K.out.vc (.tail _ (.head _))).cell5; have c16 := (K.out.vc (.tail _ (.head _))).cell6; have c17 := (K.out.vc (.tail _ (.head _))).cell7; have c18 := (K.out.vc (.tail _ (.head _))).cell8)
  (have f2 := (K.out.vc (.head _)).warm; have c20 := (K.out.vc (.head _)).cell0; have c21 := (K.out.vc (.head _)).cell1; have c22 := (K.out.vc (.head _)).cell2; have c23 := (K.out.vc (.head _)).cell3; have c24 := (K.out.vc (.head _)).cell4; have c25 := (K.out.vc (.head _)).cell5; have c26 := (K.out.vc (.head _)).cell6; have c27 := (K.out.vc (.head _)).cell7; have c28 := (K.out.vc (.head _)).cell8)
  go_wp2_with fail
  (refine ((cross_any v u _)).mono ?_; rintro e w2 ⟨rfl, hb⟩; replace K := Lib.hid (Keep.stays _ _ K.out hb); clear hb)
  ((try clear f1); (try clear c10 c11 c12 c13 c14 c15 c16 c17 c18))
  ((try clear f2); (try clear c20 c21 c22 c23 c24 c25 c26 c27 c28))
  (go_upto_region 3 with fail; replace K := Lib.hid (K.out.alloc (Obj.vec 25 (cross v u))); generalize w2.heap.size = gg at *; refine out_keep K.out ?_; clear K; intro W K; replace K := Lib.hid K; clear w2)
  (have f1 := (K.out.vc (.tail _ (.tail _ (.head _)))).warm; have c10 := (K.out.vc (.tail _ (.tail _ (.head _)))).cell0; have c11 := (K.out.vc (.tail _ (.tail _ (.head _)))).cell1; have c12 := (K.out.vc (.tail _ (.tail _ (.head _)))).cell2; have c13 := (K.out.vc (.tail _ (.tail _ (.head _)))).cell3; have c14 := (K.out.vc (.tail _ (.tail _ (.head _)))).cell4; have c15 := (K.out.vc (.tail _ (.tail _ (.head _)))).cell5; have c16 := (K.out.vc (.tail _ (.tail _ (.head _)))).cell6; have c17 := (K.out.vc (.tail _ (.tail _ (.head _)))).cell7; have c18 := (K.out.vc (.tail _ (.tail _ (.head _)))).cell8)
  (have f2 := (K.out.vc (.head _)).warm; have c20 := (K.out.vc (.head _)).cell0; have c21 := (K.out.vc (.head _)).cell1; have c22 := (K.out.vc (.head _)).cell2; have c23 := (K.out.vc (.head _)).cell3; have c24 := (K.out.vc (.head _)).cell4; have c25 := (K.out.vc (.head _)).cell5; have c26 := (K.out.vc (.head _)).cell6; have c27 := (K.out.vc (.head _)).cell7; have c28 := (K.out.vc (.head _)).cell8)
  go_wp2_with fail
  (refine ((dot_any v (cross v u) _)).mono ?_; rintro e w2 ⟨rfl, hb⟩; replace K := Lib.hid (Keep.stays _ _ K.out hb); clear hb)
  ((try clear f1); (try clear c10 c11 c12 c13 c14 c15 c16 c17 c18))
  ((try clear f2); (try clear c20 c21 c22 c23 c24 c25 c26 c27 c28))
  go_wp2_with fail
  (refine ((P1.out _)).mono ?_; rintro e w2 ⟨rfl, hb⟩; replace K := Lib.hid (Keep.stays _ _ K.out hb); clear hb)
  (have f1 := (K.out.vc (.tail _ (.head _))).warm; have c10 := (K.out.vc (.tail _ (.head _))).cell0; have c11 := (K.out.vc (.tail _ (.head _))).cell1; have c12 := (K.out.vc (.tail _ (.head _))).cell2; have c13 := (K.out.vc (.tail _ (.head _))).cell3; have c14 := (K.out.vc (.tail _ (.head _))).cell4; have c15 := (K.out.vc (.tail _ (.head _))).cell5; have c16 := (K.out.vc (.tail _ (.head _))).cell6; have c17 := (K.out.vc (.tail _ (.head _))).cell7; have c18 := (K.out.vc (.tail _ (.head _))).cell8)
  (have f2 := (K.out.vc (.head _)).warm; have c20 := (K.out.vc (.head _)).cell0; have c21 := (K.out.vc (.head _)).cell1; have c22 := (K.out.vc (.head _)).cell2; have c23 := (K.out.vc (.head _)).cell3; have c24 := (K.out.vc (.head _)).cell4; have c25 := (K.out.vc (.head _)).cell5; have c26 := (K.out.vc (.head _)).cell6; have c27 := (K.out.vc (.head _)).cell7; have c28 := (K.out.vc (.head _)).cell8)
  go_wp2_with fail
  (refine ((dot_any u (cross v u) _)).mono ?_; rintro e w2 ⟨rfl, hb⟩; replace K := Lib.hid (Keep.stays _ _ K.out hb); clear hb)
  ((try clear f1); (try clear c10 c11 c12 c13 c14 c15 c16 c17 c18))
  ((try clear f2); (try clear c20 c21 c22 c23 c24 c25 c26 c27 c28))
  go_wp2_with fail
  (refine ((P2.out _)).mono ?_; rintro e w2 ⟨rfl, hb⟩; replace K := Lib.hid (Keep.stays _ _ K.out hb); clear hb)
  (go_wp2_with fail; (refine (((vof_any 0 0 0 _))).mono ?_; rintro e w2 ⟨rfl, hb⟩; replace K := Lib.hid (Keep.stays _ _ K.out hb); clear hb))
  (go_upto_region 6 with fail; replace K := Lib.hid (K.out.alloc (Obj.vec 25 (vof 0 0 0))); generalize w2.heap.size = gg at *; refine out_keep K.out ?_; clear K; intro W K; replace K := Lib.hid K; clear w2)
  go_wp2_with fail
  refine region_alloc _ (fun g => Keep w ((g, Obj.vec 25 ⟨vz, vz, vz⟩) :: _)) 5 _ (by kernel_rfl) rfl rfl rfl (by kernel_rfl) (by kernel_rfl) Keep.stays (fun g => Keep.more _ (fun g => (g, Obj.vec 25 ⟨vz, vz, vz⟩)) _ g) K.out.drew ?hA ?hE
  case hA =>
    intro a wa hw C hC
    go_simp
    exact hC _ _ (hw.alloc (Obj.vec 25 ⟨vz, vz, vz⟩))
  apply Exists.intro
  refine ⟨?hq, ?hQ⟩
  case hq =>
    intro S hS
    have HT := Lib.hid hS.1
    haveI ne := hS.ne
    (have c10 : ∀ p : At S, _ := fun p => ((hS.2.1 _ p.h).vc (.tail _ (.tail _ (.tail _ (.head _))))).cell0; have c11 : ∀ p : At S, _ := fun p => ((hS.2.1 _ p.h).vc (.tail _ (.tail _ (.tail _ (.head _))))).cell1; have c12 : ∀ p : At S, _ := fun p => ((hS.2.1 _ p.h).vc (.tail _ (.tail _ (.tail _ (.head _))))).cell2; have c13 : ∀ p : At S, _ := fun p => ((hS.2.1 _ p.h).vc (.tail _ (.tail _ (.tail _ (.head _))))).cell3; have c14 : ∀ p : At S, _ := fun p => ((hS.2.1 _ p.h).vc (.tail _ (.tail _ (.tail _ (.head _))))).cell4; have c15 : ∀ p : At S, _ := fun p => ((hS.2.1 _ p.h).vc (.tail _ (.tail _ (.tail _ (.head _))))).cell5; have c16 : ∀ p : At S, _ := fun p => ((hS.2.1 _ p.h).vc (.tail _ (.tail _ (.tail _ (.head _))))).cell6; have c17 : ∀ p : At S, _ := fun p => ((hS.2.1 _ p.h).vc (.tail _ (.tail _ (.tail _ (.head _))))).cell7; have c18 : ∀ p : At S, _ := fun p => ((hS.2.1 _ p.h).vc (.tail _ (.tail _ (.tail _ (.head _))))).cell8)
    (have c20 : ∀ p : At S, _ := fun p => ((hS.2.1 _ p.h).vc (.tail _ (.tail _ (.head _)))).cell0; have c21 : ∀ p : At S, _ := fun p => ((hS.2.1 _ p.h).vc (.tail _ (.tail _ (.head _)))).cell1; have c22 : ∀ p : At S, _ := fun p => ((hS.2.1 _ p.h).vc (.tail _ (.tail _ (.head _)))).cell2; have c23 : ∀ p : At S, _ := fun p => ((hS.2.1 _ p.h).vc (.tail _ (.tail _ (.head _)))).cell3; have c24 : ∀ p : At S, _ := fun p => ((hS.2.1 _ p.h).vc (.tail _ (.tail _ (.head _)))).cell4; have c25 : ∀ p : At S, _ := fun p => ((hS.2.1 _ p.h).vc (.tail _ (.tail _ (.head _)))).cell5; have c26 : ∀ p : At S, _ := fun p => ((hS.2.1 _ p.h).vc (.tail _ (.tail _ (.head _)))).cell6; have c27 : ∀ p : At S, _ := fun p => ((hS.2.1 _ p.h).vc (.tail _ (.tail _ (.head _)))).cell7; have c28 : ∀ p : At S, _ := fun p => ((hS.2.1 _ p.h).vc (.tail _ (.tail _ (.head _)))).cell8)
    (have c30 : ∀ p : At S, _ := fun p => ((hS.2.1 _ p.h).vc (.head _)).cell0; have c31 : ∀ p : At S, _ := fun p => ((hS.2.1 _ p.h).vc (.head _)).cell1; have c32 : ∀ p : At S, _ := fun p => ((hS.2.1 _ p.h).vc (.head _)).cell2; have c33 : ∀ p : At S, _ := fun p => ((hS.2.1 _ p.h).vc (.head _)).cell3; have c34 : ∀ p : At S, _ := fun p => ((hS.2.1 _ p.h).vc (.head _)).cell4; have c35 : ∀ p : At S, _ := fun p => ((hS.2.1 _ p.h).vc (.head _)).cell5; have c36 : ∀ p : At S, _ := fun p => ((hS.2.1 _ p.h).vc (.head _)).cell6; have c37 : ∀ p : At S, _ := fun p => ((hS.2.1 _ p.h).vc (.head _)).cell7; have c38 : ∀ p : At S, _ := fun p => ((hS.2.1 _ p.h).vc (.head _)).cell8)
    clear hS
    (simp only [List.take_succ_cons, List.take_zero, List.drop_succ_cons, List.drop_zero])
    repeat (go_big_quiet_step (first | (go_at_call 21; with_reducible exact At.call HT.out (cross_any u v _)) | (go_at_call 24; with_reducible exact At.call HT.out (D1.out _))))
    exact wpQuiet_nil rfl
  clear K
  intro g W K
  replace K := Lib.hid K
  (simp only [List.take_succ_cons, List.take_zero, List.drop_succ_cons, List.drop_zero])
  (have f1 := (K.out.vc (.head _)).warm; have c10 := (K.out.vc (.head _)).cell0; have c11 := (K.out.vc (.head _)).cell1; have c12 := (K.out.vc (.head _)).cell2; have c13 := (K.out.vc (.head _)).cell3; have c14 := (K.out.vc (.head _)).cell4; have c15 := (K.out.vc (.head _)).cell5; have c16 := (K.out.vc (.head _)).cell6; have c17 := (K.out.vc (.head _)).cell7; have c18 := (K.out.vc (.head _)).cell8)
  go_upto_region 7 with fail
  replace K := Lib.hid (K.out.putv_0 (cross v u))
  ((try clear f1); (try clear c10 c11 c12 c13 c14 c15 c16 c17 c18))
  (refine out_keep K.out ?_; clear K; intro W K; replace K := Lib.hid K)
  go_wp2_with fail
  refine region_alloc2 _ (fun g => Keep w ((g, Obj.box ⟨0, 0, false⟩) :: _)) 14 16 _ (by kernel_rfl) rfl rfl rfl (by kernel_rfl) (by kernel_rfl) Keep.stays (fun g => Keep.more _ (fun g => (g, Obj.box ⟨0, 0, false⟩)) _ g) K.out.drew ?hA2 ?hE2
  case hA2 =>
    intro a wa hw C hC
    go_simp
    exact hC _ _ (hw.alloc (Obj.box ⟨0, 0, false⟩))
  apply Exists.intro
  refine ⟨?hq2, ?hN2, ?hQ2⟩
  case hq2 =>
    intro S hS
    have HT := Lib.hid hS.1
    haveI ne := hS.ne
    (have c10 : ∀ p : At S, _ := fun p => ((hS.2.1 _ p.h).vc (.tail _ (.tail _ (.tail _ (.tail _ (.head _)))))).cell0; have c11 : ∀ p : At S, _ := fun p => ((hS.2.1 _ p.h).vc (.tail _ (.tail _ (.tail _ (.tail _ (.head _)))))).cell1; have c12 : ∀ p : At S, _ := fun p => ((hS.2.1 _ p.h).vc (.tail _ (.tail _ (.tail _ (.tail _ (.head _)))))).cell2; have c13 : ∀ p : At S, _ := fun p => ((hS.2.1 _ p.h).vc (.tail _ (.tail _ (.tail _ (.tail _ (.head _)))))).cell3; have c14 : ∀ p : At S, _ := fun p => ((hS.2.1 _ p.h).vc (.tail _ (.tail _ (.tail _ (.tail _ (.head _)))))).cell4; have c15 : ∀ p : At S, _ := fun p => ((hS.2.1 _ p.h).vc (.tail _ (.tail _ (.tail _ (.tail _ (.head _)))))).cell5; have c16 : ∀ p : At S, _ := fun p => ((hS.2.1 _ p.h).vc (.tail _ (.tail _ (.tail _ (.tail _ (.head _)))))).cell6; have c17 : ∀ p : At S, _ := fun p => ((hS.2.1 _ p.h).vc (.tail _ (.tail _ (.tail _ (.tail _ (.head _)))))).cell7; have c18 : ∀ p : At S, _ := fun p => ((hS.2.1 _ p.h).vc (.tail _ (.tail _ (.tail _ (.tail _ (.head _)))))).cell8)
    (have c20 : ∀ p : At S, _ := fun p => ((hS.2.1 _ p.h).vc (.tail _ (.tail _ (.tail _ (.head _))))).cell0; have c21 : ∀ p : At S, _ := fun p => ((hS.2.1 _ p.h).vc (.tail _ (.tail _ (.tail _ (.head _))))).cell1; have c22 : ∀ p : At S, _ := fun p => ((hS.2.1 _ p.h).vc (.tail _ (.tail _ (.tail _ (.head _))))).cell2; have c23 : ∀ p : At S, _ := fun p => ((hS.2.1 _ p.h).vc (.tail _ (.tail _ (.tail _ (.head _))))).cell3; have c24 : ∀ p : At S, _ := fun p => ((hS.2.1 _ p.h).vc (.tail _ (.tail _ (.tail _ (.head _))))).cell4; have c25 : ∀ p : At S, _ := fun p => ((hS.2.1 _ p.h).vc (.tail _ (.tail _ (.tail _ (.head _))))).cell5; have c26 : ∀ p : At S, _ := fun p => ((hS.2.1 _ p.h).vc (.tail _ (.tail _ (.tail _ (.head _))))).cell6; have c27 : ∀ p : At S, _ := fun p => ((hS.2.1 _ p.h).vc (.tail _ (.tail _ (.tail _ (.head _))))).cell7; have c28 : ∀ p : At S, _ := fun p => ((hS.2.1 _ p.h).vc (.tail _ (.tail _ (.tail _ (.head _))))).cell8)
    (have c30 : ∀ p : At S, _ := fun p => ((hS.2.1 _ p.h).vc (.tail _ (.tail _ (.head _)))).cell0; have c31 : ∀ p : At S, _ := fun p => ((hS.2.1 _ p.h).vc (.tail _ (.tail _ (.head _)))).cell1; have c32 : ∀ p : At S, _ := fun p => ((hS.2.1 _ p.h).vc (.tail _ (.tail _ (.head _)))).cell2; have c33 : ∀ p : At S, _ := fun p => ((hS.2.1 _ p.h).vc (.tail _ (.tail _ (.head _)))).cell3; have c34 : ∀ p : At S, _ := fun p => ((hS.2.1 _ p.h).vc (.tail _ (.tail _ (.head _)))).cell4; have c35 : ∀ p : At S, _ := fun p => ((hS.2.1 _ p.h).vc (.tail _ (.tail _ (.head _)))).cell5; have c36 : ∀ p : At S, _ := fun p => ((hS.2.1 _ p.h).vc (.tail _ (.tail _ (.head _)))).cell6; have c37 : ∀ p : At S, _ := fun p => ((hS.2.1 _ p.h).vc (.tail _ (.tail _ (.head _)))).cell7; have c38 : ∀ p : At S, _ := fun p => ((hS.2.1 _ p.h).vc (.tail _ (.tail _ (.head _)))).cell8)
    clear hS
    (simp only [List.take_succ_cons, List.take_zero, List.drop_succ_cons, List.drop_zero])
    repeat (go_big_quiet_step (first | (go_at_call 20; with_reducible exact At.call HT.out (norm2_any v _)) | (go_at_call 20; with_reducible exact At.call HT.out (norm2_any u _)) | (go_at_call 43; with_reducible exact At.call HT.out (mul_any (norm2 v) (norm2 u) _)) | (go_at_call 19; with_reducible exact At.call HT.out (dot_any v u _)) | (go_at_call 45; with_reducible exact At.call HT.out (sqr_any (dot v u) _)) | (go_at_call 20; with_reducible exact At.call HT.out (norm2_any (cross v u) _)) | (go_at_call 46; with_reducible exact At.call HT.out (add_any (sqr (dot v u)) (norm2 (cross v u)) _)) | (go_at_call 44; with_reducible exact At.call HT.out (P3.out _))))
    exact wpQuiet_nil rfl
  case hN2 =>
    clear K
    intro W K
    replace K := Lib.hid K
    show wpAny _ _ _ _ 5 #[true, true, true, true, true, true, true, true, true, true, true, true, true, true, false, false, false, false, false] _ _
    (refine take_at (i := 14) (d := 45) (v := mm.v) rfl rfl (by kernel_rfl) (by kernel_rfl) (by kernel_rfl) (fun _ _ _ h => h) (Or.inl ⟨by rfl, (by (intro w; go_simp; try (with_reducible rfl)))⟩) ?_; (try simp only [Act.put, List.setIfInBounds_toArray, List.set_cons_zero, List.set_cons_succ]))
    (refine take_at (i := 15) (d := 46) (v := (.bool true)) rfl rfl (by kernel_rfl) (by kernel_rfl) (by kernel_rfl) (fun _ _ _ h => h) (Or.inl ⟨by rfl, (by (intro w; go_simp; try (with_reducible rfl)))⟩) ?_; (try simp only [Act.put, List.setIfInBounds_toArray, List.set_cons_zero, List.set_cons_succ]))
    refine wpAny_of_seq (ops := _) [_, _, _] 16 _ _ _ (fun j => by rcases j with _ | _ | _ | j <;> first | rfl | (rw [List.getElem?_eq_none (by simp), Array.getElem?_eq_none (by simp; omega)])) (by kernel_rfl) ?_
    go_upto_region 8 with fail
    replace K := Lib.hid (K.out.alloc (Obj.box mm))
    generalize W.heap.size = gg at *
    (refine out_keep K.out ?_; clear K; intro W K; replace K := Lib.hid K)
    (have f1 := (K.out.vc (.tail _ (.head _))).warm; have c10 := (K.out.vc (.tail _ (.head _))).cell0; have c11 := (K.out.vc (.tail _ (.head _))).cell1; have c12 := (K.out.vc (.tail _ (.head _))).cell2; have c13 := (K.out.vc (.tail _ (.head _))).cell3; have c14 := (K.out.vc (.tail _ (.head _))).cell4; have c15 := (K.out.vc (.tail _ (.head _))).cell5; have c16 := (K.out.vc (.tail _ (.head _))).cell6; have c17 := (K.out.vc (.tail _ (.head _))).cell7; have c18 := (K.out.vc (.tail _ (.head _))).cell8)
    (have f2 := (K.out.vc (.tail _ (.tail _ (.tail _ (.head _))))).warm; have c20 := (K.out.vc (.tail _ (.tail _ (.tail _ (.head _))))).cell0; have c21 := (K.out.vc (.tail _ (.tail _ (.tail _ (.head _))))).cell1; have c22 := (K.out.vc (.tail _ (.tail _ (.tail _ (.head _))))).cell2; have c23 := (K.out.vc (.tail _ (.tail _ (.tail _ (.head _))))).cell3; have c24 := (K.out.vc (.tail _ (.tail _ (.tail _ (.head _))))).cell4; have c25 := (K.out.vc (.tail _ (.tail _ (.tail _ (.head _))))).cell5; have c26 := (K.out.vc (.tail _ (.tail _ (.tail _ (.head _))))).cell6; have c27 := (K.out.vc (.tail _ (.tail _ (.tail _ (.head _))))).cell7; have c28 := (K.out.vc (.tail _ (.tail _ (.tail _ (.head _))))).cell8)
    go_wp2_with fail
    go_ret
    exact ⟨rfl, K.out.B⟩
  case hQ2 =>
    clear K
    intro g W K
    replace K := Lib.hid K
    show wpAny _ _ _ _ 4 #[true, true, true, true, true, true, true, true, true, true, true, true, true, true, false, false, true, false, false] _ _
    (refine take_at (i := 14) (d := 45) (v := mm.v) rfl rfl (by kernel_rfl) (by kernel_rfl) (by kernel_rfl) (fun _ _ _ h => h) (Or.inl ⟨by rfl, (by (intro w; go_simp; try (with_reducible rfl)))⟩) ?_; (try simp only [Act.put, List.setIfInBounds_toArray, List.set_cons_zero, List.set_cons_succ]))
    (refine take_at (i := 15) (d := 46) (v := (.bool true)) rfl rfl (by kernel_rfl) (by kernel_rfl) (by kernel_rfl) (fun _ _ _ h => h) (Or.inl ⟨by rfl, (by (intro w; go_simp; try (with_reducible rfl)))⟩) ?_; (try simp only [Act.put, List.setIfInBounds_toArray, List.set_cons_zero, List.set_cons_succ]))
    refine wpAny_of_seq (ops := _) [_, _] 17 _ _ _ (fun j => by rcases j with _ | _ | j <;> first | rfl | (rw [List.getElem?_eq_none (by simp), Array.getElem?_eq_none (by simp; omega)])) (by kernel_rfl) ?_
    (have f1 := (K.out.sp (.head _)).warm; have c10 := (K.out.sp (.head _)).cell0; have c11 := (K.out.sp (.head _)).cell1; have c12 := (K.out.sp (.head _)).cell2)
    go_upto_region 8 with fail
    replace K := Lib.hid (K.out.put_0 mm)
    ((try clear f1); (try clear c10 c11 c12))
    (refine out_keep K.out ?_; clear K; intro W K; replace K := Lib.hid K)
    (have f1 := (K.out.vc (.tail _ (.head _))).warm; have c10 := (K.out.vc (.tail _ (.head _))).cell0; have c11 := (K.out.vc (.tail _ (.head _))).cell1; have c12 := (K.out.vc (.tail _ (.head _))).cell2; have c13 := (K.out.vc (.tail _ (.head _))).cell3; have c14 := (K.out.vc (.tail _ (.head _))).cell4; have c15 := (K.out.vc (.tail _ (.head _))).cell5; have c16 := (K.out.vc (.tail _ (.head _))).cell6; have c17 := (K.out.vc (.tail _ (.head _))).cell7; have c18 := (K.out.vc (.tail _ (.head _))).cell8)
    (have f2 := (K.out.vc (.tail _ (.tail _ (.tail _ (.head _))))).warm; have c20 := (K.out.vc (.tail _ (.tail _ (.tail _ (.head _))))).cell0; have c21 := (K.out.vc (.tail _ (.tail _ (.tail _ (.head _))))).cell1; have c22 := (K.out.vc (.tail _ (.tail _ (.tail _ (.head _))))).cell2; have c23 := (K.out.vc (.tail _ (.tail _ (.tail _ (.head _))))).cell3; have c24 := (K.out.vc (.tail _ (.tail _ (.tail _ (.head _))))).cell4; have c25 := (K.out.vc (.tail _ (.tail _ (.tail _ (.head _))))).cell5; have c26 := (K.out.vc (.tail _ (.tail _ (.tail _ (.head _))))).cell6; have c27 := (K.out.vc (.tail _ (.tail _ (.tail _ (.head _))))).cell7; have c28 := (K.out.vc (.tail _ (.tail _ (.tail _ (.head _))))).cell8)
    go_wp2_with fail
    go_ret
    exact ⟨rfl, K.out.B⟩
end Go.Proofs.Ytehjfjdopeadfaa
