/- The texts Vf, Vg of the walk of the law and of all that it calls, in one file. No condition. -/
import Derived.Test.YtmidifgnpjlgcaaGreatY19
import Derived.Test.YtmidifgnpjlgcaaGreatY18
/- The walk of square. -/
set_option linter.unusedVariables false
set_option linter.unusedSimpArgs false
namespace Go.Proofs.YtmidifgnpjlgcaaGreat
open Go.RowKit

theorem prod1000 {a b : Int} (a1 : -1000 ≤ a) (a2 : a ≤ 1000) (b1 : -1000 ≤ b) (b2 : b ≤ 1000) : -1000000 ≤ a * b ∧ a * b ≤ 1000000 := by
  have k : (a * b).natAbs ≤ 1000000 := by
    rw [Int.natAbs_mul]
    exact Nat.mul_le_mul (show a.natAbs ≤ 1000 by omega) (show b.natAbs ≤ 1000 by omega)
  omega
variable {w0 w : World} {l l2 : List (Nat × Obj)}
set_option maxHeartbeats 8000000 in
set_option maxRecDepth 100000 in
theorem square_any (B : Option Addr) (d n : Nat) (r : Rw) (w : World) (h : Iv w (.slice B n d) r.coef) (hr : RwOk r n) (h0 : 0 < n) :
    Calls Tryz.prog 51 #[.agg #[.slice B n d, .int .i64 r.z, .int .i64 r.knee, .int .i64 r.weight]] w fun e w' => QdR n 5 (fun i j => r.coef.getD i 0 * r.coef.getD j 0) (fun i => r.coef.getD i 0 * r.z) (r.z * r.z) e w' ∧ Below w.heap.size w w' := by
  obtain ⟨hln, hn, hco, ⟨z1, z2⟩, -, -⟩ := hr
  obtain ⟨A2, c2, hv, -, hh⟩ := h
  injection hv with e1 e2 e3
  subst e1
  clear e2 e3
  obtain ⟨-, p, rfl, -, -⟩ := hh 0 (by omega)
  have HI := Lib.hid (fun j (hj : j < n) => hh j (by omega))
  have HCO := Lib.hid hco
  have K := Lib.hid (Keep.begin2 w (.cells #[.slice (some p) n d, .int .i64 r.z, .int .i64 r.knee, .int .i64 r.weight] 70) (.cells #[.slice none 0 0, .slice none 0 0, .bool false, .slice none 0 0] 32))
  clear hh hco
  go_enter Tryz.func51, Tryz.ntmps51
  go_upto_region 1 with fail
  have x1 := Keep.acell (k := 1) K (.tail _ (.head _)) rfl
  refine region_float1 _ 9 ⟨8, 3, .cells #[.slice none 0 0, .slice none 0 0, .bool false, .slice none 0 0] 32⟩ [(1, 0), (0, 1), (1, 3), (0, 4), (2, 2), (2, 5), (2, 6), (1, 7)] (by kernel_rfl) (by kernel_rfl) ⟨_, rfl, rfl, rfl, fun a w => rfl, fun md e he => by simp at he⟩ (fun _ _ d _ _ => by cases d <;> exact Iff.rfl) Keep.stays K.out.drew ?_; clear K; intro W K hbw; replace K := Lib.hid K; have K0 := K; clear hbw
  (refine Ph.pure rfl (by rfl) ?_; apply Exists.intro; refine ⟨fun w => ?_, ?_⟩; (focus (go_simp; (try (with_reducible rfl)); done)); (try simp only [Act.put, List.setIfInBounds_toArray, List.set_cons_zero, List.set_cons_succ]))
  (refine Ph.read rfl (by rfl) ?_; apply Exists.intro; refine ⟨fun p => ?_, ?_⟩; (focus (go_simp; (try (with_reducible rfl)); done)); (try simp only [Act.put, List.setIfInBounds_toArray, List.set_cons_zero, List.set_cons_succ]))
  (refine Ph.pure rfl (by rfl) ?_; apply Exists.intro; refine ⟨fun w => ?_, ?_⟩; (focus (go_simp; (try (with_reducible rfl)); done)); (try simp only [Act.put, List.setIfInBounds_toArray, List.set_cons_zero, List.set_cons_succ]))
  (refine Ph.read rfl (by rfl) ?_; apply Exists.intro; refine ⟨fun p => ?_, ?_⟩; (focus (go_simp; (try (with_reducible rfl)); done)); (try simp only [Act.put, List.setIfInBounds_toArray, List.set_cons_zero, List.set_cons_succ]))
  clear x1
  (refine Ph.call (f := 19) (args := (#[.int .i64 r.z])) rfl (by rfl) (by (intro w2; go_simp; try (with_reducible rfl))) ?_; intro w2 hb; replace K := Lib.hid (Keep.stays _ _ K.out hb))
  clear hb
  refine (int_nz r.z _ (by omega) (by omega)).mono ?_
  rintro e w3 ⟨q1, A1, l1, c1, rfl, hN1, hb⟩
  (refine ⟨_, rfl, hb, ?_⟩; replace K := Lib.hid (Keep.stays _ _ K.out hb); (try simp only [Act.put, List.setIfInBounds_toArray, List.set_cons_zero, List.set_cons_succ]))
  clear hb
  (refine Ph.call (f := 19) (args := (#[.int .i64 r.z])) rfl (by rfl) (by (intro w2; go_simp; try (with_reducible rfl))) ?_; intro w2 hb; replace K := Lib.hid (Keep.stays _ _ K.out hb))
  replace hN1 := hN1.below hb
  clear hb
  refine (int_nz r.z _ (by omega) (by omega)).mono ?_
  rintro e w4 ⟨q2, A2, l2, c2, rfl, hN2, hb⟩
  (refine ⟨_, rfl, hb, ?_⟩; replace K := Lib.hid (Keep.stays _ _ K.out hb); (try simp only [Act.put, List.setIfInBounds_toArray, List.set_cons_zero, List.set_cons_succ]))
  replace hN1 := hN1.below hb
  clear hb
  (refine Ph.call (f := 23) (args := (#[.agg #[.bool q1, .slice A1 l1 c1], .agg #[.bool q2, .slice A2 l2 c2]])) rfl (by rfl) (by (intro w2; go_simp; try (with_reducible rfl))) ?_; intro w2 hb; replace K := Lib.hid (Keep.stays _ _ K.out hb))
  replace hN1 := hN1.below hb
  replace hN2 := hN2.below hb
  clear hb
  refine (mul_nz hN1 hN2 (by omega) (by omega)).mono ?_
  rintro e w5 ⟨q3, A3, l3, c3, rfl, hN3, hb⟩
  (refine ⟨_, rfl, hb, ?_⟩; replace K := Lib.hid (Keep.stays _ _ K.out hb); (try simp only [Act.put, List.setIfInBounds_toArray, List.set_cons_zero, List.set_cons_succ]))
  clear hb hN1 hN2
  (refine Ph.pure rfl (by rfl) ?_; apply Exists.intro; refine ⟨fun w => ?_, ?_⟩; (focus (go_simp; (try (with_reducible rfl)); done)); (try simp only [Act.put, List.setIfInBounds_toArray, List.set_cons_zero, List.set_cons_succ]))
  (intro w2 hb ob hg hge; replace K := Lib.hid (K0.out.held (Keep.stays _ _ K.out hb) hg hge); clear hg hge K0; simp only [ptr, List.drop_succ_cons, List.drop_zero, Act.put, List.setIfInBounds_toArray, List.set_cons_zero, List.set_cons_succ])
  have H3 := Lib.hid (hN3.below hb)
  clear hb hN3
  refine wpList_store_row rfl 32 _ _ rfl ob _ rfl rfl 32 _ (K.out.gb (.head _)) (by kernel_rfl) rfl (by kernel_rfl) ?_
  simp only [Act.put]
  have K2 := Lib.hid (K.out.setRow [] #[.slice none 0 0, .slice none 0 0, .bool q3, .slice A3 l3 c3] rfl)
  have ht := K.out.tagq (g := ob) (a := .slice none 0 0) (.head _) (fun z e => by cases e)
  have hT := Turn.row w2 ob #[.slice none 0 0, .slice none 0 0, .bool q3, .slice A3 l3 c3]
  replace H3 := Lib.hid (H3.out.turn hT ht.2)
  clear ht hT K
  have K := K2
  clear K2
  refine out_with (B := fun W => Nz W q3 (.slice A3 l3 c3) (r.z * r.z) 5) K.out H3.out ?_
  clear K H3
  intro W9 K hall
  replace K := Lib.hid K
  have H3 := Lib.hid hall
  clear hall
  have y0 := K.out.cell (k := 0) (.tail _ (.tail _ (.head _))) rfl
  go_wp2_with fail
  clear y0
  obtain ⟨base, hbase⟩ : ∃ base, base = W9.heap.size := ⟨_, rfl⟩
  have HLT : Hid (ob < base ∧ w.heap.size + 1 < base ∧ w.heap.size < base) := Lib.hid (by rw [hbase]; exact ⟨K.out.lt (.head _), K.out.lt (.tail _ (.head _)), K.out.lt (.tail _ (.tail _ (.head _)))⟩)
  have hw0 : Hid (w.heap.size ≤ base) := Lib.hid (Nat.le_of_lt HLT.out.2.2)
  go_loopg [20] n (fun gk iv wr => ∃ (i : Nat) (OA : Option Addr) (oc : Nat) (TA : Option Addr) (tc : Nat) (vs : List Value) (L : List Nm), gk + i = n ∧ iv = .int .i64 (i : Int) ∧ (vs.length = i ∧ L.length = i) ∧ Bq wr base n 5 (.slice OA i oc) vs (fun i j => r.coef.getD i 0 * r.coef.getD j 0) (.slice TA i tc) L (fun i => r.coef.getD i 0 * r.z) ∧ Nz wr q3 (.slice A3 l3 c3) (r.z * r.z) 5 ∧ Keep w ([(ob, Obj.cells #[(.slice OA i oc), (.slice TA i tc), .bool q3, .slice A3 l3 c3] 32), (w.heap.size + 1, Obj.cells #[.slice none 0 0, .slice none 0 0, .bool false, .slice none 0 0] 32), (w.heap.size, Obj.cells #[.slice (some p) n d, .int .i64 r.z, .int .i64 r.knee, .int .i64 r.weight] 70)]) wr ∧ base ≤ wr.heap.size)
  case atStart => exact ⟨0, none, 0, none, 0, [], [], by omega, rfl, ⟨rfl, rfl⟩, Bq.nil _ _ _ _ _ _, H3.out, K.out, by rw [hbase]; exact Nat.le_refl _⟩
  case round =>
    clear K H3 hbase
    obtain ⟨i, OA, oc, TA, tc, vs, L, hgi, rfl, ⟨hvl, hLl⟩, hB, hnum, k, hsz⟩ := hrel
    have K := Lib.hid k
    have HB := Lib.hid hB
    have HNU := Lib.hid hnum
    have HSZ := Lib.hid hsz
    clear k hB hnum hsz
    by_cases hi : i < n
    · obtain ⟨-, p2, hp2, hlt1, hx1⟩ := HI.out i hi
      cases hp2
      have e1 := (K.out.B.cell (p := p.add i) (by rw [add_block]; exact hlt1)).trans hx1
      obtain ⟨a1, a2⟩ := HCO.out i hi
      obtain ⟨a, haa⟩ : ∃ a, r.coef.getD i 0 = a := ⟨_, rfl⟩
      have HAA := Lib.hid haa
      rw [haa] at e1 a1 a2
      clear hx1 haa
      have y3 := K.out.cell (k := 0) (.tail _ (.tail _ (.head _))) rfl
      go_upto_region 5 with fail
      clear e1 y3
      have y1 := Keep.acell (k := 1) K (.head _) rfl
      have y2 := Keep.acell (k := 1) K (.tail _ (.tail _ (.head _))) rfl
      (refine region_ord _ 10 (by kernel_rfl) (by kernel_rfl) K.out.drew ?_; clear K; intro W K hbw; replace K := Lib.hid K)
      replace HB := Lib.hid (HB.out.below hbw)
      replace HNU := Lib.hid (HNU.out.below hbw)
      replace HSZ := Lib.hid (Nat.le_trans HSZ.out hbw.size)
      clear hbw
      (refine Ord.take' 0 rfl (by kernel_rfl) (fun _ _ _ _ h => h) K.out (by rfl) ?_; apply Exists.intro; refine ⟨fun p => ?_, ?_⟩; (focus (go_simp; (try (with_reducible rfl)); done)); (try simp only [Act.put, List.setIfInBounds_toArray, List.set_cons_zero, List.set_cons_succ]))
      (refine Ord.take' 1 rfl (by kernel_rfl) (fun _ _ _ _ h => h) K.out (by rfl) ?_; apply Exists.intro; refine ⟨fun p => ?_, ?_⟩; (focus (go_simp; (try (with_reducible rfl)); done)); (try simp only [Act.put, List.setIfInBounds_toArray, List.set_cons_zero, List.set_cons_succ]))
      (refine Ord.take' 2 rfl (by kernel_rfl) (fun _ _ _ _ h => h) K.out (by rfl) ?_; apply Exists.intro; refine ⟨fun p => ?_, ?_⟩; (focus (go_simp; (try (with_reducible rfl)); done)); (try simp only [Act.put, List.setIfInBounds_toArray, List.set_cons_zero, List.set_cons_succ]))
      (refine Ord.take' 4 rfl (by kernel_rfl) (fun _ _ _ _ h => h) K.out (by rfl) ?_; apply Exists.intro; refine ⟨fun p => ?_, ?_⟩; (focus (go_simp; (try (with_reducible rfl)); done)); (try simp only [Act.put, List.setIfInBounds_toArray, List.set_cons_zero, List.set_cons_succ]))
      (refine Ord.take' 5 rfl (by kernel_rfl) (fun _ _ _ _ h => h) K.out (by rfl) ?_; apply Exists.intro; refine ⟨fun p => ?_, ?_⟩; (focus (go_simp; (try (with_reducible rfl)); done)); (try simp only [Act.put, List.setIfInBounds_toArray, List.set_cons_zero, List.set_cons_succ]))
      clear y1 y2
      (refine Ord.call 3 (g := 19) (args := (#[.int .i64 a])) rfl (by kernel_rfl) (by rfl) (by (go_simp; try (with_reducible rfl))) ?_)
      refine (int_nz a _ (by omega) (by omega)).mono ?_
      rintro e W10 ⟨q5, A5, l5, c5, rfl, hN5, hb⟩
      (refine ⟨_, rfl, Keep.stays _ _ K.out hb, ?_⟩; replace K := Lib.hid (Keep.stays _ _ K.out hb); simp only [Act.put, List.setIfInBounds_toArray, List.set_cons_zero, List.set_cons_succ])
      replace HB := Lib.hid (HB.out.below hb)
      replace HNU := Lib.hid (HNU.out.below hb)
      replace HSZ := Lib.hid (Nat.le_trans HSZ.out hb.size)
      clear hb
      (refine Ord.call 6 (g := 19) (args := (#[.int .i64 r.z])) rfl (by kernel_rfl) (by rfl) (by (go_simp; try (with_reducible rfl))) ?_)
      refine (int_nz r.z _ (by omega) (by omega)).mono ?_
      rintro e W8 ⟨q6, A6, l6, c6, rfl, hN6, hb⟩
      (refine ⟨_, rfl, Keep.stays _ _ K.out hb, ?_⟩; replace K := Lib.hid (Keep.stays _ _ K.out hb); simp only [Act.put, List.setIfInBounds_toArray, List.set_cons_zero, List.set_cons_succ])
      replace hN5 := hN5.below hb
      replace HB := Lib.hid (HB.out.below hb)
      replace HNU := Lib.hid (HNU.out.below hb)
      replace HSZ := Lib.hid (Nat.le_trans HSZ.out hb.size)
      clear hb
      (refine Ord.call 7 (g := 23) (args := (#[.agg #[.bool q5, .slice A5 l5 c5], .agg #[.bool q6, .slice A6 l6 c6]])) rfl (by kernel_rfl) (by rfl) (by (go_simp; try (with_reducible rfl))) ?_)
      refine (mul_nz hN5 hN6 (by omega) (by omega)).mono ?_
      rintro e W11 ⟨q4, A4, l4, c4, rfl, hN4, hb⟩
      (refine ⟨_, rfl, Keep.stays _ _ K.out hb, ?_⟩; replace K := Lib.hid (Keep.stays _ _ K.out hb); simp only [Act.put, List.setIfInBounds_toArray, List.set_cons_zero, List.set_cons_succ])
      replace HB := Lib.hid (HB.out.below hb)
      replace HNU := Lib.hid (HNU.out.below hb)
      replace HSZ := Lib.hid (Nat.le_trans HSZ.out hb.size)
      clear hb hN5 hN6
      have KC := Lib.hid (K.out.alloc (.cells #[.bool q4, .slice A4 l4 c4] 30))
      obtain ⟨v', W12, hrun, hB2, hs2, hkp, hnz2⟩ := HB.out.appQ 27 ⟨q4, A4, l4, c4⟩ (by rw [hLl, HAA.out]; exact hN4) (by omega) HSZ.out
      have hK12 := hkp w _ K.out (fun p hp => (by simp only [List.mem_cons, List.not_mem_nil, or_false] at hp; rcases hp with rfl | rfl | rfl; exact HLT.out.1; exact HLT.out.2.1; exact HLT.out.2.2)) hw0.out
      refine Ord.lay 8 (v := .slice (some ⟨W11.heap.size, 0, none⟩) 1 1) rfl (by kernel_rfl) (by rfl) (by (go_simp; try (with_reducible rfl))) KC.out.rest ?_
      simp only [Act.put, List.setIfInBounds_toArray, List.set_cons_zero, List.set_cons_succ]
      refine Ord.lay 9 (v := v') rfl (by kernel_rfl) (by rfl) (exec_append (.tmp 25) (.tmp 32) 27 rfl hrun) hK12 ?_
      simp only [Act.put, List.setIfInBounds_toArray, List.set_cons_zero, List.set_cons_succ]
      replace HB := Lib.hid hB2
      replace HNU := Lib.hid (hnz2 HNU.out)
      replace HSZ := Lib.hid (Nat.le_trans HSZ.out hs2)
      replace K := Lib.hid hK12
      clear hN4 KC hrun hB2 hs2 hkp hnz2 hK12
      (refine Ord.done (by kernel_rfl) ?_; simp only [List.drop_succ_cons, List.drop_zero, Act.put, List.setIfInBounds_toArray, List.set_cons_zero, List.set_cons_succ])
      obtain ⟨VA, vc, rfl⟩ := HB.out.own.sl
      have hLl2 : (L ++ [(⟨q4, A4, l4, c4⟩ : Nm)]).length = i + 1 := by rw [List.length_append, hLl]; rfl
      rw [hLl2] at HB ⊢
      have y0 := K.out.cell (k := 1) (.head _) rfl
      have fy := K.out.warm (.head _) 1
      go_upto_region 6 with fail
      clear y0 fy
      have ht := K.out.tagq (g := ob) (a := .slice OA i oc) (.head _) (fun z e => by cases e)
      have hT := Turn.set W12 ob 1 (.slice VA (i + 1) vc)
      replace HB := Lib.hid (HB.out.turn hT ht.1 (by decide) (by decide) ht.2)
      replace HNU := Lib.hid (HNU.out.turn hT ht.2)
      replace HSZ := Lib.hid (Nat.le_trans HSZ.out hT.1)
      replace K := Lib.hid (K.out.set_0 1 (.slice VA (i + 1) vc))
      simp only [List.setIfInBounds_toArray, List.set_cons_zero, List.set_cons_succ] at K
      clear ht hT
      refine out_with (B := fun W => Bq W base n 5 (.slice OA i oc) vs (fun i j => r.coef.getD i 0 * r.coef.getD j 0) (.slice VA (i + 1) vc) (L ++ [⟨q4, A4, l4, c4⟩]) (fun i => r.coef.getD i 0 * r.z) ∧ Nz W q3 (.slice A3 l3 c3) (r.z * r.z) 5 ∧ base ≤ W.heap.size) K.out ⟨HB.out, HNU.out, HSZ.out⟩ ?_
      clear K HB HNU HSZ
      intro W13 K hall
      replace K := Lib.hid K
      have HB := Lib.hid hall.1
      have HNU := Lib.hid hall.2.1
      have HSZ := Lib.hid hall.2.2
      clear hall
      have y0 := K.out.cell (k := 0) (.tail _ (.tail _ (.head _))) rfl
      have KR := Lib.hid (Keep.start W13)
      have HQLT := Lib.hid HB.out.own.lt
      go_wp2_with fail
      clear y0
      go_loopg [6, 38] n (fun gk rv jv wr2 => ∃ (j : Nat) (RA : Option Addr) (rc : Nat) (LR : List Nm), gk + j = n ∧ jv = .int .i64 (j : Int) ∧ rv = .slice RA j rc ∧ LR.length = j ∧ Lwn wr2 W13.heap.size (.slice RA j rc) LR ∧ Els wr2 LR 5 (fun j => r.coef.getD i 0 * r.coef.getD j 0) ∧ Keep W13 [] wr2)
      case atStart => exact ⟨0, none, 0, [], by omega, rfl, rfl, rfl, Lwn.nil _ _, Els.nil _ _ _, KR.out⟩
      case round =>
        clear KR
        obtain ⟨j, RA, rc, LR, hgj, rfl, rfl, hlr, hown, hels, k⟩ := hrel
        have KR := Lib.hid k
        have HO := Lib.hid hown
        have HE := Lib.hid hels
        have K1 := Lib.hid (Keep.stays _ _ K.out KR.out.B)
        clear k hown hels
        by_cases hj : j < n
        · obtain ⟨-, p3, hp3, hlt3, hx3⟩ := HI.out j hj
          cases hp3
          have e1 := (K1.out.B.cell (p := p.add j) (by rw [add_block]; exact hlt3)).trans hx3
          obtain ⟨b1, b2⟩ := HCO.out j hj
          obtain ⟨b, hbb⟩ : ∃ b, r.coef.getD j 0 = b := ⟨_, rfl⟩
          have HBB := Lib.hid hbb
          rw [hbb] at e1 b1 b2
          clear hx3 hbb
          obtain ⟨m1, m2⟩ := prod1000 a1 a2 b1 b2
          have hw : IntKind.i64.wrap (a * b) = a * b := IntWalk.i64_in _ (by omega)
          go_wp2_with fail
          refine (int_nz (a * b) _ (by omega) (by omega)).mono ?_
          rintro e W15 ⟨q6, A6, l6, c6, rfl, hN6, hb⟩
          replace KR := Lib.hid (Keep.stays _ _ KR.out hb)
          replace HO := Lib.hid (HO.out.below hb)
          replace HE := Lib.hid (HE.out.below hb)
          clear hb e1 K1 hw
          obtain ⟨v', W16, hrun, hlw, hT, -, hkp⟩ := app1n 27 W13.heap.size (.slice RA j rc) LR ⟨q6, A6, l6, c6⟩ HO.out (by omega) KR.out.B.size
          have HRUN := Lib.hid hrun
          have hE2 := (HE.out.turnO hT HO.out.2).snoc ⟨q6, A6, l6, c6⟩ (by rw [hlr, HAA.out, HBB.out]; exact (hN6.turn hT HO.out.2).more (by omega))
          have KR2 := Lib.hid (hkp W13 [] KR.out (fun p hp => by cases hp) (Nat.le_refl _))
          have HO2 := Lib.hid hlw
          have HE2 := Lib.hid hE2
          obtain ⟨VA9, vc9, rfl⟩ := hlw.sl
          have hlr2 : (LR ++ [(⟨q6, A6, l6, c6⟩ : Nm)]).length = j + 1 := by rw [List.length_append, hlr]; rfl
          rw [hlr2] at HO2 HRUN
          clear hrun hlw hT hkp hE2 hN6 HO HE KR
          go_wp2_with (at_builtin; refine wpList_exec rfl (exec_append (.tmp 42) (.tmp 47) 27 rfl HRUN.out) ?_)
          clear HRUN
          go_roundg (n - j - 1)
          case measure => omega
          case rel => exact ⟨j + 1, VA9, vc9, _, by omega, congrArg (Value.int .i64) (by omega), rfl, hlr2, HO2.out, HE2.out, KR2.out⟩
        · have hje : j = n := by omega
          subst hje
          have hjz : ¬ (j : Int) < (j : Int) := by omega
          have hbr := KR.out.B
          replace HB := Lib.hid (HB.out.below hbr)
          have HQL : Hid (∀ k, (Value.slice VA (i + 1) vc).ownBlock = some k → (Value.slice RA j rc).ownBlock ≠ some k) := Lib.hid (fun k hk e => by
            have h1 := HQLT.out k hk
            have h2 := HO.out.base k e
            omega)
          have HX : Hid (Lr wr (.slice RA j rc) j 5 (fun k => r.coef.getD i 0 * r.coef.getD k 0)) := Lib.hid ⟨LR, ⟨owns_mono HO.out.1 (Nat.zero_le _), HO.out.2⟩, hlr, HE.out⟩
          replace HNU := Lib.hid (HNU.out.below hbr)
          replace HSZ := Lib.hid (Nat.le_trans HSZ.out hbr.size)
          clear K HO HE KR hbr HQLT
          obtain ⟨v', W17, hrun, hB2, hs2, hkp, hnz2⟩ := HB.out.appP 26 (by rw [hvl]; exact HX.out) HQL.out (by omega) HSZ.out
          have K := Lib.hid (hkp w _ K1.out (fun p hp => (by simp only [List.mem_cons, List.not_mem_nil, or_false] at hp; rcases hp with rfl | rfl | rfl; exact HLT.out.1; exact HLT.out.2.1; exact HLT.out.2.2)) hw0.out)
          have HRUN := Lib.hid hrun
          replace HB := Lib.hid hB2
          replace HNU := Lib.hid (hnz2 HNU.out)
          replace HSZ := Lib.hid (Nat.le_trans HSZ.out hs2)
          obtain ⟨VP, vpc, rfl, -⟩ := hB2.rows.at
          have hvl2 : (vs ++ [Value.slice RA j rc]).length = i + 1 := by rw [List.length_append, hvl]; rfl
          rw [hvl2] at HB HRUN
          clear hrun hB2 hs2 hkp hnz2 HX HQL
          have y0 := K1.out.cell (k := 0) (.head _) rfl
          have y1 := K.out.cell (k := 0) (.head _) rfl
          have fy := K.out.warm (.head _) 0
          go_wp2_with (at_builtin; refine wpList_exec rfl (exec_append (.tmp 51) (.tmp 53) 26 rfl HRUN.out) ?_)
          clear y0 y1 fy HRUN K1
          have ht := K.out.tagq (g := ob) (a := .slice OA i oc) (.head _) (fun z e => by cases e)
          have hT := Turn.set W17 ob 0 (.slice VP (i + 1) vpc)
          replace HB := Lib.hid (HB.out.turn hT ht.1 (by decide) (by decide) ht.2)
          replace HNU := Lib.hid (HNU.out.turn hT ht.2)
          replace HSZ := Lib.hid (Nat.le_trans HSZ.out hT.1)
          replace K := Lib.hid (K.out.set_0 0 (.slice VP (i + 1) vpc))
          simp only [List.setIfInBounds_toArray, List.set_cons_zero, List.set_cons_succ] at K
          clear ht hT
          go_roundg (j - i - 1)
          case measure => omega
          case rel => exact ⟨i + 1, VP, vpc, VA, vc, _, _, by omega, congrArg (Value.int .i64) (by omega), ⟨hvl2, hLl2⟩, HB.out, HNU.out, K.out, HSZ.out⟩
    · have hie : i = n := by omega
      subst hie
      have hiz : ¬ (i : Int) < (i : Int) := by omega
      go_upto_region 14 with fail
      go_step
      refine wpList_load_row rfl 32 _ rfl ob rfl 32 _ (0, 0) _ (K.out.gb (.head _)) Tryz.underlying32 rfl (by kernel_rfl) ?_
      simp only [Act.put, List.setIfInBounds_toArray, List.set_cons_zero, List.set_cons_succ]
      refine wpList_store_row rfl 32 _ _ rfl (w.heap.size + 1) _ rfl rfl 32 _ (K.out.gb (.tail _ (.head _))) (by kernel_rfl) rfl (by kernel_rfl) ?_
      simp only [Act.put]
      have K2 := Lib.hid (K.out.setRow [_] #[.slice OA i oc, .slice TA i tc, .bool q3, .slice A3 l3 c3] rfl)
      have ht := K.out.tagq (g := w.heap.size + 1) (a := .slice none 0 0) (.tail _ (.head _)) (fun z e => by cases e)
      have hT := Turn.row wr (w.heap.size + 1) #[.slice OA i oc, .slice TA i tc, .bool q3, .slice A3 l3 c3]
      replace HB := Lib.hid (HB.out.turn hT ht.1 (by decide) (by decide) ht.2)
      replace HNU := Lib.hid (HNU.out.turn hT ht.2)
      clear ht hT K
      go_wp2_with fail
      refine ret_qd Tryz.results51 rfl (K2.out.gb (.tail _ (.head _))) ?_
      exact ⟨⟨_, _, _, _, rfl, HB.out.done hvl hLl HNU.out⟩, K2.out.B⟩
end Go.Proofs.YtmidifgnpjlgcaaGreat
/- The walk of Whole. -/
set_option linter.unusedVariables false
set_option linter.unusedSimpArgs false
namespace Go.Proofs.YtmidifgnpjlgcaaGreat
open Go.RowKit

/-- The rows' lists may be cut. -/
def Caps (w : World) (v : Value) (rs : List Rw) : Prop := ∀ b off c, v = .slice (some ⟨b, off, none⟩) rs.length c → ∀ j, j < rs.length → ∃ B d, w.cell? ⟨b, off + j * 4, none⟩ = some (.slice B (rs.getD j Rw.zero).coef.length d) ∧ (rs.getD j Rw.zero).coef.length ≤ d
/-- How much of a row counts. -/
def twt (xs : List Int) (k : Nat) (r : Rw) : Int := if nonz (r.coef.take k) = true then 1 * (r.weight * share r xs) else 0
def whP (rs : List Rw) (xs : List Int) (k m i j : Nat) : Int := sumTo (fun l => ((rs.getD l Rw.zero).coef.getD i 0 * (rs.getD l Rw.zero).coef.getD j 0) * twt xs k (rs.getD l Rw.zero)) m
def whQ (rs : List Rw) (xs : List Int) (k m i : Nat) : Int := sumTo (fun l => ((rs.getD l Rw.zero).coef.getD i 0 * (rs.getD l Rw.zero).z) * twt xs k (rs.getD l Rw.zero)) m
def whC (rs : List Rw) (xs : List Int) (k m : Nat) : Int := sumTo (fun l => ((rs.getD l Rw.zero).z * (rs.getD l Rw.zero).z) * twt xs k (rs.getD l Rw.zero)) m
theorem Lr.more {w : World} {x : Value} {m N N' : Nat} {f f' : Nat → Int} (h : Lr w x m N f) (hN : N ≤ N') (hf : ∀ j, j < m → f j = f' j) : Lr w x m N' f' := by
  obtain ⟨L, h1, h2, h3⟩ := h
  exact ⟨L, h1, h2, h3.more hN (fun j hj => hf j (by rw [← h2]; exact hj))⟩
theorem Mo27.more {w : World} {v : Value} {n N N' : Nat} {f f' : Nat → Nat → Int} (h : Mo27 w v n N f) (hN : N ≤ N') (hf : ∀ i j, i < n → j < n → f i j = f' i j) : Mo27 w v n N' f' := by
  obtain ⟨vs, h1, h2, h3⟩ := h
  exact ⟨vs, h1, h2, fun j hj => (h3 j hj).more hN (fun i hi => hf j i (by rw [← h2]; exact hj) hi)⟩
theorem Qo.more {w : World} {vp vq cs : Value} {cn : Bool} {n N N' : Nat} {P P' : Nat → Nat → Int} {q q' : Nat → Int} {c c' : Int} (h : Qo w vp vq cn cs n N P q c) (hN : N ≤ N') (hP : ∀ i j, i < n → j < n → P i j = P' i j) (hq : ∀ i, i < n → q i = q' i) (hc : c = c') : Qo w vp vq cn cs n N' P' q' c' := by
  subst hc
  exact ⟨h.1.more hN hP, h.2.1.more hN hq, h.2.2.more hN⟩
theorem Qo.turn {w w' : World} {vp vq cs : Value} {cn : Bool} {n N : Nat} {P : Nat → Nat → Int} {q : Nat → Int} {c : Int} {g : Nat} {e : TypeId} (h : Qo w vp vq cn cs n N P q c) (hT : Turn (some g) w w') (ho : Tagged w (some g) e) (h27 : e ≠ 27) (h30 : e ≠ 30) (hc : ∀ k, some g = some k → ∀ z, w.cell? ⟨k, 0, none⟩ ≠ some (.int .u32 z)) : Qo w' vp vq cn cs n N P q c :=
  ⟨h.1.turn hT ho h30 h27 hc, h.2.1.turnE h30 hT ho hc, h.2.2.turn hT hc⟩
theorem Qo.qg {w : World} {vp vq cs : Value} {cn : Bool} {n N : Nat} {P : Nat → Nat → Int} {q : Nat → Int} {c : Int} (h : Qo w vp vq cn cs n N P q c) : Qg w vp vq cn cs n N P q c := ⟨h.1.mv, h.2.1.lv, h.2.2⟩
theorem Keep.sub {w0 w : World} {l l' : List (Nat × Obj)} (K : Keep w0 l w) (h : l'.Sublist l) : Keep w0 l' w :=
  ⟨fun p hp => K.box p (h.subset hp), fun p hp => K.own p (h.subset hp), (h.map Prod.fst).nodup K.one, K.B⟩
theorem Lwn.neNum {w : World} {base g : Nat} {v : Value} {L : List Nm} {b : Bool} {s : Value} (h : Lwn w base v L) (hl : 2 ≤ L.length) (hg : w.heap[g]? = some (Obj.num b s)) : v.ownBlock ≠ some g := by
  intro e
  rcases h.1.2 with ⟨rfl, _⟩ | ⟨k, cap, cur, rfl, hb, hh, hn, hm, hcur, htake⟩
  · simp [Value.ownBlock] at e
  · have : k = g := by simpa [Value.ownBlock] using e
    subst this
    rw [hg] at hh
    injection hh with hh
    injection hh with hh
    rw [← hh] at hcur
    simp at hcur
    omega
theorem Lr.turnNum {w w' : World} {x : Value} {m N g : Nat} {f : Nat → Int} {b : Bool} {s : Value} (h : Lr w x m N f) (hm : 2 ≤ m) (hg : w.heap[g]? = some (Obj.num b s)) (hT : Turn (some g) w w') (hc : ∀ k, some g = some k → ∀ z, w.cell? ⟨k, 0, none⟩ ≠ some (.int .u32 z)) : Lr w' x m N f := by
  obtain ⟨L, h1, h2, h3⟩ := h
  exact ⟨L, h1.turnNe hT (fun k hk => by cases hk; exact h1.neNum (by omega) hg), h2, h3.turnO hT hc⟩
theorem Qo.turnNum {w w' : World} {vp vq cs : Value} {cn : Bool} {n N : Nat} {P : Nat → Nat → Int} {q : Nat → Int} {c : Int} {g : Nat} {b : Bool} {s : Value} (h : Qo w vp vq cn cs n N P q c) (hn : 2 ≤ n) (hg : w.heap[g]? = some (Obj.num b s)) (hT : Turn (some g) w w') : Qo w' vp vq cn cs n N P q c := by
  have hc : ∀ k, some g = some k → ∀ z, w.cell? ⟨k, 0, none⟩ ≠ some (.int .u32 z) := by
    intro k hk z e
    cases hk
    rw [cellOf (cur := #[.bool b, s]) (t := 30) hg] at e
    cases e
  have ht : Tagged w (some g) 30 := fun k hk => by cases hk; exact ⟨_, hg⟩
  obtain ⟨⟨vs, h1, h2, h3⟩, h4, h5⟩ := h
  exact ⟨⟨vs, h1.turn hT ht (by decide), h2, h3.mono fun j x _ hx => hx.turnNum hn hg hT hc⟩, h4.turnNum hn hg hT hc, h5.turn hT hc⟩
theorem ret_wh {fn : Func} {p q g k : Nat} {tmps : Array Value} {w : World} {a b c d m s : Value} {R : Ending → World → Prop} (h : fn.results = #[.cell p 32, .cell q 30]) (hp : tmps.getD p undef = .pointer (some ⟨g, 0, none⟩)) (hq : tmps.getD q undef = .pointer (some ⟨k, 0, none⟩))
    (hb : w.heap[g]? = some (.cells #[a, b, c, d] 32)) (hk : w.heap[k]? = some (.cells #[m, s] 30)) (hR : R (.returned (.tuple #[.agg #[a, b, c, d], .agg #[m, s]])) w) : bodyPost Tryz.prog fn R .ret { tmps := tmps, defers := [] } w := by
  refine bodyPost_ret ?_ rfl hR
  have hp' : tmps[p]?.getD undef = .pointer (some ⟨g, 0, none⟩) := by simpa using hp
  have hq' : tmps[q]?.getD undef = .pointer (some ⟨k, 0, none⟩) := by simpa using hq
  have e1 := run_loadVar_row (P := Tryz.prog) w g 32 32 _ _ _ hb Tryz.underlying32 rfl (by kernel_rfl)
  have e2 := run_loadVar_row (P := Tryz.prog) w k 30 30 _ _ _ hk Tryz.underlying30 rfl (by kernel_rfl)
  simp [results, h, hp', hq', asAddr, e1, e2]
/-- What Whole tells. -/
def WhR (rs : List Rw) (xs : List Int) (n k : Nat) (e : Ending) (w' : World) : Prop := ∃ up uq un us on os, e = .returned (.tuple #[.agg #[up, uq, .bool un, us], .agg #[.bool on, os]]) ∧ Qo w' up uq un us n (12 + rs.length) (whP rs xs k rs.length) (whQ rs xs k rs.length) (whC rs xs k rs.length) ∧ Nz w' on os 1024 5

theorem wsh_in {a b : Int} (a1 : 1 ≤ a) (a2 : a ≤ 100) (b1 : 0 ≤ b) (b2 : b ≤ 33554432) : 0 ≤ a * b ∧ a * b ≤ 3355443200 :=
  ⟨Int.mul_nonneg (by omega) b1, by have := Int.mul_le_mul a2 b2 b1 (by decide); omega⟩
variable {w0 w : World} {l l2 : List (Nat × Obj)}
set_option maxHeartbeats 8000000 in
set_option maxRecDepth 100000 in
theorem whole_any (rv pv qv cs ds t : Value) (cn dn : Bool) (n k : Nat) (rs : List Rw) (xs : List Int) (w : World) (h : Gz w rv pv qv cn cs dn ds n rs) (hcap : Caps w rv rs) (hx : Sta w t xs n) (hk0 : 0 < k) (hk : k < n) :
    Calls Tryz.prog 18 #[.agg #[.int .i64 n, rv, pv, qv, .bool cn, cs, .bool dn, ds], t, .int .i64 k] w fun e w' => WhR rs xs n k e w' ∧ Below w.heap.size w w' := by
  obtain ⟨CA, cl, cc, rfl⟩ := h.2.2.1.2.2.sl
  obtain ⟨DA, dl, dc, rfl⟩ := h.2.2.2.1.sl
  have HG := Lib.hid h; have HX := Lib.hid hx; have HCP := Lib.hid hcap
  obtain ⟨hl60, hn11⟩ := h.2.2.2.2
  obtain ⟨RA, rc, rfl, -, hrows⟩ := h.1
  obtain ⟨PA, pc, rfl, -⟩ := h.2.2.1.1
  obtain ⟨QA, qc, rfl, -⟩ := h.2.2.1.2.1
  obtain ⟨XA, xc, rfl, -⟩ := hx.1
  have HR := Lib.hid hrows
  have K := Lib.hid (Keep.begin3 w (.cells (#[.int .i64 n, .slice RA rs.length rc, .slice PA n pc, .slice QA n qc, .bool cn, .slice CA cl cc, .bool dn, .slice DA dl dc]) 34) (.cells #[.slice none 0 0, .slice none 0 0, .bool false, .slice none 0 0] 32) (Obj.num false (.slice none 0 0)))
  clear h hx hcap hrows
  go_enter Tryz.func18, Tryz.ntmps18
  go_upto_region 1 with fail
  (have x0 := Keep.acell (k := 0) K (.tail _ (.tail _ (.head _))) rfl; have x1 := Keep.acell (k := 1) K (.tail _ (.tail _ (.head _))) rfl; have x2 := Keep.acell (k := 2) K (.tail _ (.tail _ (.head _))) rfl; have x3 := Keep.acell (k := 3) K (.tail _ (.tail _ (.head _))) rfl; have x4 := Keep.acell (k := 4) K (.tail _ (.tail _ (.head _))) rfl; have x5 := Keep.acell (k := 5) K (.tail _ (.tail _ (.head _))) rfl; have x6 := Keep.acell (k := 6) K (.tail _ (.tail _ (.head _))) rfl; have x7 := Keep.acell (k := 7) K (.tail _ (.tail _ (.head _))) rfl)
  refine region_float1 _ 5 ⟨4, 8, .cells #[.slice none 0 0, .slice none 0 0, .bool false, .slice none 0 0] 32⟩ [(1, 0), (0, 1), (2, 2), (2, 3)] (by kernel_rfl) (by kernel_rfl) ⟨_, rfl, rfl, rfl, fun a w => rfl, fun md e he => by simp at he⟩ (fun _ _ d _ _ => by cases d <;> exact Iff.rfl) Keep.stays K.out.drew ?_; clear K; intro W K hbw; replace K := Lib.hid K; have K0 := K; clear hbw
  (refine Ph.pure rfl (by rfl) ?_; apply Exists.intro; refine ⟨fun w => ?_, ?_⟩; (focus (go_simp; (try (with_reducible rfl)); done)); (try simp only [Act.put, List.setIfInBounds_toArray, List.set_cons_zero, List.set_cons_succ]))
  (refine Ph.read rfl (by rfl) ?_; apply Exists.intro; refine ⟨fun p => ?_, ?_⟩; (focus (go_simp; (try (with_reducible rfl)); done)); (try simp only [Act.put, List.setIfInBounds_toArray, List.set_cons_zero, List.set_cons_succ]))
  clear x0 x1 x2 x3 x4 x5 x6 x7
  (refine Ph.call (f := 19) (args := (#[.int .i64 1024])) rfl (by rfl) (by (intro w2; go_simp; try (with_reducible rfl))) ?_; intro w2 hb; replace K := Lib.hid (Keep.stays _ _ K.out hb))
  clear hb
  refine (int_nz 1024 _ (by decide) (by decide)).mono ?_
  rintro e w3 ⟨q1, A1, l1, c1, rfl, hN1, hb⟩
  (refine ⟨_, rfl, hb, ?_⟩; replace K := Lib.hid (Keep.stays _ _ K.out hb); (try simp only [Act.put, List.setIfInBounds_toArray, List.set_cons_zero, List.set_cons_succ]))
  clear hb
  (refine Ph.call (f := 49) (args := (#[.agg #[.slice PA n pc, .slice QA n qc, .bool cn, .slice CA cl cc], .agg #[.bool q1, .slice A1 l1 c1]])) rfl (by rfl) (by (intro w2; go_simp; try (with_reducible rfl))) ?_; intro w2 hb; replace K := Lib.hid (Keep.stays _ _ K.out hb))
  replace hN1 := hN1.below hb
  clear hb
  refine (scaled_any _ _ _ _ cn q1 n 0 2 _ _ _ 1024 _ (HG.out.2.2.1.below K.out.B) hN1 hn11 (by omega) (by omega)).mono ?_
  rintro e w4 ⟨⟨up, uq, un, us, rfl, hQ⟩, hb⟩
  (refine ⟨_, rfl, hb, ?_⟩; replace K := Lib.hid (Keep.stays _ _ K.out hb); (try simp only [Act.put, List.setIfInBounds_toArray, List.set_cons_zero, List.set_cons_succ]))
  clear hb hN1
  (intro w2 hb ob hg hge; replace K := Lib.hid (K0.out.held (Keep.stays _ _ K.out hb) hg hge); clear hg hge K0; simp only [ptr, List.drop_succ_cons, List.drop_zero, Act.put, List.setIfInBounds_toArray, List.set_cons_zero, List.set_cons_succ])
  have HQ := Lib.hid (hQ.below hb)
  clear hb hQ
  obtain ⟨UP, upc, rfl, -⟩ := HQ.out.1.mv
  obtain ⟨UQ, uqc, rfl, -⟩ := HQ.out.2.1.lv
  obtain ⟨US, usl, usc, rfl⟩ := HQ.out.2.2.sl
  refine wpList_store_row rfl 32 _ _ rfl ob _ rfl rfl 32 _ (K.out.gb (.head _)) (by kernel_rfl) rfl (by kernel_rfl) ?_
  simp only [Act.put]
  have K2 := Lib.hid (K.out.setRow [] #[.slice UP n upc, .slice UQ n uqc, .bool un, .slice US usl usc] rfl)
  have ht := K.out.tagq (g := ob) (a := .slice none 0 0) (.head _) (fun z e => by cases e)
  have hT := Turn.row w2 ob #[.slice UP n upc, .slice UQ n uqc, .bool un, .slice US usl usc]
  replace HQ := Lib.hid (HQ.out.turn hT ht.1 (by decide) (by decide) ht.2)
  clear ht hT K
  have K := K2
  clear K2
  refine out_with (B := fun W => Qo W (.slice UP n upc) (.slice UQ n uqc) un (.slice US usl usc) n 3 (fun i j => 0 * 1024) (fun i => 0 * 1024) (0 * 1024)) K.out HQ.out ?_
  clear K HQ
  intro W9 K hall
  replace K := Lib.hid K
  have HQ := Lib.hid hall
  clear hall
  have y1 := K.out.cell (k := 1) (.tail _ (.tail _ (.tail _ (.head _)))) rfl
  go_wp2_with fail
  clear y1
  go_loopg [18] rs.length (fun gk iv wr => ∃ (i : Nat) (OP : Option Addr) (opc : Nat) (OQ : Option Addr) (oqc : Nat) (on : Bool) (OS : Option Addr) (osl osc : Nat), gk + i = rs.length ∧ iv = .int .i64 (i : Int) ∧ Qo wr (.slice OP n opc) (.slice OQ n oqc) on (.slice OS osl osc) n (12 + i) (whP rs xs k i) (whQ rs xs k i) (whC rs xs k i) ∧ Keep w ([(ob, (Obj.cells #[.slice OP n opc, .slice OQ n oqc, .bool on, .slice OS osl osc] 32)), (w.heap.size + 1 + 1, Obj.num false (.slice none 0 0)), (w.heap.size + 1, Obj.cells #[.slice none 0 0, .slice none 0 0, .bool false, .slice none 0 0] 32), (w.heap.size, Obj.cells (#[.int .i64 n, .slice RA rs.length rc, .slice PA n pc, .slice QA n qc, .bool cn, .slice CA cl cc, .bool dn, .slice DA dl dc]) 34)]) wr)
  case atStart => exact ⟨0, UP, upc, UQ, uqc, un, US, usl, usc, by omega, rfl, HQ.out.more (by omega) (fun i j _ _ => rfl) (fun i _ => rfl) rfl, K.out⟩
  case round =>
    clear K HQ
    obtain ⟨i, OP, opc, OQ, oqc, on, OS, osl, osc, hgi, rfl, hQ, kk⟩ := hrel
    have K := Lib.hid kk
    have HQ := Lib.hid hQ
    clear kk hQ
    by_cases hi : i < rs.length
    · obtain ⟨b, off, B, d, rfl, hlt, hI, c0, c1, c2, c3⟩ := HR.out i hi
      obtain ⟨B', d', hc0, hcd⟩ := HCP.out b off rc rfl i hi
      rw [c0] at hc0
      injection hc0 with hc0
      injection hc0 with hB' _ hd'
      subst hB' hd'
      have hmem : rs.getD i Rw.zero ∈ rs := by rw [List.getD_eq_getElem?_getD, List.getElem?_eq_getElem hi]; exact List.getElem_mem hi
      have hok := HG.out.2.1 _ hmem
      have HPS : Hid (∀ a b, whP rs xs k (i + 1) a b = whP rs xs k i a b + ((rs.getD i Rw.zero).coef.getD a 0 * (rs.getD i Rw.zero).coef.getD b 0) * twt xs k (rs.getD i Rw.zero)) := Lib.hid (fun a b => rfl)
      have HQS : Hid (∀ a, whQ rs xs k (i + 1) a = whQ rs xs k i a + ((rs.getD i Rw.zero).coef.getD a 0 * (rs.getD i Rw.zero).z) * twt xs k (rs.getD i Rw.zero)) := Lib.hid (fun a => rfl)
      have HCS : Hid (whC rs xs k (i + 1) = whC rs xs k i + ((rs.getD i Rw.zero).z * (rs.getD i Rw.zero).z) * twt xs k (rs.getD i Rw.zero)) := Lib.hid rfl
      clear hmem
      generalize rs.getD i Rw.zero = r at *
      have hrn := hok.1
      rw [hrn] at hI c0 hcd
      have e0 := (K.out.B.cell (p := ⟨b, off + i * 4, none⟩) hlt).trans c0
      have e1 := (K.out.B.cell (p := ⟨b, off + i * 4 + 1, none⟩) hlt).trans c1
      have e2 := (K.out.B.cell (p := ⟨b, off + i * 4 + 2, none⟩) hlt).trans c2
      have e3 := (K.out.B.cell (p := ⟨b, off + i * 4 + 3, none⟩) hlt).trans c3
      have HI := Lib.hid hI; have HOK := Lib.hid hok
      clear hI c0 c1 c2 c3 hok
      go_upto_region 5 with fail
      clear e0 e1 e2 e3
      replace K := Lib.hid (K.out.alloc (Obj.cells #[.slice B n d, .int .i64 r.z, .int .i64 r.knee, .int .i64 r.weight] 70))
      replace HQ := Lib.hid (HQ.out.below (Ext.alloc wr (Obj.cells #[.slice B n d, .int .i64 r.z, .int .i64 r.knee, .int .i64 r.weight] 70)))
      generalize wr.heap.size = xb at *
      generalize wr.alloc _ = W10 at *
      have r0 := K.out.cell (k := 0) (.head _) rfl
      have r1 := K.out.cell (k := 1) (.head _) rfl
      have r2 := K.out.cell (k := 2) (.head _) rfl
      have r3 := K.out.cell (k := 3) (.head _) rfl
      go_wp2_with fail
      refine (touches_any B d n k r _ (HI.out.below K.out.B) hrn hcd hk0 (by omega) hn11).mono ?_
      rintro e w5 ⟨rfl, hb⟩
      replace K := Lib.hid (Keep.stays _ _ K.out hb)
      replace HQ := Lib.hid (HQ.out.below hb)
      clear hb r0 r1 r2 r3
      cases hnz : nonz (r.coef.take k)
      · have hz : twt xs k r = 0 := by unfold twt; rw [if_neg (by rw [hnz]; decide)]
        go_wp2_with fail
        go_roundg (gk - 1)
        case measure => omega
        case rel => exact ⟨i + 1, OP, opc, OQ, oqc, on, OS, osl, osc, by omega, congrArg (Value.int .i64) (by omega), HQ.out.more (by omega) (fun a b _ _ => by rw [HPS.out, hz, Int.mul_zero, Int.add_zero]) (fun a _ => by rw [HQS.out, hz, Int.mul_zero, Int.add_zero]) (by rw [HCS.out, hz, Int.mul_zero, Int.add_zero]), K.out.rest⟩
      · have HTW : Hid (twt xs k r = 1 * (r.weight * share r xs)) := Lib.hid (by unfold twt; rw [if_pos hnz])
        clear hnz
        go_upto_region 6 with fail
        (refine region_ord _ 16 (by kernel_rfl) (by kernel_rfl) K.out.drew ?_; clear K; intro W K hbw; replace K := Lib.hid K)
        replace HQ := Lib.hid (HQ.out.below hbw)
        clear hbw
        have y0 := Keep.acell (k := 0) K (.tail _ (.head _)) rfl; have y1 := Keep.acell (k := 1) K (.tail _ (.head _)) rfl; have y2 := Keep.acell (k := 2) K (.tail _ (.head _)) rfl; have y3 := Keep.acell (k := 3) K (.tail _ (.head _)) rfl
        (refine Ord.take' 0 rfl (by kernel_rfl) (fun _ _ _ _ h => h) K.out (by rfl) ?_; apply Exists.intro; refine ⟨fun p => ?_, ?_⟩; (focus (go_simp; (try (with_reducible rfl)); done)); (try simp only [Act.put, List.setIfInBounds_toArray, List.set_cons_zero, List.set_cons_succ]))
        clear y0 y1 y2 y3
        have r0 := Keep.acell (k := 0) K (.head _) rfl; have r1 := Keep.acell (k := 1) K (.head _) rfl; have r2 := Keep.acell (k := 2) K (.head _) rfl; have r3 := Keep.acell (k := 3) K (.head _) rfl
        (refine Ord.take' 1 rfl (by kernel_rfl) (fun _ _ _ _ h => h) K.out (by rfl) ?_; apply Exists.intro; refine ⟨fun p => ?_, ?_⟩; (focus (go_simp; (try (with_reducible rfl)); done)); (try simp only [Act.put, List.setIfInBounds_toArray, List.set_cons_zero, List.set_cons_succ]))
        (refine Ord.take' 5 rfl (by kernel_rfl) (fun _ _ _ _ h => h) K.out (by rfl) ?_; apply Exists.intro; refine ⟨fun p => ?_, ?_⟩; (focus (go_simp; (try (with_reducible rfl)); done)); (try simp only [Act.put, List.setIfInBounds_toArray, List.set_cons_zero, List.set_cons_succ]))
        (refine Ord.take' 6 rfl (by kernel_rfl) (fun _ _ _ _ h => h) K.out (by rfl) ?_; apply Exists.intro; refine ⟨fun p => ?_, ?_⟩; (focus (go_simp; (try (with_reducible rfl)); done)); (try simp only [Act.put, List.setIfInBounds_toArray, List.set_cons_zero, List.set_cons_succ]))
        (refine Ord.take' 8 rfl (by kernel_rfl) (fun _ _ _ _ h => h) K.out (by rfl) ?_; apply Exists.intro; refine ⟨fun p => ?_, ?_⟩; (focus (go_simp; (try (with_reducible rfl)); done)); (try simp only [Act.put, List.setIfInBounds_toArray, List.set_cons_zero, List.set_cons_succ]))
        clear r0 r1 r2 r3
        have x0 := Keep.acell (k := 0) K ((.tail _ (.tail _ (.tail _ (.tail _ (.head _)))))) rfl; have x1 := Keep.acell (k := 1) K ((.tail _ (.tail _ (.tail _ (.tail _ (.head _)))))) rfl; have x2 := Keep.acell (k := 2) K ((.tail _ (.tail _ (.tail _ (.tail _ (.head _)))))) rfl; have x3 := Keep.acell (k := 3) K ((.tail _ (.tail _ (.tail _ (.tail _ (.head _)))))) rfl; have x4 := Keep.acell (k := 4) K ((.tail _ (.tail _ (.tail _ (.tail _ (.head _)))))) rfl; have x5 := Keep.acell (k := 5) K ((.tail _ (.tail _ (.tail _ (.tail _ (.head _)))))) rfl; have x6 := Keep.acell (k := 6) K ((.tail _ (.tail _ (.tail _ (.tail _ (.head _)))))) rfl; have x7 := Keep.acell (k := 7) K ((.tail _ (.tail _ (.tail _ (.tail _ (.head _)))))) rfl
        (refine Ord.take' 3 rfl (by kernel_rfl) (fun _ _ _ _ h => h) K.out (by rfl) ?_; apply Exists.intro; refine ⟨fun p => ?_, ?_⟩; (focus (go_simp; (try (with_reducible rfl)); done)); (try simp only [Act.put, List.setIfInBounds_toArray, List.set_cons_zero, List.set_cons_succ]))
        (refine Ord.take' 4 rfl (by kernel_rfl) (fun _ _ _ _ h => h) K.out (by rfl) ?_; apply Exists.intro; refine ⟨fun p => ?_, ?_⟩; (focus (go_simp; (try (with_reducible rfl)); done)); (try simp only [Act.put, List.setIfInBounds_toArray, List.set_cons_zero, List.set_cons_succ]))
        (refine Ord.take' 7 rfl (by kernel_rfl) (fun _ _ _ _ h => h) K.out (by rfl) ?_; apply Exists.intro; refine ⟨fun p => ?_, ?_⟩; (focus (go_simp; (try (with_reducible rfl)); done)); (try simp only [Act.put, List.setIfInBounds_toArray, List.set_cons_zero, List.set_cons_succ]))
        (refine Ord.take' 9 rfl (by kernel_rfl) (fun _ _ _ _ h => h) K.out (by rfl) ?_; apply Exists.intro; refine ⟨fun p => ?_, ?_⟩; (focus (go_simp; (try (with_reducible rfl)); done)); (try simp only [Act.put, List.setIfInBounds_toArray, List.set_cons_zero, List.set_cons_succ]))
        clear x0 x1 x2 x3 x4 x5 x6 x7
        (refine Ord.call 2 (g := 51) (args := (#[.agg #[.slice B n d, .int .i64 r.z, .int .i64 r.knee, .int .i64 r.weight]])) rfl (by kernel_rfl) (by rfl) (by (go_simp; try (with_reducible rfl))) ?_)
        refine (square_any B d n r _ (HI.out.below K.out.B) HOK.out (by omega)).mono ?_
        rintro e W11 ⟨⟨sp, sq, sn, ss, rfl, hS⟩, hb⟩
        (refine ⟨_, rfl, Keep.stays _ _ K.out hb, ?_⟩; replace K := Lib.hid (Keep.stays _ _ K.out hb); simp only [Act.put, List.setIfInBounds_toArray, List.set_cons_zero, List.set_cons_succ])
        replace HQ := Lib.hid (HQ.out.below hb)
        clear hb
        (refine Ord.call 10 (g := 52) (args := (#[.agg #[.int .i64 n, .slice (some ⟨b, off, none⟩) rs.length rc, .slice PA n pc, .slice QA n qc, .bool cn, .slice CA cl cc, .bool dn, .slice DA dl dc], .agg #[.slice B n d, .int .i64 r.z, .int .i64 r.knee, .int .i64 r.weight], .slice XA xs.length xc])) rfl (by kernel_rfl) (by rfl) (by (go_simp; try (with_reducible rfl))) ?_)
        refine (share_any _ _ _ r n xs _ _ _ _ _ _ _ _ _ rfl (HI.out.below K.out.B) HOK.out (HX.out.1.below K.out.B) HX.out.2.1 HX.out.2.2).mono ?_
        rintro e W12 ⟨rfl, hb⟩
        (refine ⟨_, rfl, Keep.stays _ _ K.out hb, ?_⟩; replace K := Lib.hid (Keep.stays _ _ K.out hb); simp only [Act.put, List.setIfInBounds_toArray, List.set_cons_zero, List.set_cons_succ])
        replace HQ := Lib.hid (HQ.out.below hb)
        replace hS := hS.below hb
        clear hb
        obtain ⟨s1, s2⟩ := share_in HOK.out xs
        obtain ⟨w1, w2'⟩ := HOK.out.2.2.2.2.2
        generalize share r xs = sh at *
        obtain ⟨m1, m2⟩ := wsh_in w1 w2' s1 s2
        have hw : IntKind.i64.wrap (r.weight * sh) = r.weight * sh := IntWalk.i64_in _ (by omega)
        (refine Ord.take' 11 rfl (by kernel_rfl) (fun _ _ _ _ h => h) K.out (by rfl) ?_; apply Exists.intro; refine ⟨fun p => ?_, ?_⟩; (focus (go_simp; (try (with_reducible rfl)); done)); (try simp only [Act.put, List.setIfInBounds_toArray, List.set_cons_zero, List.set_cons_succ]))
        clear hw
        (refine Ord.call 12 (g := 19) (args := (#[.int .i64 (r.weight * sh)])) rfl (by kernel_rfl) (by rfl) (by (go_simp; try (with_reducible rfl))) ?_)
        refine (int_nz (r.weight * sh) _ (by omega) (by omega)).mono ?_
        rintro e W13 ⟨q4, A4, l4, c4, rfl, hN4, hb⟩
        (refine ⟨_, rfl, Keep.stays _ _ K.out hb, ?_⟩; replace K := Lib.hid (Keep.stays _ _ K.out hb); simp only [Act.put, List.setIfInBounds_toArray, List.set_cons_zero, List.set_cons_succ])
        replace HQ := Lib.hid (HQ.out.below hb)
        replace hS := hS.below hb
        clear hb
        (refine Ord.call 13 (g := 23) (args := (#[.agg #[.bool dn, .slice DA dl dc], .agg #[.bool q4, .slice A4 l4 c4]])) rfl (by kernel_rfl) (by rfl) (by (go_simp; try (with_reducible rfl))) ?_)
        refine (mul_nz (HG.out.2.2.2.1.below K.out.B) hN4 (by omega) (by omega)).mono ?_
        rintro e W14 ⟨q5, A5, l5, c5, rfl, hN5, hb⟩
        (refine ⟨_, rfl, Keep.stays _ _ K.out hb, ?_⟩; replace K := Lib.hid (Keep.stays _ _ K.out hb); simp only [Act.put, List.setIfInBounds_toArray, List.set_cons_zero, List.set_cons_succ])
        replace HQ := Lib.hid (HQ.out.below hb)
        replace hS := hS.below hb
        clear hb hN4
        (refine Ord.call 14 (g := 49) (args := (#[.agg #[sp, sq, .bool sn, ss], .agg #[.bool q5, .slice A5 l5 c5]])) rfl (by kernel_rfl) (by rfl) (by (go_simp; try (with_reducible rfl))) ?_)
        refine (scaled_any _ _ _ _ sn q5 n 5 5 _ _ _ _ _ hS.qg hN5 hn11 (by omega) (by omega)).mono ?_
        rintro e W15 ⟨⟨tp, tq, tn, ts, rfl, hS2⟩, hb⟩
        (refine ⟨_, rfl, Keep.stays _ _ K.out hb, ?_⟩; replace K := Lib.hid (Keep.stays _ _ K.out hb); simp only [Act.put, List.setIfInBounds_toArray, List.set_cons_zero, List.set_cons_succ])
        replace HQ := Lib.hid (HQ.out.below hb)
        clear hb hS hN5
        (refine Ord.call 15 (g := 50) (args := (#[.agg #[.slice OP n opc, .slice OQ n oqc, .bool on, .slice OS osl osc], .agg #[tp, tq, .bool tn, ts]])) rfl (by kernel_rfl) (by rfl) (by (go_simp; try (with_reducible rfl))) ?_)
        refine (qadd_any _ _ _ _ _ _ on tn n (12 + i) 11 _ _ _ _ _ _ _ HQ.out hS2 (by omega) hn11 (by omega) (by omega)).mono ?_
        rintro e W16 ⟨⟨vp, vq, vn, vs, rfl, hS3⟩, hb⟩
        (refine ⟨_, rfl, Keep.stays _ _ K.out hb, ?_⟩; replace K := Lib.hid (Keep.stays _ _ K.out hb); simp only [Act.put, List.setIfInBounds_toArray, List.set_cons_zero, List.set_cons_succ])
        clear hb HQ hS2
        have HQ := Lib.hid hS3
        obtain ⟨VP, vpc, rfl, -⟩ := hS3.1.mv
        obtain ⟨VQ, vqc, rfl, -⟩ := hS3.2.1.lv
        obtain ⟨VS, vsl, vsc, rfl⟩ := hS3.2.2.sl
        clear hS3
        (refine Ord.done (by kernel_rfl) ?_; simp only [List.drop_succ_cons, List.drop_zero, Act.put, List.setIfInBounds_toArray, List.set_cons_zero, List.set_cons_succ])
        refine wpList_store_row rfl 32 _ _ rfl ob _ rfl rfl 32 _ (K.out.gb (.tail _ (.head _))) (by kernel_rfl) rfl (by kernel_rfl) ?_
        simp only [Act.put]
        have K2 := Lib.hid (K.out.setRow [_] #[.slice VP n vpc, .slice VQ n vqc, .bool vn, .slice VS vsl vsc] rfl)
        have ht := K.out.tagq (g := ob) (a := .slice OP n opc) (.tail _ (.head _)) (fun z e => by cases e)
        have hT := Turn.row W16 ob #[.slice VP n vpc, .slice VQ n vqc, .bool vn, .slice VS vsl vsc]
        replace HQ := Lib.hid (HQ.out.turn hT ht.1 (by decide) (by decide) ht.2)
        clear ht hT K
        go_wp2_with fail
        go_roundg (rs.length - i - 1)
        case measure => omega
        case rel => exact ⟨i + 1, VP, vpc, VQ, vqc, vn, VS, vsl, vsc, by omega, congrArg (Value.int .i64) (by omega), HQ.out.more (by omega) (fun a b _ _ => by rw [HPS.out, HTW.out]) (fun a _ => by rw [HQS.out, HTW.out]) (by rw [HCS.out, HTW.out]), K2.out.rest⟩
    · have hie : i = rs.length := by omega
      subst hie
      have hiz : ¬ (rs.length : Int) < (rs.length : Int) := by omega
      have hn2 : 2 ≤ n := by omega
      have KF := K
      replace K : Hid (Keep w [(ob, (Obj.cells #[.slice OP n opc, .slice OQ n oqc, .bool on, .slice OS osl osc] 32)), (w.heap.size, Obj.cells (#[.int .i64 n, .slice RA rs.length rc, .slice PA n pc, .slice QA n qc, .bool cn, .slice CA cl cc, .bool dn, .slice DA dl dc]) 34)] wr) := Lib.hid (KF.out.sub (.cons_cons _ (.cons _ (.cons _ (.cons_cons _ .slnil)))))
      go_upto_region 8 with fail
      (refine region_ord _ 7 (by kernel_rfl) (by kernel_rfl) K.out.drew ?_; clear K; intro W K hbw; replace K := Lib.hid K)
      replace KF := Lib.hid (Keep.stays _ _ KF.out hbw)
      replace HQ := Lib.hid (HQ.out.below hbw)
      clear hbw
      have y0 := Keep.acell (k := 0) K (.head _) rfl; have y1 := Keep.acell (k := 1) K (.head _) rfl; have y2 := Keep.acell (k := 2) K (.head _) rfl; have y3 := Keep.acell (k := 3) K (.head _) rfl
      have x6 := Keep.acell (k := 6) K (.tail _ (.head _)) rfl; have x7 := Keep.acell (k := 7) K (.tail _ (.head _)) rfl
      (refine Ord.take' 0 rfl (by kernel_rfl) (fun _ _ _ _ h => h) K.out (by rfl) ?_; apply Exists.intro; refine ⟨fun p => ?_, ?_⟩; (focus (go_simp; (try (with_reducible rfl)); done)); (try simp only [Act.put, List.setIfInBounds_toArray, List.set_cons_zero, List.set_cons_succ]))
      (refine Ord.take' 1 rfl (by kernel_rfl) (fun _ _ _ _ h => h) K.out (by rfl) ?_; apply Exists.intro; refine ⟨fun p => ?_, ?_⟩; (focus (go_simp; (try (with_reducible rfl)); done)); (try simp only [Act.put, List.setIfInBounds_toArray, List.set_cons_zero, List.set_cons_succ]))
      (refine Ord.take' 2 rfl (by kernel_rfl) (fun _ _ _ _ h => h) K.out (by rfl) ?_; apply Exists.intro; refine ⟨fun p => ?_, ?_⟩; (focus (go_simp; (try (with_reducible rfl)); done)); (try simp only [Act.put, List.setIfInBounds_toArray, List.set_cons_zero, List.set_cons_succ]))
      clear y0 y1 y2 y3 x6 x7
      (refine Ord.call 3 (g := 19) (args := (#[.int .i64 1024])) rfl (by kernel_rfl) (by rfl) (by (go_simp; try (with_reducible rfl))) ?_)
      refine (int_nz 1024 _ (by decide) (by decide)).mono ?_
      rintro e W11 ⟨q1, A1, l1, c1, rfl, hN1, hb⟩
      (refine ⟨_, rfl, Keep.stays _ _ K.out hb, ?_⟩; replace K := Lib.hid (Keep.stays _ _ K.out hb); simp only [Act.put, List.setIfInBounds_toArray, List.set_cons_zero, List.set_cons_succ])
      replace KF := Lib.hid (Keep.stays _ _ KF.out hb)
      replace HQ := Lib.hid (HQ.out.below hb)
      clear hb
      (refine Ord.call 4 (g := 23) (args := (#[.agg #[.bool dn, .slice DA dl dc], .agg #[.bool q1, .slice A1 l1 c1]])) rfl (by kernel_rfl) (by rfl) (by (go_simp; try (with_reducible rfl))) ?_)
      refine (mul_nz (HG.out.2.2.2.1.below K.out.B) hN1 (by omega) (by omega)).mono ?_
      rintro e W12 ⟨q2, A2, l2, c2, rfl, hN2, hb⟩
      (refine ⟨_, rfl, Keep.stays _ _ K.out hb, ?_⟩; replace K := Lib.hid (Keep.stays _ _ K.out hb); simp only [Act.put, List.setIfInBounds_toArray, List.set_cons_zero, List.set_cons_succ])
      replace KF := Lib.hid (Keep.stays _ _ KF.out hb)
      replace HQ := Lib.hid (HQ.out.below hb)
      have HN := Lib.hid hN2
      clear hb hN1 hN2
      (refine Ord.ways [5] (by kernel_rfl) ?_; intro i hi; simp only [List.mem_cons, List.not_mem_nil, or_false] at hi; rcases hi with (rfl))
      have ht := KF.out.tagq (g := w.heap.size + 1) (a := .slice none 0 0) (.tail _ (.tail _ (.head _))) (fun z e => by cases e)
      have hT := (((Turn.set W12 (w.heap.size + 1) 0 (.slice OP n opc)).trans (Turn.set _ (w.heap.size + 1) 1 (.slice OQ n oqc))).trans (Turn.set _ (w.heap.size + 1) 2 (.bool on))).trans (Turn.set _ (w.heap.size + 1) 3 (.slice OS osl osc))
      have k0 := KF.out.cell (k := 0) (.tail _ (.tail _ (.head _))) rfl; have k1 := KF.out.cell (k := 1) (.tail _ (.tail _ (.head _))) rfl; have k2 := KF.out.cell (k := 2) (.tail _ (.tail _ (.head _))) rfl; have k3 := KF.out.cell (k := 3) (.tail _ (.tail _ (.head _))) rfl
      have fk := KF.out.warm (.tail _ (.tail _ (.head _))) 0; have fk1 := KF.out.warm (.tail _ (.tail _ (.head _))) 1; have fk2 := KF.out.warm (.tail _ (.tail _ (.head _))) 2; have fk3 := KF.out.warm (.tail _ (.tail _ (.head _))) 3
      have KF2 := Lib.hid ((((KF.out.set_2 0 (.slice OP n opc)).set_2 1 (.slice OQ n oqc)).set_2 2 (.bool on)).set_2 3 (.slice OS osl osc))
      simp only [List.setIfInBounds_toArray, List.set_cons_zero, List.set_cons_succ] at KF2
      refine Way.skip rfl (by rfl) (by (go_simp; try (with_reducible rfl))) ⟨KF2.out.sub (.cons_cons _ (.cons _ (.cons _ (.cons_cons _ .slnil)))), ?_⟩
      clear k0 k1 k2 k3 fk fk1 fk2 fk3 KF
      replace HQ := Lib.hid (HQ.out.turn hT ht.1 (by decide) (by decide) ht.2)
      replace HN := Lib.hid (HN.out.turn hT ht.2)
      clear ht hT
      generalize World.setCell (World.setCell (World.setCell (World.setCell W12 _ _) _ _) _ _) _ _ = W13 at *
      have KF3 := KF2
      clear KF2
      replace K := Lib.hid (KF3.out.sub (.cons_cons _ (.cons _ (.cons _ (.cons_cons _ .slnil)))))
      try simp only [Act.put, List.setIfInBounds_toArray, List.set_cons_zero, List.set_cons_succ]
      (refine Ord.ways [6] (by kernel_rfl) ?_; intro i hi; simp only [List.mem_cons, List.not_mem_nil, or_false] at hi; rcases hi with (rfl))
      have hT := (Turn.set W13 (w.heap.size + 1 + 1) 0 (.bool q2)).trans (Turn.set _ (w.heap.size + 1 + 1) 1 (.slice A2 l2 c2))
      have hg := KF3.out.box (w.heap.size + 1 + 1, Obj.num false (.slice none 0 0)) (.tail _ (.head _))
      have k0 := KF3.out.cell (k := 0) (.tail _ (.head _)) rfl; have k1 := KF3.out.cell (k := 1) (.tail _ (.head _)) rfl
      have fk := KF3.out.warm (.tail _ (.head _)) 0; have fk1 := KF3.out.warm (.tail _ (.head _)) 1
      have KF2 := Lib.hid ((KF3.out.set_1 0 (.bool q2)).set_1 1 (.slice A2 l2 c2))
      simp only [List.setIfInBounds_toArray, List.set_cons_zero, List.set_cons_succ] at KF2
      refine Way.skip rfl (by rfl) (by (go_simp; try (with_reducible rfl))) ⟨KF2.out.sub (.cons_cons _ (.cons _ (.cons _ (.cons_cons _ .slnil)))), ?_⟩
      replace HQ := Lib.hid (HQ.out.turnNum hn2 hg hT)
      replace HN := Lib.hid (HN.out.putAt (i := 0) (j := 1) k0 (.bool q2) (.slice A2 l2 c2))
      clear hT hg k0 k1 fk fk1 KF3
      generalize World.setCell (World.setCell W13 _ _) _ _ = W14 at *
      replace K := Lib.hid (KF2.out.sub (.cons_cons _ (.cons _ (.cons _ (.cons_cons _ .slnil)))))
      (refine Ord.done (by kernel_rfl) ?_; simp only [List.drop_succ_cons, List.drop_zero, Act.put, List.setIfInBounds_toArray, List.set_cons_zero, List.set_cons_succ])
      go_wp2_with fail
      refine ret_wh Tryz.results18 rfl rfl (KF2.out.gb (.tail _ (.tail _ (.head _)))) (KF2.out.gb (.tail _ (.head _))) ?_
      exact ⟨⟨_, _, _, _, _, _, rfl, HQ.out, HN.out⟩, KF2.out.B⟩
end Go.Proofs.YtmidifgnpjlgcaaGreat
