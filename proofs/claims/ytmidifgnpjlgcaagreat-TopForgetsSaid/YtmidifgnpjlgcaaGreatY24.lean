/- The texts Vk, Vl of the walk of the law and of all that it calls, in one file. No condition. -/
import Derived.Test.YtmidifgnpjlgcaaGreatY22
import Derived.Test.YtmidifgnpjlgcaaGreatY23
/- The walk of rounded. -/
set_option linter.unusedVariables false
set_option linter.unusedSimpArgs false
namespace Go.Proofs.YtmidifgnpjlgcaaGreat
open Go.RowKit

theorem Lwn.lstt {w : World} {base : Nat} {v : Value} {L : List Nm} (h : Lwn w base v L) (h0 : 0 < L.length) : ∃ g cap rest, v = .slice (some ⟨g, 0, none⟩) L.length cap ∧ base ≤ g ∧ w.heap[g]? = some (Obj.lstt L rest) ∧ L.length ≤ cap ∧ cap ≤ maxLen ∧ (flat L ++ rest).length = cap * 2 := by
  rcases h.1.2 with ⟨rfl, h1⟩ | ⟨g, cap, cur, rfl, hb, hh, hn, hm, hcur, htake⟩
  · omega
  · have e : flat L ++ cur.toList.drop (L.length * 2) = cur.toList := by rw [← htake, List.take_append_drop]
    refine ⟨g, cap, cur.toList.drop (L.length * 2), rfl, hb, ?_, hn, hm, ?_⟩
    · unfold Obj.lstt
      rw [e]
      exact hh
    · rw [e, Array.length_toList]; exact hcur
theorem Keep.with1 {w0 w : World} {g : Nat} {o : Obj} (K : Keep w0 [] w) (hg : w0.heap.size ≤ g) (h : w.heap[g]? = some o) : Keep w0 [(g, o)] w :=
  ⟨fun p hp => by rw [List.mem_singleton.1 hp]; exact h, fun p hp => by rw [List.mem_singleton.1 hp]; exact hg, by simp, K.B⟩
/-- What rounded tells. -/
def RoR (n NB : Nat) (F : Nat → Nat → Int) (z : Int) (e : Ending) (w' : World) : Prop := ∃ up uq un us P' q' c', e = .returned (.agg #[up, uq, .bool un, us]) ∧ Qo w' up uq un us n (NB + 1) P' q' c' ∧ ((∀ i j, P' i j = rndF F z n i j) ∨ (∀ i j, P' i j = rndF F z n i j * 0))

variable {w0 w : World} {l l2 : List (Nat × Obj)}
set_option maxHeartbeats 16000000 in
set_option maxRecDepth 100000 in
theorem rounded_any (vp vq cs zs : Value) (cn zn : Bool) (n N M NB : Nat) (P : Nat → Nat → Int) (q : Nat → Int) (c z : Int) (w : World) (h : Qg w vp vq cn cs n N P q c) (hz : Nz w zn zs z M) (h0 : 0 < n) (hn : n ≤ 11) (hN : N ≤ 100000) (hM : M ≤ 100000) (hNB : N + 7 ≤ NB) (hNB2 : NB ≤ 300000) (hP : pbd NB n ≤ 600000) :
    Calls Tryz.prog 47 #[.agg #[vp, vq, .bool cn, cs], .agg #[.bool zn, zs]] w fun e w' => RoR n NB P z e w' ∧ Below w.heap.size w w' := by
  have HC := Lib.hid h.2.2; have HZ := Lib.hid hz
  obtain ⟨SA, sl, sc, rfl⟩ := h.2.2.sl
  obtain ⟨ZA, zl, zc, rfl⟩ := hz.sl
  obtain ⟨PA, pc, rfl, -, hrows⟩ := h.1
  obtain ⟨QA, qc, rfl, -, hqs⟩ := h.2.1
  have hNBp := pbd_ge NB n
  have HR := Lib.hid hrows; have HQ := Lib.hid hqs
  have K := Lib.hid (Keep.begin3 w (.cells #[.slice PA n pc, .slice QA n qc, .bool cn, .slice SA sl sc] 32) (Obj.num zn (.slice ZA zl zc)) (.cells #[.slice none 0 0, .slice none 0 0, .bool false, .slice none 0 0] 32))
  clear h hz hrows hqs
  go_enter Tryz.func47, Tryz.ntmps47
  go_upto_region 2 with fail
  have x2 := K.out.cell (k := 2) (.tail _ (.tail _ (.head _))) rfl; have x3 := K.out.cell (k := 3) (.tail _ (.tail _ (.head _))) rfl
  obtain ⟨f1, z0, z1⟩ := K.out.nm (.tail _ (.head _))
  have hcap := K.out.lt (.tail _ (.head _))
  go_wp2_with fail
  refine (round79_any (w.heap.size + 1) N M cn zn _ _ c z _ (HC.out.below K.out.B) (HZ.out.below K.out.B) ⟨hcap, z0, z1⟩ (by omega) (by omega)).mono ?_
  rintro e w3 ⟨q3, A3, l3, c3, rfl, hN3, hb⟩
  have H3 := Lib.hid (hN3.more (show _ ≤ NB by omega))
  replace K := Lib.hid (Keep.stays _ _ K.out hb)
  clear hb hN3 x2 x3 f1 z0 z1 hcap
  go_upto_region 3 with fail
  replace K := Lib.hid (K.out.alloc (.cells #[.slice none 0 0, .slice none 0 0, .bool q3, .slice A3 l3 c3] 32))
  replace H3 := Lib.hid (H3.out.below (Ext.alloc w3 (.cells #[.slice none 0 0, .slice none 0 0, .bool q3, .slice A3 l3 c3] 32)))
  generalize w3.heap.size = ob at *
  generalize w3.alloc _ = W9 at *
  have y0 := K.out.cell (k := 0) (.tail _ (.tail _ (.tail _ (.head _)))) rfl
  go_wp2_with fail
  clear y0
  obtain ⟨base, hbase⟩ : ∃ base, base = W9.heap.size := ⟨_, rfl⟩
  have HLT : Hid (ob < base ∧ w.heap.size + 1 + 1 < base ∧ w.heap.size + 1 < base ∧ w.heap.size < base) := Lib.hid (by rw [hbase]; exact ⟨K.out.lt (.head _), K.out.lt (.tail _ (.head _)), K.out.lt (.tail _ (.tail _ (.head _))), K.out.lt (.tail _ (.tail _ (.tail _ (.head _))))⟩)
  have hw0 : Hid (w.heap.size ≤ base) := Lib.hid (Nat.le_of_lt HLT.out.2.2.2)
  go_loopg [19] n (fun gk iv wr => ∃ (i : Nat) (OA : Option Addr) (oc : Nat) (TA : Option Addr) (tc : Nat) (vs : List Value) (L : List Nm), gk + i = n ∧ iv = .int .i64 (i : Int) ∧ (vs.length = i ∧ L.length = i) ∧ Bq wr base n NB (.slice OA i oc) vs (rndF P z n) (.slice TA i tc) L (fun i => Int.fdiv (q i * 1024) z) ∧ Nz wr q3 (.slice A3 l3 c3) (Int.fdiv (c * 1024) z) NB ∧ Keep w ([(ob, Obj.cells #[(.slice OA i oc), (.slice TA i tc), .bool q3, .slice A3 l3 c3] 32), (w.heap.size + 1 + 1, Obj.cells #[.slice none 0 0, .slice none 0 0, .bool false, .slice none 0 0] 32), (w.heap.size + 1, Obj.num zn (.slice ZA zl zc)), (w.heap.size, Obj.cells #[.slice PA n pc, .slice QA n qc, .bool cn, .slice SA sl sc] 32)]) wr ∧ base ≤ wr.heap.size)
  case atStart => exact ⟨0, none, 0, none, 0, [], [], by omega, rfl, ⟨rfl, rfl⟩, Bq.nil _ _ _ _ _ _, H3.out, K.out, by rw [hbase]; exact Nat.le_refl _⟩
  case round =>
    clear K H3 hbase
    obtain ⟨i, OA, oc, TA, tc, vs, L, hgi, rfl, ⟨hvl, hLl⟩, hB, hnum, k, hsz⟩ := hrel
    have K := Lib.hid k
    have HB := Lib.hid hB
    have HNU := Lib.hid hnum
    have HSZ := Lib.hid hsz
    clear k hB hnum hsz
    by_cases hi : i < n
    · obtain ⟨b, n1, B1, l1, d1, rfl, hlt1, x0, x1, hn1⟩ := HQ.out i hi
      have X0 := Keep.far K hlt1 x0
      have X1 := Keep.far K hlt1 x1
      have y1 := Keep.acell (k := 1) K (.head _) rfl
      have y2 := Keep.acell (k := 1) K (.tail _ (.tail _ (.tail _ (.head _)))) rfl
      have H1 := Lib.hid hn1
      clear x0 x1 hn1
      go_upto_region 6 with fail
      (refine region_ord _ 11 (by kernel_rfl) (by kernel_rfl) K.out.drew ?_; clear K; intro W K hbw; replace K := Lib.hid K)
      replace HB := Lib.hid (HB.out.below hbw)
      replace HNU := Lib.hid (HNU.out.below hbw)
      replace HSZ := Lib.hid (Nat.le_trans HSZ.out hbw.size)
      clear hbw
      (refine Ord.take' 0 rfl (by kernel_rfl) (fun _ _ _ _ h => h) K.out (by rfl) ?_; apply Exists.intro; refine ⟨fun p => ?_, ?_⟩; (focus (go_simp; (try (with_reducible rfl)); done)); (try simp only [Act.put, List.setIfInBounds_toArray, List.set_cons_zero, List.set_cons_succ]))
      (refine Ord.take' 1 rfl (by kernel_rfl) (fun _ _ _ _ h => h) K.out (by rfl) ?_; apply Exists.intro; refine ⟨fun p => ?_, ?_⟩; (focus (go_simp; (try (with_reducible rfl)); done)); (try simp only [Act.put, List.setIfInBounds_toArray, List.set_cons_zero, List.set_cons_succ]))
      (refine Ord.take' 2 rfl (by kernel_rfl) (fun _ _ _ _ h => h) K.out (by rfl) ?_; apply Exists.intro; refine ⟨fun p => ?_, ?_⟩; (focus (go_simp; (try (with_reducible rfl)); done)); (try simp only [Act.put, List.setIfInBounds_toArray, List.set_cons_zero, List.set_cons_succ]))
      (refine Ord.take' 3 rfl (by kernel_rfl) (fun _ _ _ _ h => h) K.out (by rfl) ?_; apply Exists.intro; refine ⟨fun p => ?_, ?_⟩; (focus (go_simp; (try (with_reducible rfl)); done)); (try simp only [Act.put, List.setIfInBounds_toArray, List.set_cons_zero, List.set_cons_succ]))
      (refine Ord.take' 4 rfl (by kernel_rfl) (fun _ _ _ _ h => h) K.out (by rfl) ?_; apply Exists.intro; refine ⟨fun p => ?_, ?_⟩; (focus (go_simp; (try (with_reducible rfl)); done)); (try simp only [Act.put, List.setIfInBounds_toArray, List.set_cons_zero, List.set_cons_succ]))
      (refine Ord.take' 5 rfl (by kernel_rfl) (fun _ _ _ _ h => h) K.out (by rfl) ?_; apply Exists.intro; refine ⟨fun p => ?_, ?_⟩; (focus (go_simp; (try (with_reducible rfl)); done)); (try simp only [Act.put, List.setIfInBounds_toArray, List.set_cons_zero, List.set_cons_succ]))
      (refine Ord.take' 6 rfl (by kernel_rfl) (fun _ _ _ _ h => h) K.out (by rfl) ?_; apply Exists.intro; refine ⟨fun p => ?_, ?_⟩; (focus (go_simp; (try (with_reducible rfl)); done)); (try simp only [Act.put, List.setIfInBounds_toArray, List.set_cons_zero, List.set_cons_succ]))
      (refine Ord.take' 7 rfl (by kernel_rfl) (fun _ _ _ _ h => h) K.out (by rfl) ?_; apply Exists.intro; refine ⟨fun p => ?_, ?_⟩; (focus (go_simp; (try (with_reducible rfl)); done)); (try simp only [Act.put, List.setIfInBounds_toArray, List.set_cons_zero, List.set_cons_succ]))
      clear X0 X1 y1 y2
      (refine Ord.call 8 (g := 79) (args := (#[.agg #[.bool n1, .slice B1 l1 d1], .pointer (some ⟨w.heap.size + 1, 0, none⟩)])) rfl (by kernel_rfl) (by rfl) (by (go_simp; try (with_reducible rfl))) ?_)
      have hcap := K.out.lt (.tail _ (.tail _ (.head _)))
      obtain ⟨f1, z0, z1⟩ := K.out.nm (.tail _ (.tail _ (.head _)))
      refine (round79_any (w.heap.size + 1) N M n1 zn _ _ _ z _ (H1.out.below K.out.B) (HZ.out.below K.out.B) ⟨hcap, z0, z1⟩ (by omega) (by omega)).mono ?_
      rintro e W11 ⟨q4, A4, l4, c4, rfl, hN4, hb⟩
      clear hcap f1 z0 z1
      (refine ⟨_, rfl, Keep.stays _ _ K.out hb, ?_⟩; replace K := Lib.hid (Keep.stays _ _ K.out hb); simp only [Act.put, List.setIfInBounds_toArray, List.set_cons_zero, List.set_cons_succ])
      replace HB := Lib.hid (HB.out.below hb)
      replace HNU := Lib.hid (HNU.out.below hb)
      replace HSZ := Lib.hid (Nat.le_trans HSZ.out hb.size)
      clear hb
      have KC := Lib.hid (K.out.alloc (.cells #[.bool q4, .slice A4 l4 c4] 30))
      obtain ⟨v', W12, hrun, hB2, hs2, hkp, hnz2⟩ := HB.out.appQ 27 ⟨q4, A4, l4, c4⟩ (by rw [hLl]; exact hN4.more (by omega)) (by omega) HSZ.out
      have hK12 := hkp w _ K.out (fun p hp => (by simp only [List.mem_cons, List.not_mem_nil, or_false] at hp; rcases hp with rfl | rfl | rfl | rfl; exact HLT.out.1; exact HLT.out.2.1; exact HLT.out.2.2.1; exact HLT.out.2.2.2)) hw0.out
      refine Ord.lay 9 (v := .slice (some ⟨W11.heap.size, 0, none⟩) 1 1) rfl (by kernel_rfl) (by rfl) (by (go_simp; try (with_reducible rfl))) KC.out.rest ?_
      simp only [Act.put, List.setIfInBounds_toArray, List.set_cons_zero, List.set_cons_succ]
      refine Ord.lay 10 (v := v') rfl (by kernel_rfl) (by rfl) (exec_append (.tmp 23) (.tmp 31) 27 rfl hrun) hK12 ?_
      simp only [Act.put, List.setIfInBounds_toArray, List.set_cons_zero, List.set_cons_succ]
      replace HB := Lib.hid hB2
      replace HNU := Lib.hid (hnz2 HNU.out)
      replace HSZ := Lib.hid (Nat.le_trans HSZ.out hs2)
      replace K := Lib.hid hK12
      clear hN4 KC hrun hB2 hs2 hkp hnz2 hK12
      (refine Ord.done (by kernel_rfl) ?_; simp only [List.drop_succ_cons, List.drop_zero, Act.put, List.setIfInBounds_toArray, List.set_cons_zero, List.set_cons_succ])
      obtain ⟨VA, vc, rfl⟩ := HB.out.own.sl
      have hLl2 : (L ++ [(⟨q4, A4, l4, c4⟩ : Nm)]).length = i + 1 := by rw [List.length_append, hLl]; rfl
      rw [hLl2] at HB ⊢
      have y0 := K.out.cell (k := 1) (.head _) rfl
      have fy := K.out.warm (.head _) 1
      go_upto_region 7 with fail
      clear y0 fy
      have ht := K.out.tagq (g := ob) (a := .slice OA i oc) (.head _) (fun z e => by cases e)
      have hT := Turn.set W12 ob 1 (.slice VA (i + 1) vc)
      replace HB := Lib.hid (HB.out.turn hT ht.1 (by decide) (by decide) ht.2)
      replace HNU := Lib.hid (HNU.out.turn hT ht.2)
      replace HSZ := Lib.hid (Nat.le_trans HSZ.out hT.1)
      replace K := Lib.hid (K.out.set_0 1 (.slice VA (i + 1) vc))
      simp only [List.setIfInBounds_toArray, List.set_cons_zero, List.set_cons_succ] at K
      clear ht hT
      refine out_with (B := fun W => Bq W base n NB (.slice OA i oc) vs (rndF P z n) (.slice VA (i + 1) vc) (L ++ [⟨q4, A4, l4, c4⟩]) (fun i => Int.fdiv (q i * 1024) z) ∧ Nz W q3 (.slice A3 l3 c3) (Int.fdiv (c * 1024) z) NB ∧ base ≤ W.heap.size) K.out ⟨HB.out, HNU.out, HSZ.out⟩ ?_
      clear K HB HNU HSZ
      intro W13 K hall
      replace K := Lib.hid K
      have HB := Lib.hid hall.1
      have HNU := Lib.hid hall.2.1
      have HSZ := Lib.hid hall.2.2
      clear hall
      obtain ⟨b2, B2, d2, rfl, hlt2, r0, hL⟩ := HR.out i hi
      obtain ⟨A7, c7, hv2, -, hrow⟩ := hL
      cases hv2
      have HRW := Lib.hid hrow
      have y0 := K.out.cell (k := 0) (.tail _ (.tail _ (.tail _ (.head _)))) rfl
      have r1 := (K.out.B.cell (p := ⟨b2, i, none⟩) hlt2).trans r0
      have KR := Lib.hid (Keep.start W13)
      have HQLT := Lib.hid HB.out.own.lt
      have HR0 := Lib.hid (And.intro hlt2 r0)
      clear hrow r0
      go_wp2_with fail
      clear y0 r1
      go_loopg [8, 40] n (fun gk rv jv wr2 => ∃ (j : Nat) (RA : Option Addr) (rc : Nat) (LR : List Nm), gk + j = n ∧ jv = .int .i64 (j : Int) ∧ rv = .slice RA j rc ∧ LR.length = j ∧ Lwn wr2 W13.heap.size (.slice RA j rc) LR ∧ Els wr2 LR (N + 6) (fun j => Int.fdiv (P i j * 1024) z) ∧ Keep W13 [] wr2)
      case atStart => exact ⟨0, none, 0, [], by omega, rfl, rfl, rfl, Lwn.nil _ _, Els.nil _ _ _, KR.out⟩
      case round =>
        clear KR
        obtain ⟨j, RA, rc, LR, hgj, rfl, rfl, hlr, hown, hels, k⟩ := hrel
        have KR := Lib.hid k
        have HO := Lib.hid hown
        have HE := Lib.hid hels
        have K1 := Lib.hid (Keep.stays _ _ K.out KR.out.B)
        clear k hown hels
        by_cases hj : j < n
        · obtain ⟨b5, n5, B5, l5, d5, rfl, hlt5, x0, x1, hn5⟩ := HRW.out j hj
          have e0 := (K1.out.B.cell (p := ⟨b5, j * 2, none⟩) hlt5).trans x0
          have e1 := (K1.out.B.cell (p := ⟨b5, j * 2 + 1, none⟩) hlt5).trans x1
          have r1 := (K1.out.B.cell (p := ⟨b2, i, none⟩) HR0.out.1).trans HR0.out.2
          have y0 := K1.out.cell (k := 0) (.tail _ (.tail _ (.tail _ (.head _)))) rfl
          have H5 := Lib.hid hn5
          obtain ⟨f1, z0, z1⟩ := K1.out.nm (.tail _ (.tail _ (.head _)))
          have hcap := K1.out.lt (.tail _ (.tail _ (.head _)))
          clear x0 x1 hn5
          go_wp2_with fail
          refine (round79_any (w.heap.size + 1) N M n5 zn _ _ _ z _ (H5.out.below K1.out.B) (HZ.out.below K1.out.B) ⟨hcap, z0, z1⟩ (by omega) (by omega)).mono ?_
          rintro e W15 ⟨q6, A6, l6, c6, rfl, hN6, hb⟩
          replace KR := Lib.hid (Keep.stays _ _ KR.out hb)
          replace HO := Lib.hid (HO.out.below hb)
          replace HE := Lib.hid (HE.out.below hb)
          clear hb f1 z0 z1 e0 e1 r1 y0 K1 hcap
          obtain ⟨v', W16, hrun, hlw, hT, -, hkp⟩ := app1n 27 W13.heap.size (.slice RA j rc) LR ⟨q6, A6, l6, c6⟩ HO.out (by omega) KR.out.B.size
          have HRUN := Lib.hid hrun
          have hE2 := (HE.out.turnO hT HO.out.2).snoc ⟨q6, A6, l6, c6⟩ (by rw [hlr]; exact (hN6.turn hT HO.out.2).more (by omega))
          have KR2 := Lib.hid (hkp W13 [] KR.out (fun p hp => by cases hp) (Nat.le_refl _))
          have HO2 := Lib.hid hlw
          have HE2 := Lib.hid hE2
          obtain ⟨VA9, vc9, rfl⟩ := hlw.sl
          have hlr2 : (LR ++ [(⟨q6, A6, l6, c6⟩ : Nm)]).length = j + 1 := by rw [List.length_append, hlr]; rfl
          rw [hlr2] at HO2 HRUN
          clear hrun hlw hT hkp hE2 hN6 HO HE KR
          go_wp2_with (at_builtin; refine wpList_exec rfl (exec_append (.tmp 43) (.tmp 54) 27 rfl HRUN.out) ?_)
          clear HRUN
          go_roundg (n - j - 1)
          case measure => omega
          case rel => exact ⟨j + 1, VA9, vc9, _, by omega, congrArg (Value.int .i64) (by omega), rfl, hlr2, HO2.out, HE2.out, KR2.out⟩
        · have hje : j = n := by omega
          subst hje
          have hjz : ¬ (j : Int) < (j : Int) := by omega
          have hiL : i < LR.length := by rw [hlr]; exact hi
          obtain ⟨g, cap, rest, hv, hgb, hgh, hg1, hg2, hg3⟩ := HO.out.lstt (by omega)
          injection hv with hv1 hv2 hv3
          subst hv1 hv3
          have y0 := Keep.far (Lib.hid (KR.out.with1 hgb hgh)) (K.out.lt (.tail _ (.tail _ (.tail _ (.head _))))) (K.out.cell (k := 0) (.tail _ (.tail _ (.tail _ (.head _)))) rfl)
          have KO := K
          replace K := Lib.hid (KR.out.with1 hgb hgh)
          have HG := Lib.hid (And.intro hgb (And.intro hg1 (And.intro hg2 hg3)))
          have HNJ := Lib.hid (HE.out i hiL)
          clear KR HO hgb hgh hg1 hg2 hg3 hv2
          go_upto_region 13 with fail
          (refine region_ord _ 11 (by kernel_rfl) (by kernel_rfl) K.out.drew ?_; clear K; intro W K hbw; replace K := Lib.hid K)
          replace HE := Lib.hid (HE.out.below hbw)
          replace HNJ := Lib.hid (HNJ.out.below hbw)
          clear hbw K1
          have x0 : ∀ p : At (Keep W13 [(g, Obj.lstt LR rest)]), p.w.cell? ⟨g, i * 2, none⟩ = some (.bool LR[i].n) := fun p => (p.h.lttc (.head _) i hiL).1
          have x1 : ∀ p : At (Keep W13 [(g, Obj.lstt LR rest)]), p.w.cell? ⟨g, i * 2 + 1, none⟩ = some (.slice LR[i].A LR[i].l LR[i].c) := fun p => (p.h.lttc (.head _) i hiL).2
          generalize LR[i].n = n1 at *
          generalize LR[i].A = A1 at *
          generalize LR[i].l = l1 at *
          generalize LR[i].c = c1 at *
          (refine Ord.take' 0 rfl (by kernel_rfl) (fun _ _ _ _ h => h) K.out (by rfl) ?_; apply Exists.intro; refine ⟨fun p => ?_, ?_⟩; (focus (go_simp; (try (with_reducible rfl)); done)); (try simp only [Act.put, List.setIfInBounds_toArray, List.set_cons_zero, List.set_cons_succ]))
          (refine Ord.take' 1 rfl (by kernel_rfl) (fun _ _ _ _ h => h) K.out (by rfl) ?_; apply Exists.intro; refine ⟨fun p => ?_, ?_⟩; (focus (go_simp; (try (with_reducible rfl)); done)); (try simp only [Act.put, List.setIfInBounds_toArray, List.set_cons_zero, List.set_cons_succ]))
          (refine Ord.take' 2 rfl (by kernel_rfl) (fun _ _ _ _ h => h) K.out (by rfl) ?_; apply Exists.intro; refine ⟨fun p => ?_, ?_⟩; (focus (go_simp; (try (with_reducible rfl)); done)); (try simp only [Act.put, List.setIfInBounds_toArray, List.set_cons_zero, List.set_cons_succ]))
          (refine Ord.take' 3 rfl (by kernel_rfl) (fun _ _ _ _ h => h) K.out (by rfl) ?_; apply Exists.intro; refine ⟨fun p => ?_, ?_⟩; (focus (go_simp; (try (with_reducible rfl)); done)); (try simp only [Act.put, List.setIfInBounds_toArray, List.set_cons_zero, List.set_cons_succ]))
          (refine Ord.take' 4 rfl (by kernel_rfl) (fun _ _ _ _ h => h) K.out (by rfl) ?_; apply Exists.intro; refine ⟨fun p => ?_, ?_⟩; (focus (go_simp; (try (with_reducible rfl)); done)); (try simp only [Act.put, List.setIfInBounds_toArray, List.set_cons_zero, List.set_cons_succ]))
          (refine Ord.take' 5 rfl (by kernel_rfl) (fun _ _ _ _ h => h) K.out (by rfl) ?_; apply Exists.intro; refine ⟨fun p => ?_, ?_⟩; (focus (go_simp; (try (with_reducible rfl)); done)); (try simp only [Act.put, List.setIfInBounds_toArray, List.set_cons_zero, List.set_cons_succ]))
          (refine Ord.take' 6 rfl (by kernel_rfl) (fun _ _ _ _ h => h) K.out (by rfl) ?_; apply Exists.intro; refine ⟨fun p => ?_, ?_⟩; (focus (go_simp; (try (with_reducible rfl)); done)); (try simp only [Act.put, List.setIfInBounds_toArray, List.set_cons_zero, List.set_cons_succ]))
          (refine Ord.take' 7 rfl (by kernel_rfl) (fun _ _ _ _ h => h) K.out (by rfl) ?_; apply Exists.intro; refine ⟨fun p => ?_, ?_⟩; (focus (go_simp; (try (with_reducible rfl)); done)); (try simp only [Act.put, List.setIfInBounds_toArray, List.set_cons_zero, List.set_cons_succ]))
          (refine Ord.take' 8 rfl (by kernel_rfl) (fun _ _ _ _ h => h) K.out (by rfl) ?_; apply Exists.intro; refine ⟨fun p => ?_, ?_⟩; (focus (go_simp; (try (with_reducible rfl)); done)); (try simp only [Act.put, List.setIfInBounds_toArray, List.set_cons_zero, List.set_cons_succ]))
          clear x0 x1 y0
          (refine Ord.call 9 (g := 19) (args := (#[.int .i64 j])) rfl (by kernel_rfl) (by rfl) (by (go_simp; try (with_reducible rfl))) ?_)
          refine (int_nz j _ (by omega) (by omega)).mono ?_
          rintro e W17 ⟨q5, A5, l5, c5, rfl, hN5, hb⟩
          (refine ⟨_, rfl, Keep.stays _ _ K.out hb, ?_⟩; replace K := Lib.hid (Keep.stays _ _ K.out hb); simp only [Act.put, List.setIfInBounds_toArray, List.set_cons_zero, List.set_cons_succ])
          replace HE := Lib.hid (HE.out.below hb)
          replace HNJ := Lib.hid (HNJ.out.below hb)
          clear hb
          (refine Ord.call 10 (g := 59) (args := (#[.agg #[.bool n1, .slice A1 l1 c1], .agg #[.bool q5, .slice A5 l5 c5]])) rfl (by kernel_rfl) (by rfl) (by (go_simp; try (with_reducible rfl))) ?_)
          refine (sub_nz HNJ.out hN5 (by omega) (by omega)).mono ?_
          rintro e W18 ⟨q6, A6, l6, c6, rfl, hN6, hb⟩
          (refine ⟨_, rfl, Keep.stays _ _ K.out hb, ?_⟩; replace K := Lib.hid (Keep.stays _ _ K.out hb); simp only [Act.put, List.setIfInBounds_toArray, List.set_cons_zero, List.set_cons_succ])
          replace HE := Lib.hid (HE.out.below hb)
          have H6 := Lib.hid hN6
          clear hb hN5 hN6 HNJ
          (refine Ord.done (by kernel_rfl) ?_; simp only [List.drop_succ_cons, List.drop_zero, Act.put, List.setIfInBounds_toArray, List.set_cons_zero, List.set_cons_succ])
          obtain ⟨z0, z1⟩ := K.out.lttc (.head _) i hiL
          have c00 := (K.out.lttc (.head _) 0 (by omega)).1
          have f1 := fun o => K.out.warm (.head _) o
          go_upto_region 14 with fail
          clear z0 z1 f1
          have K2 := Lib.hid (K.out.setlt [] i hiL ⟨q6, A6, l6, c6⟩)
          have HE2 := Lib.hid ((((HE.out.putAt (i := i * 2) (j := i * 2 + 1) c00 (.bool q6) (.slice A6 l6 c6)).more (show N + 6 ≤ NB by omega) (fun _ _ => rfl)).set i ⟨q6, A6, l6, c6⟩ ((H6.out.putAt (i := i * 2) (j := i * 2 + 1) c00 (.bool q6) (.slice A6 l6 c6)).more (by omega))).more (Nat.le_refl _) (f' := rndF P z j i) (fun k _ => by unfold rndF; by_cases e : k = i <;> simp [e]))
          clear c00 HE H6 K
          generalize World.setCell (World.setCell W18 _ _) _ _ = W19 at *
          have hbr := K2.out.B
          replace HB := Lib.hid (HB.out.below hbr)
          replace HNU := Lib.hid (HNU.out.below hbr)
          replace HSZ := Lib.hid (Nat.le_trans HSZ.out hbr.size)
          have K1 := Lib.hid (Keep.stays _ _ KO.out hbr)
          have hls : (LR.set i (⟨q6, A6, l6, c6⟩ : Nm)).length = j := by rw [List.length_set, hlr]
          have hx0 := Lwn.of (base := 0) (c := rc) (Nat.zero_le _) (K2.out.box _ (.head _)) (by rw [List.length_set]; exact HG.out.2.1) HG.out.2.2.1 (by have := HG.out.2.2.2; rw [List.length_append, flat_length] at this ⊢; rw [List.length_set]; exact this) (by rw [hls]; omega)
          rw [hls] at hx0
          have HX : Hid (Lr W19 (.slice (some ⟨g, 0, none⟩) j rc) j NB (rndF P z j i)) := Lib.hid ⟨_, hx0, hls, HE2.out⟩
          have HQL : Hid (∀ k, (Value.slice VA (i + 1) vc).ownBlock = some k → (Value.slice (some ⟨g, 0, none⟩) j rc).ownBlock ≠ some k) := Lib.hid (fun k hk e => by
            have h1 := HQLT.out k hk
            have h2 := HG.out.1
            have h3 : g = k := by simpa [Value.ownBlock] using e
            omega)
          clear KO HE2 HRW K2 hbr HQLT hx0 hls HG
          obtain ⟨v', W20, hrun, hB2, hs2, hkp, hnz2⟩ := HB.out.appP 26 (by rw [hvl]; exact HX.out) HQL.out (by omega) HSZ.out
          have K := Lib.hid (hkp w _ K1.out (fun p hp => (by simp only [List.mem_cons, List.not_mem_nil, or_false] at hp; rcases hp with rfl | rfl | rfl | rfl; exact HLT.out.1; exact HLT.out.2.1; exact HLT.out.2.2.1; exact HLT.out.2.2.2)) hw0.out)
          have HRUN := Lib.hid hrun
          replace HB := Lib.hid hB2
          replace HNU := Lib.hid (hnz2 HNU.out)
          replace HSZ := Lib.hid (Nat.le_trans HSZ.out hs2)
          obtain ⟨VP, vpc, rfl, -⟩ := hB2.rows.at
          have hvl2 : (vs ++ [Value.slice (some ⟨g, 0, none⟩) j rc]).length = i + 1 := by rw [List.length_append, hvl]; rfl
          rw [hvl2] at HB HRUN
          clear hrun hB2 hs2 hkp hnz2 HX HQL
          have y0 := K1.out.cell (k := 0) (.head _) rfl
          have y1 := K.out.cell (k := 0) (.head _) rfl
          have fy := K.out.warm (.head _) 0
          go_wp2_with (at_builtin; refine wpList_exec rfl (exec_append (.tmp 70) (.tmp 72) 26 rfl HRUN.out) ?_)
          clear y0 y1 fy HRUN K1
          have ht := K.out.tagq (g := ob) (a := .slice OA i oc) (.head _) (fun z e => by cases e)
          have hT := Turn.set W20 ob 0 (.slice VP (i + 1) vpc)
          replace HB := Lib.hid (HB.out.turn hT ht.1 (by decide) (by decide) ht.2)
          replace HNU := Lib.hid (HNU.out.turn hT ht.2)
          replace HSZ := Lib.hid (Nat.le_trans HSZ.out hT.1)
          replace K := Lib.hid (K.out.set_0 0 (.slice VP (i + 1) vpc))
          simp only [List.setIfInBounds_toArray, List.set_cons_zero, List.set_cons_succ] at K
          clear ht hT
          go_roundg (j - i - 1)
          case measure => omega
          case rel => exact ⟨i + 1, VP, vpc, VA, vc, _, _, by omega, congrArg (Value.int .i64) (by omega), ⟨hvl2, hLl2⟩, HB.out, HNU.out, K.out, HSZ.out⟩
    · have hie : i = n := by omega
      subst hie
      have hiz : ¬ (i : Int) < (i : Int) := by omega
      have HQO := Lib.hid (HB.out.done hvl hLl HNU.out)
      clear HB HNU HSZ
      have y0 := K.out.cell (k := 0) (.head _) rfl
      go_wp2_with fail
      refine (definite_any _ i NB (rndF P z i) _ HQO.out.1.mv hn (by omega) hP).mono ?_
      rintro e W21 ⟨rfl, hb⟩
      replace K := Lib.hid (Keep.stays _ _ K.out hb)
      replace HQO := Lib.hid (HQO.out.below hb)
      clear hb y0
      cases hdf : defP i (rndF P z i)
      · go_upto_region 17 with fail
        go_step
        refine wpList_load_row rfl 32 _ rfl ob rfl 32 _ (0, 0) _ (K.out.gb (.head _)) Tryz.underlying32 rfl (by kernel_rfl) ?_
        simp only [Act.put, List.setIfInBounds_toArray, List.set_cons_zero, List.set_cons_succ]
        go_wp2_with fail
        refine (scaled_any _ _ _ _ q3 false i NB 0 _ _ _ 0 _ HQO.out.qg (Nz.nil _) hn (by omega) (by omega)).mono ?_
        rintro e W22 ⟨⟨up, uq, un, us, rfl, hQ⟩, hb⟩
        replace K := Lib.hid (Keep.stays _ _ K.out hb)
        have HF := Lib.hid hQ
        obtain ⟨UP, upc, rfl, -⟩ := hQ.1.mv
        obtain ⟨UQ, uqc, rfl, -⟩ := hQ.2.1.lv
        obtain ⟨US, usl, usc, rfl⟩ := hQ.2.2.sl
        clear hb hQ HQO
        have ht := K.out.tagq (g := w.heap.size + 1 + 1) (a := .slice none 0 0) (.tail _ (.head _)) (fun z e => by cases e)
        have hT := (((Turn.set W22 (w.heap.size + 1 + 1) 0 (.slice UP i upc)).trans (Turn.set _ (w.heap.size + 1 + 1) 1 (.slice UQ i uqc))).trans (Turn.set _ (w.heap.size + 1 + 1) 2 (.bool un))).trans (Turn.set _ (w.heap.size + 1 + 1) 3 (.slice US usl usc))
        have k0 := K.out.cell (k := 0) (.tail _ (.head _)) rfl; have k1 := K.out.cell (k := 1) (.tail _ (.head _)) rfl; have k2 := K.out.cell (k := 2) (.tail _ (.head _)) rfl; have k3 := K.out.cell (k := 3) (.tail _ (.head _)) rfl
        have fk := K.out.warm (.tail _ (.head _)) 0; have fk1 := K.out.warm (.tail _ (.head _)) 1; have fk2 := K.out.warm (.tail _ (.head _)) 2; have fk3 := K.out.warm (.tail _ (.head _)) 3
        have K2 := Lib.hid ((((K.out.set_1 0 (.slice UP i upc)).set_1 1 (.slice UQ i uqc)).set_1 2 (.bool un)).set_1 3 (.slice US usl usc))
        simp only [List.setIfInBounds_toArray, List.set_cons_zero, List.set_cons_succ] at K2
        replace HF := Lib.hid (HF.out.turn hT ht.1 (by decide) (by decide) ht.2)
        clear ht hT K
        go_wp2_with fail
        clear k0 k1 k2 k3 fk fk1 fk2 fk3
        refine ret_qd Tryz.results47 rfl (K2.out.gb (.tail _ (.head _))) ?_
        exact ⟨⟨_, _, _, _, _, _, _, rfl, HF.out, .inr (fun i j => rfl)⟩, K2.out.B⟩
      · go_upto_region 18 with fail
        go_step
        refine wpList_load_row rfl 32 _ rfl ob rfl 32 _ (0, 0) _ (K.out.gb (.head _)) Tryz.underlying32 rfl (by kernel_rfl) ?_
        simp only [Act.put, List.setIfInBounds_toArray, List.set_cons_zero, List.set_cons_succ]
        refine wpList_store_row rfl 32 _ _ rfl (w.heap.size + 1 + 1) _ rfl rfl 32 _ (K.out.gb (.tail _ (.head _))) (by kernel_rfl) rfl (by kernel_rfl) ?_
        simp only [Act.put]
        have K2 := Lib.hid (K.out.setRow [_] #[.slice OA i oc, .slice TA i tc, .bool q3, .slice A3 l3 c3] rfl)
        have ht := K.out.tagq (g := w.heap.size + 1 + 1) (a := .slice none 0 0) (.tail _ (.head _)) (fun z e => by cases e)
        have hT := Turn.row W21 (w.heap.size + 1 + 1) #[.slice OA i oc, .slice TA i tc, .bool q3, .slice A3 l3 c3]
        have HF := Lib.hid (HQO.out.turn hT ht.1 (by decide) (by decide) ht.2)
        clear ht hT K
        go_wp2_with fail
        refine ret_qd Tryz.results47 rfl (K2.out.gb (.tail _ (.head _))) ?_
        exact ⟨⟨_, _, _, _, _, _, _, rfl, (HF.out.more (Nat.le_succ NB) (fun _ _ _ _ => rfl) (fun _ _ => rfl) rfl), .inl (fun i j => rfl)⟩, K2.out.B⟩
end Go.Proofs.YtmidifgnpjlgcaaGreat
/- The first rows and columns of a matrix; what Without holds. -/
set_option linter.unusedVariables false
set_option linter.unusedSimpArgs false
namespace Go.Proofs.YtmidifgnpjlgcaaGreat
open Go.RowKit

theorem Lv.turnS {w w' : World} {v : Value} {m N g : Nat} {f : Nat → Int} (h : Lv w v m N f) (hT : Turn (some g) w w') {A9 : Option Addr} {l9 c9 : Nat} (hc : w.cell? ⟨g, 0, none⟩ = some (.slice A9 l9 c9)) : Lv w' v m N f := by
  obtain ⟨A, c, hv, h0, hh⟩ := h
  refine ⟨A, c, hv, h0, fun j hj => ?_⟩
  obtain ⟨b, n, B, l, d, hA, hlt, c0, c1, hN⟩ := hh j hj
  obtain ⟨b', n', B', l', d', hA', -, c0', -⟩ := hh 0 (by omega)
  have hbb : b' = b := by rw [hA] at hA'; injection hA' with e; injection e with e; exact e.symm
  have hne : b ≠ g := by
    intro e
    rw [Nat.zero_mul, hbb, e, hc] at c0'
    cases c0'
  have hb : w'.heap[b]? = w.heap[b]? := hT.2 b hlt (fun e => hne (by injection e with e; exact e.symm))
  refine ⟨b, n, B, l, d, hA, Nat.lt_of_lt_of_le hlt hT.1, ?_, ?_, hN.turn hT (fun k hk z e => ?_)⟩
  · rw [World.cell?_of_block (a := ⟨b, j * 2, none⟩) hb]; exact c0
  · rw [World.cell?_of_block (a := ⟨b, j * 2 + 1, none⟩) hb]; exact c1
  · cases hk
    rw [hc] at e
    cases e
/-- What first tells of the cells. -/
def F2R (w : World) (b k m : Nat) (e : Ending) (w' : World) : Prop := ∃ ub uc, e = .returned (.slice (some ⟨ub, 0, none⟩) k uc) ∧ ub < w'.heap.size ∧ ∀ j, j < k → ∃ g d, w.cell? ⟨b, j, none⟩ = some (.slice (some ⟨g, 0, none⟩) m d) ∧ w'.cell? ⟨ub, j, none⟩ = some (.slice (some ⟨g, 0, none⟩) k k)
set_option maxHeartbeats 4000000 in
set_option maxRecDepth 100000 in
theorem first2_any (b c n m k N : Nat) (f : Nat → Nat → Int) (w : World) (h : Mw w (.slice (some ⟨b, 0, none⟩) n c) n m N f) (hk0 : 0 < k) (hk : k ≤ n) (hkm : k ≤ m) (hn : n ≤ 1000) :
    Calls Tryz.prog 55 #[.slice (some ⟨b, 0, none⟩) n c, .int .i64 k] w fun e w' => F2R w b k m e w' ∧ Below w.heap.size w w' := by
  obtain ⟨b9, c9, hv, hc, hb, hr⟩ := h
  cases hv
  have HR := Lib.hid hr
  have K := Lib.hid (Keep.start w)
  have hk1 : (0 : Int) ≤ (k : Int) := by omega
  have hk2 : (k : Int) ≤ (c : Int) := by omega
  clear hr
  go_enter Tryz.func55, Tryz.ntmps55
  go_wp2_with fail
  go_loopg [5, 12] k (fun gk ov iv wr => ∃ (i : Nat) (gs : List Nat), gk + i = k ∧ iv = .int .i64 (i : Int) ∧ gs.length = i ∧ (∀ j, j < i → ∃ d, w.cell? ⟨b, j, none⟩ = some (.slice (some ⟨gs.getD j 0, 0, none⟩) m d)) ∧ GL w [] 27 1 ov i (rowsOf k gs) [] wr)
  case atStart => exact ⟨0, [], by omega, rfl, rfl, fun j hj => absurd hj (by omega), GL.nil K.out⟩
  case round =>
    clear K
    obtain ⟨i, gs, hgi, rfl, hgs, hL, G⟩ := hrel
    have HL := Lib.hid hL
    have HGS := Lib.hid hgs
    clear hL hgs
    obtain ⟨B, oc, rfl⟩ := G.sl
    by_cases hi : i < k
    · obtain ⟨x, hx, g, d, rfl, hd, hlv⟩ := HR.out i (by omega)
      obtain ⟨S, KK, back⟩ := G.out
      have e1 := (KK.B.cell (p := ⟨b, i, none⟩) hb).trans hx
      have HN : Hid (∃ d, w.cell? ⟨b, i, none⟩ = some (.slice (some ⟨g, 0, none⟩) m d)) := Lib.hid ⟨d, hx⟩
      have hkd : (k : Int) ≤ (d : Int) := by omega
      have hiz : (i : Int) < (k : Int) := by omega
      have KT := Lib.hid (KK.alloc (.cells #[.slice (some ⟨g, 0, none⟩) k k] 27))
      obtain ⟨i0, hi0, hx0⟩ := Option.map_eq_some_iff.1 info27
      simp only [Prod.mk.injEq] at hx0
      obtain ⟨hz0, hz1, hz2⟩ := hx0
      obtain ⟨v', W', hrun, G2⟩ := (back [(wr.heap.size, .cells #[.slice (some ⟨g, 0, none⟩) k k] 27)] _ KT.out).app (t := 26) (ty := 26) Tryz.underlying26 hi0 hz0 hz1 hz2 (by rfl) ⟨wr.heap.size, 0, none⟩ (m := 1) (news := [.slice (some ⟨g, 0, none⟩) k k]) rfl (fun j u hu => (by rw [add0]; exact KT.out.cell (.head _) (by rw [List.getElem?_toArray]; exact hu))) (fun u hu => (by simp only [List.mem_cons, List.not_mem_nil, or_false] at hu; rcases hu with rfl; rfl)) (by decide) (by unfold maxLen; omega) (by omega) 1
      have HG2 := Lib.hid G2.drop
      have HRUN := Lib.hid hrun
      obtain ⟨B2, oc2, rfl⟩ := G2.sl
      clear hx hlv KT KK back G G2 hrun hi0 hz0 hz1 hz2
      go_wp2_with (at_builtin; refine wpList_exec rfl (exec_append (.tmp 16) (.tmp 21) 26 rfl HRUN.out) ?_)
      have er : rowsOf k gs ++ [.slice (some ⟨g, 0, none⟩) k k] = rowsOf k (gs ++ [g]) := by unfold rowsOf; rw [List.map_append]; rfl
      rw [er] at HG2
      go_roundg (gk - 1)
      case measure => omega
      case rel =>
        refine ⟨i + 1, gs ++ [g], by omega, congrArg (Value.int .i64) (by omega), by rw [List.length_append, HGS.out]; rfl, fun j hj => ?_, HG2.out⟩
        rw [List.getD_eq_getElem?_getD]
        by_cases e : j < i
        · rw [List.getElem?_append_left (by rw [HGS.out]; exact e), ← List.getD_eq_getElem?_getD]
          exact HL.out j e
        · obtain rfl : j = i := by omega
          rw [List.getElem?_append_right (by rw [HGS.out]; omega), HGS.out, Nat.sub_self]
          exact HN.out
    · have hie : i = k := by omega
      subst hie
      have hiz : ¬ (i : Int) < (i : Int) := by omega
      have HG := Lib.hid G
      clear G
      go_wp2_with fail
      go_ret
      have hlen : (rowsOf i gs).length = i := by unfold rowsOf; rw [List.length_map, HGS.out]
      obtain ⟨h0, rfl, h1, h2, -⟩ := HG.out.cell (j := 0) (by omega)
      refine ⟨⟨_, oc, rfl, h2, fun j hj => ?_⟩, ?_⟩
      · obtain ⟨h8, e, -, -, hcell⟩ := HG.out.cell (j := j) (by omega)
        cases e
        obtain ⟨d, hd⟩ := HL.out j hj
        have hv : (rowsOf i gs).getD j undef = .slice (some ⟨gs.getD j 0, 0, none⟩) i i := by
          unfold rowsOf
          rw [List.getD_eq_getElem?_getD, List.getElem?_map, List.getElem?_eq_getElem (by rw [HGS.out]; exact hj), List.getD_eq_getElem?_getD, List.getElem?_eq_getElem (by rw [HGS.out]; exact hj)]
          rfl
        rw [hv] at hcell
        exact ⟨_, d, hd, hcell⟩
      · obtain ⟨R, K9, -⟩ := HG.out.out
        exact K9.B
/-- The first rows and columns of a matrix that lies below w0. -/
def M2 (w0 W : World) (b k N : Nat) (f : Nat → Nat → Int) : Prop := (b < W.heap.size ∧ b ≠ w0.heap.size + 1 ∧ b ≠ w0.heap.size + 1 + 1) ∧ ∀ j, j < k → ∃ g, W.cell? ⟨b, j, none⟩ = some (.slice (some ⟨g, 0, none⟩) k k) ∧ Lv w0 (.slice (some ⟨g, 0, none⟩) k k) k N (f j)
theorem M2.below {w0 W W' : World} {b k N : Nat} {f : Nat → Nat → Int} (h : M2 w0 W b k N f) (hb : Below W.heap.size W W') : M2 w0 W' b k N f := by
  refine ⟨⟨Nat.lt_of_lt_of_le h.1.1 hb.size, h.1.2⟩, fun j hj => ?_⟩
  obtain ⟨g, h1, h2⟩ := h.2 j hj
  exact ⟨g, by rw [hb.cell (p := ⟨b, j, none⟩) h.1.1]; exact h1, h2⟩
theorem M2.turn {w0 W W' : World} {b k N g : Nat} {f : Nat → Nat → Int} (h : M2 w0 W b k N f) (hT : Turn (some g) W W') (hg : g = w0.heap.size + 1 ∨ g = w0.heap.size + 1 + 1) : M2 w0 W' b k N f := by
  have hne : b ≠ g := by
    rcases hg with rfl | rfl
    · exact h.1.2.1
    · exact h.1.2.2
  refine ⟨⟨Nat.lt_of_lt_of_le h.1.1 hT.1, h.1.2⟩, fun j hj => ?_⟩
  obtain ⟨g', h1, h2⟩ := h.2 j hj
  have hb : W'.heap[b]? = W.heap[b]? := hT.2 b h.1.1 (fun e => hne (by injection e with e; exact e.symm))
  exact ⟨g', by rw [World.cell?_of_block (a := ⟨b, j, none⟩) hb]; exact h1, h2⟩
theorem M2.mv {w0 W : World} {b k N c : Nat} {f : Nat → Nat → Int} (h : M2 w0 W b k N f) (hb : Below w0.heap.size w0 W) : Mv W (.slice (some ⟨b, 0, none⟩) k c) k k N f := by
  refine ⟨_, c, rfl, fun e => (by cases e), fun j hj => ?_⟩
  obtain ⟨g, h1, h2⟩ := h.2 j hj
  exact ⟨b, _, k, rfl, h.1.1, h1, h2.below hb⟩
theorem Lr.lw {w : World} {x : Value} {m N : Nat} {f : Nat → Int} (h : Lr w x m N f) (h0 : 0 < m) : Lw w x m N f := by
  have hl := h.lv
  obtain ⟨L, h1, rfl, h3⟩ := h
  rcases h1.1.2 with ⟨rfl, h9⟩ | ⟨g, cap, cur, rfl, hb, hh, hn, -⟩
  · omega
  · exact ⟨g, cap, rfl, hn, hl⟩
theorem Mo27.mw {w : World} {v : Value} {n N : Nat} {f : Nat → Nat → Int} (h : Mo27 w v n N f) (h0 : 0 < n) : Mw w v n n N f := by
  have hm := h.mv
  obtain ⟨vs, h1, hvn, h3⟩ := h
  rcases h1.1.2 with ⟨rfl, h9⟩ | ⟨g, cap, cur, rfl, hb, hh, hn, -, hcur, htake⟩
  · omega
  · obtain ⟨A, c, hv, -, hmm⟩ := hm
    cases hv
    refine ⟨g, cap, by rw [hvn], by rw [← hvn]; exact hn, (Array.getElem?_eq_some_iff.1 hh).1, fun j hj => ?_⟩
    obtain ⟨b, B, d, hA, -, c0, -⟩ := hmm j hj
    cases hA
    refine ⟨_, c0, ?_⟩
    have hx := (h3 j (by omega)).lw h0
    have hcj : w.cell? ⟨g, j, none⟩ = some vs[j] := by
      have e2 : (cur.toList.take (vs.length * 1))[j]? = vs[j]? := by rw [htake]
      rw [List.getElem?_take, if_pos (by omega), Array.getElem?_toList] at e2
      rw [cellOf hh, e2, List.getElem?_eq_getElem (by omega)]
    rw [hcj] at c0
    injection c0 with c0
    rw [← c0]
    exact hx
/-- What Without tells. -/
def WoR (k m NB : Nat) (P : Nat → Nat → Int) (e : Ending) (w' : World) : Prop :=
  (defP k P = false ∧ e = .returned (.tuple #[.agg #[.slice none 0 0, .slice none 0 0, .bool false, .slice none 0 0], .agg #[.bool false, .slice none 0 0], .int .i64 80])) ∨
  (defP k P = true ∧ ∃ up uq un us qn A l c q' c', e = .returned (.tuple #[.agg #[up, uq, .bool un, us], .agg #[.bool qn, .slice A l c], .int .i64 0]) ∧ Qo w' up uq un us m NB (remF P k) q' c' ∧ Nz w' qn (.slice A l c) (dd P k) NB)
theorem ret_wo {fn : Func} {p q z g g2 : Nat} {tmps : Array Value} {w : World} {a b c d n s : Value} {R : Ending → World → Prop} (h : fn.results = #[.cell p 32, .cell q 30, .tmp z]) (hp : tmps.getD p undef = .pointer (some ⟨g, 0, none⟩)) (hq : tmps.getD q undef = .pointer (some ⟨g2, 0, none⟩))
    (hb : w.heap[g]? = some (.cells #[a, b, c, d] 32)) (hb2 : w.heap[g2]? = some (.cells #[n, s] 30)) (hR : R (.returned (.tuple #[.agg #[a, b, c, d], .agg #[n, s], tmps.getD z undef])) w) : bodyPost Tryz.prog fn R .ret { tmps := tmps, defers := [] } w := by
  refine bodyPost_ret ?_ rfl hR
  have hp' : tmps[p]?.getD undef = .pointer (some ⟨g, 0, none⟩) := by simpa using hp
  have hq' : tmps[q]?.getD undef = .pointer (some ⟨g2, 0, none⟩) := by simpa using hq
  have e1 := run_loadVar_row (P := Tryz.prog) w g 32 32 _ _ _ hb Tryz.underlying32 rfl (by kernel_rfl)
  have e2 := run_loadVar_row (P := Tryz.prog) w g2 30 30 _ _ _ hb2 Tryz.underlying30 rfl (by kernel_rfl)
  simp [results, h, hp', hq', asAddr, e1, e2]

theorem keep_low {w w' : World} {base : Nat} (hkp : ∀ w0 l, Keep w0 l w → (∀ p ∈ l, p.1 < base) → w0.heap.size ≤ base → Keep w0 l w') (hb : base ≤ w.heap.size) (b : Nat) (h : b < base) : w'.heap[b]? = w.heap[b]? := by
  have hs : (w.heap.extract 0 base).size = base := by rw [Array.size_extract]; omega
  have hat : ∀ k, k < base → w.heap[k]? = (w.heap.extract 0 base)[k]? := by
    intro k hk
    rw [Array.getElem?_extract, if_pos (by omega), Nat.zero_add]
  have K : Keep { w with heap := w.heap.extract 0 base } [] w := ⟨(fun p hp => by cases hp), (fun p hp => by cases hp), by simp, ⟨rfl, rfl, rfl, by show (w.heap.extract 0 base).size ≤ _; omega, fun k hk => hat k (by rw [← hs]; exact hk)⟩⟩
  have K2 := hkp _ [] K (fun p hp => by cases hp) (Nat.le_of_eq hs)
  rw [K2.B.block b (by show b < (w.heap.extract 0 base).size; omega), K.B.block b (by show b < (w.heap.extract 0 base).size; omega)]
theorem setCell_self {w : World} {g i : Nat} {v : Value} (h : w.cell? ⟨g, i, none⟩ = some v) : w.setCell ⟨g, i, none⟩ v = w := by
  unfold World.cell? at h
  unfold World.setCell
  have e : w.heap.modify g (fun
      | .cells c elem frozen => .cells (if (none : Option Nat).isSome then c else c.setIfInBounds i v) elem frozen
      | o => o) = w.heap := by
    apply Array.ext_getElem?
    intro k
    rw [Array.getElem?_modify]
    by_cases hk : g = k
    · subst hk
      rw [if_pos rfl]
      dsimp only at h
      split at h
      case h_1 c _ _ hh =>
        rw [hh]
        have hc : c[i]? = some v := h
        have : c.setIfInBounds i v = c := by
          obtain ⟨hi, hx⟩ := Array.getElem?_eq_some_iff.1 hc
          rw [Array.setIfInBounds, dif_pos hi, ← hx, Array.set_getElem_self]
        show some _ = some _
        simp only [Option.isSome_none, Bool.false_eq_true, if_false, this]
      · cases h
    · rw [if_neg hk]
  cases w
  simp only [World.mk.injEq, and_true]
  first | exact ⟨e, rfl⟩ | exact e
/-- What the loop of Without holds: the matrix that was cut, and the first solution. -/
def WoC (w0 W : World) (base ab k N : Nat) (P : Nat → Nat → Int) (ug B : Nat) (f : Nat → Int) : Prop := M2 w0 W ab k N P ∧ ab < base ∧ w0.heap.size + 1 + 1 < ug ∧ ug < base ∧ ∃ L, W.heap[ug]? = some (Obj.lst L) ∧ L.length = k ∧ Els W L B f
section
variable {w0 W W' : World} {base ab k N ug B : Nat} {P : Nat → Nat → Int} {f : Nat → Int}
theorem WoC.below (h : WoC w0 W base ab k N P ug B f) (hb : Below W.heap.size W W') : WoC w0 W' base ab k N P ug B f := by
  obtain ⟨h1, h2, h3, h4, L, h5, h6, h7⟩ := h
  exact ⟨h1.below hb, h2, h3, h4, L, by rw [hb.block ug (Array.getElem?_eq_some_iff.1 h5).1]; exact h5, h6, h7.below hb⟩
theorem WoC.low (h : WoC w0 W base ab k N P ug B f) (hsz : W.heap.size ≤ W'.heap.size) (hl : ∀ b, b < base → W'.heap[b]? = W.heap[b]?) (hnz : ∀ {s : Bool} {t : Value} {z : Int} {M : Nat}, Nz W s t z M → Nz W' s t z M) : WoC w0 W' base ab k N P ug B f := by
  obtain ⟨h1, h2, h3, h4, L, h5, h6, h7⟩ := h
  refine ⟨⟨⟨Nat.lt_of_lt_of_le h1.1.1 hsz, h1.1.2⟩, fun j hj => ?_⟩, h2, h3, h4, L, by rw [hl ug h4]; exact h5, h6, fun j hj => hnz (h7 j hj)⟩
  obtain ⟨g, k1, k2⟩ := h1.2 j hj
  exact ⟨g, by rw [World.cell?_of_block (a := ⟨ab, j, none⟩) (hl ab h2)]; exact k1, k2⟩
theorem WoC.turn {g : Nat} (h : WoC w0 W base ab k N P ug B f) (hT : Turn (some g) W W') (hg : g = w0.heap.size + 1 ∨ g = w0.heap.size + 1 + 1) (hc : ∀ k, some g = some k → ∀ z, W.cell? ⟨k, 0, none⟩ ≠ some (.int .u32 z)) : WoC w0 W' base ab k N P ug B f := by
  obtain ⟨h1, h2, h3, h4, L, h5, h6, h7⟩ := h
  refine ⟨h1.turn hT hg, h2, h3, h4, L, ?_, h6, h7.turnO hT hc⟩
  rw [hT.2 ug (Array.getElem?_eq_some_iff.1 h5).1 (fun e => by injection e with e; omega)]
  exact h5
theorem WoC.lv (h : WoC w0 W base ab k N P ug B f) : Lv W (.slice (some ⟨ug, 0, none⟩) k k) k B f := by
  obtain ⟨h1, h2, h3, h4, L, h5, h6, h7⟩ := h
  exact Lo.lv ⟨ug, L, rfl, Nat.zero_le ug, h5, h6, h7⟩
end
end Go.Proofs.YtmidifgnpjlgcaaGreat
