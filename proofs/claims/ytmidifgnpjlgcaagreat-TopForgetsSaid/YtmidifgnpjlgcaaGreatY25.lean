/- The texts Vm, Vn of the walk of the law and of all that it calls, in one file. No condition. -/
import Derived.Test.YtmidifgnpjlgcaaGreatY24
import Derived.Test.YtmidifgnpjlgcaaGreatY23
/- The walk of Without. -/
set_option linter.unusedVariables false
set_option linter.unusedSimpArgs false
namespace Go.Proofs.YtmidifgnpjlgcaaGreat
open Go.RowKit

variable {w0 w : World} {l l2 : List (Nat × Obj)}
set_option maxHeartbeats 16000000 in
set_option maxRecDepth 100000 in
theorem without_any (vp vq cs : Value) (cn : Bool) (n k m N NB : Nat) (P : Nat → Nat → Int) (q : Nat → Int) (c : Int) (w : World) (hp : Mw w vp n n N P) (hq : Lw w vq n N q) (hcc : Nz w cn cs c N) (hnk : Hid (n = k + m)) (hk0 : 0 < k) (hkn : k ≤ n) (hm0 : 0 < m) (hn : n ≤ 11) (hk5 : k ≤ 5) (hN : 2 ≤ N) (hP : pbd N k ≤ 100000) (hNB : N + pbd N k + k + 3 ≤ NB) :
    Calls Tryz.prog 46 #[.agg #[vp, vq, .bool cn, cs], .int .i64 k] w fun e w' => WoR k m NB P e w' ∧ Below w.heap.size w w' := by
  have HMW := Lib.hid hp; have HC := Lib.hid hcc
  have hNp := pbd_ge N k
  have hm11 : m ≤ 11 := by have := hnk.out; omega
  obtain ⟨CA, cl, cc, rfl⟩ := hcc.sl
  obtain ⟨pb, pc, rfl, hpc, hpl, hrows⟩ := hp
  obtain ⟨qb, qc, rfl, hqc, hql⟩ := hq
  have HR := Lib.hid (And.intro hpl hrows); have HQ := Lib.hid hql
  have hk1 : (0 : Int) ≤ (k : Int) := by omega
  have hkz : ¬ (k : Int) < 0 := by omega
  have hkz2 : ¬ (n : Int) < (k : Int) := by omega
  have hkq : (k : Int) ≤ (qc : Int) := by omega
  have K := Lib.hid (Keep.begin3 w (.cells #[.slice (some ⟨pb, 0, none⟩) n pc, .slice (some ⟨qb, 0, none⟩) n qc, .bool cn, .slice CA cl cc] 32) (.cells #[.slice none 0 0, .slice none 0 0, .bool false, .slice none 0 0] 32) (Obj.num false (.slice none 0 0)))
  clear hcc hrows hql hpl
  go_enter Tryz.func46, Tryz.ntmps46
  go_upto_region 1 with fail
  have y0 := K.out.cell (k := 0) (.tail _ (.tail _ (.head _))) rfl
  go_upto_region 3 with fail
  go_wp2_with fail
  refine (first2_any pb pc n n k N P _ (HMW.out.below K.out.B) hk0 hkn hkn (by omega)).mono ?_
  rintro e W3 ⟨⟨ab, ac, rfl, hab, hrw⟩, hb⟩
  have K9 := K
  replace K := Lib.hid (Keep.stays _ _ K.out hb)
  have HA : Hid (M2 w W3 ab k N P) := Lib.hid (by
    refine ⟨⟨hab, fun e => ?_, fun e => ?_⟩, fun j hj => ?_⟩
    · obtain ⟨g, d, -, h2⟩ := hrw 0 hk0
      rw [e, K.out.cell (k := 0) (.tail _ (.head _)) rfl] at h2
      injection h2 with h2
      injection h2 with _ h2
      omega
    · obtain ⟨g, d, -, h2⟩ := hrw 0 hk0
      rw [e, K.out.cell (k := 0) (.head _) rfl] at h2
      cases h2
    · obtain ⟨g, d, h1, h2⟩ := hrw j hj
      obtain ⟨x, hx, g', d', rfl, -, hlv⟩ := HR.out.2 j (by omega)
      rw [K9.out.B.cell (p := ⟨pb, j, none⟩) HR.out.1, hx] at h1
      cases h1
      exact ⟨g, h2, Lv.take hlv hkn (fun e => by cases e)⟩)
  clear hb hab hrw y0 K9
  go_wp2_with fail
  refine (definite_any _ k N P _ (HA.out.mv K.out.B) (by omega) hN (by omega)).mono ?_
  rintro e W4 ⟨rfl, hb⟩
  replace K := Lib.hid (Keep.stays _ _ K.out hb)
  replace HA := Lib.hid (HA.out.below hb)
  clear hb
  cases hdf : defP k P
  · have k0 := K.out.cell (k := 0) (.tail _ (.head _)) rfl; have k1 := K.out.cell (k := 1) (.tail _ (.head _)) rfl; have k2 := K.out.cell (k := 2) (.tail _ (.head _)) rfl; have k3 := K.out.cell (k := 3) (.tail _ (.head _)) rfl
    have fk := K.out.warm (.tail _ (.head _)) 0; have fk1 := K.out.warm (.tail _ (.head _)) 1; have fk2 := K.out.warm (.tail _ (.head _)) 2; have fk3 := K.out.warm (.tail _ (.head _)) 3
    obtain ⟨f1, c0, c1⟩ := K.out.nm (.head _)
    have K2 := Lib.hid (((((K.out.set_1 0 (.slice none 0 0)).set_1 1 (.slice none 0 0)).set_1 2 (.bool false)).set_1 3 (.slice none 0 0)).putn_0 false (.slice none 0 0))
    simp only [List.setIfInBounds_toArray, List.set_cons_zero, List.set_cons_succ] at K2
    go_wp2_with fail
    refine ret_wo Tryz.results46 rfl rfl (K2.out.gb (.tail _ (.head _))) (K2.out.nb (.head _)) ?_
    exact ⟨.inl ⟨hdf, rfl⟩, K2.out.B⟩
  · obtain ⟨hsy, hpos, hdet⟩ := def_dd hk5 hdf
    have hdet := hdet hk0
    have HSW := Lib.hid (def_sweep hk5 hdf)
    have HDF := Lib.hid hdf
    clear hdf hsy hpos
    go_wp2_with fail
    refine (det_any _ k N P _ (HA.out.mv K.out.B) (by omega) hN (by omega)).mono ?_
    rintro e W5 ⟨q1, DA, dl, dc, rfl, hN1, hb⟩
    rw [hdet] at hN1
    replace K := Lib.hid (Keep.stays _ _ K.out hb)
    replace HA := Lib.hid (HA.out.below hb)
    have HD := Lib.hid hN1
    clear hb hN1 hdet
    obtain ⟨f1, c0, c1⟩ := K.out.nm (.head _)
    go_upto_region 7 with fail
    clear f1 c1
    have hT := Turn.put W5 (w.heap.size + 1 + 1) 0 1 (.bool q1) (.slice DA dl dc)
    replace HA := Lib.hid (HA.out.turn hT (.inr rfl))
    replace HD := Lib.hid (HD.out.put c0 (.bool q1) (.slice DA dl dc))
    replace K := Lib.hid (K.out.putn_0 q1 (.slice DA dl dc))
    clear c0 hT
    generalize World.setCell (World.setCell W5 _ _) _ _ = W6 at *
    have y1 := K.out.cell (k := 1) (.tail _ (.tail _ (.head _))) rfl
    go_wp2_with fail
    have HUB := Lib.hid (K.out.lt (.head _))
    refine (lsolve2_any _ _ k N P q _ (HA.out.mv K.out.B) ((Lv.take HQ.out hkn (fun e => by cases e)).below K.out.B) (by omega) hN (by omega)).mono ?_
    rintro e W7 ⟨hr, hb⟩
    obtain ⟨M1, hs1, hx1⟩ := HSW.out q
    rcases hr with ⟨hs2, -⟩ | ⟨M2, odd, u, q2, A2, l2, c2, hs2, rfl, hLu, -⟩
    · rw [hs1] at hs2; cases hs2
    rw [hs1] at hs2
    injection hs2 with hs2
    injection hs2 with e1 e2
    subst e1 e2
    replace K := Lib.hid (Keep.stays _ _ K.out hb)
    replace HA := Lib.hid (HA.out.below hb)
    replace HD := Lib.hid (HD.out.below hb)
    obtain ⟨ug, UL, rfl, hug, hub, hul, hels⟩ := hLu
    have HU : Hid (w.heap.size + 1 + 1 < ug ∧ ug < W7.heap.size ∧ W7.heap[ug]? = some (Obj.lst UL) ∧ UL.length = k ∧ Els W7 UL (pbd N k) (xx P k q)) := Lib.hid ⟨Nat.lt_of_lt_of_le HUB.out hug, (Array.getElem?_eq_some_iff.1 hub).1, hub, hul, hels.more (Nat.le_refl _) (fun j hj => hx1 j (by omega))⟩
    clear hb y1 HUB hs1 hx1 hug hub hul hels
    go_upto_region 8 with fail
    have hb := Ext.alloc W7 (.cells #[.bool q2, .slice A2 l2 c2] 30)
    replace K := Lib.hid (K.out.alloc (.cells #[.bool q2, .slice A2 l2 c2] 30)).rest
    replace HA := Lib.hid (HA.out.below hb)
    replace HD := Lib.hid (HD.out.below hb)
    replace HU : Hid (w.heap.size + 1 + 1 < ug ∧ ug < (W7.alloc (.cells #[.bool q2, .slice A2 l2 c2] 30)).heap.size ∧ (W7.alloc (.cells #[.bool q2, .slice A2 l2 c2] 30)).heap[ug]? = some (Obj.lst UL) ∧ UL.length = k ∧ Els (W7.alloc (.cells #[.bool q2, .slice A2 l2 c2] 30)) UL (pbd N k) (xx P k q)) := Lib.hid ⟨HU.out.1, Nat.lt_of_lt_of_le HU.out.2.1 hb.size, by rw [hb.block ug HU.out.2.1]; exact HU.out.2.2.1, HU.out.2.2.2.1, HU.out.2.2.2.2.below hb⟩
    clear hb
    generalize W7.heap.size = b9 at *
    generalize W7.alloc _ = W8 at *
    (refine region_ord _ 11 (by kernel_rfl) (by kernel_rfl) K.out.drew ?_; clear K; intro W K hbw; replace K := Lib.hid K)
    replace HA := Lib.hid (HA.out.below hbw)
    replace HD := Lib.hid (HD.out.below hbw)
    replace HU : Hid (w.heap.size + 1 + 1 < ug ∧ ug < W.heap.size ∧ W.heap[ug]? = some (Obj.lst UL) ∧ UL.length = k ∧ Els W UL (pbd N k) (xx P k q)) := Lib.hid ⟨HU.out.1, Nat.lt_of_lt_of_le HU.out.2.1 hbw.size, by rw [hbw.block ug HU.out.2.1]; exact HU.out.2.2.1, HU.out.2.2.2.1, HU.out.2.2.2.2.below hbw⟩
    clear hbw
    have x1 := Keep.acell (k := 1) K (.tail _ (.tail _ (.head _))) rfl; have x2 := Keep.acell (k := 2) K (.tail _ (.tail _ (.head _))) rfl; have x3 := Keep.acell (k := 3) K (.tail _ (.tail _ (.head _))) rfl
    obtain ⟨e10, e11⟩ := Keep.anm K (.head _)
    (refine Ord.take' 0 rfl (by kernel_rfl) (fun _ _ _ _ h => h) K.out (by rfl) ?_; apply Exists.intro; refine ⟨fun p => ?_, ?_⟩; (focus (go_simp; (try (with_reducible rfl)); done)); (try simp only [Act.put, List.setIfInBounds_toArray, List.set_cons_zero, List.set_cons_succ]))
    (refine Ord.take' 1 rfl (by kernel_rfl) (fun _ _ _ _ h => h) K.out (by rfl) ?_; apply Exists.intro; refine ⟨fun p => ?_, ?_⟩; (focus (go_simp; (try (with_reducible rfl)); done)); (try simp only [Act.put, List.setIfInBounds_toArray, List.set_cons_zero, List.set_cons_succ]))
    (refine Ord.take' 2 rfl (by kernel_rfl) (fun _ _ _ _ h => h) K.out (by rfl) ?_; apply Exists.intro; refine ⟨fun p => ?_, ?_⟩; (focus (go_simp; (try (with_reducible rfl)); done)); (try simp only [Act.put, List.setIfInBounds_toArray, List.set_cons_zero, List.set_cons_succ]))
    (refine Ord.take' 4 rfl (by kernel_rfl) (fun _ _ _ _ h => h) K.out (by rfl) ?_; apply Exists.intro; refine ⟨fun p => ?_, ?_⟩; (focus (go_simp; (try (with_reducible rfl)); done)); (try simp only [Act.put, List.setIfInBounds_toArray, List.set_cons_zero, List.set_cons_succ]))
    (refine Ord.take' 5 rfl (by kernel_rfl) (fun _ _ _ _ h => h) K.out (by rfl) ?_; apply Exists.intro; refine ⟨fun p => ?_, ?_⟩; (focus (go_simp; (try (with_reducible rfl)); done)); (try simp only [Act.put, List.setIfInBounds_toArray, List.set_cons_zero, List.set_cons_succ]))
    (refine Ord.take' 6 rfl (by kernel_rfl) (fun _ _ _ _ h => h) K.out (by rfl) ?_; apply Exists.intro; refine ⟨fun p => ?_, ?_⟩; (focus (go_simp; (try (with_reducible rfl)); done)); (try simp only [Act.put, List.setIfInBounds_toArray, List.set_cons_zero, List.set_cons_succ]))
    (refine Ord.take' 7 rfl (by kernel_rfl) (fun _ _ _ _ h => h) K.out (by rfl) ?_; apply Exists.intro; refine ⟨fun p => ?_, ?_⟩; (focus (go_simp; (try (with_reducible rfl)); done)); (try simp only [Act.put, List.setIfInBounds_toArray, List.set_cons_zero, List.set_cons_succ]))
    (refine Ord.take' 8 rfl (by kernel_rfl) (fun _ _ _ _ h => h) K.out (by rfl) ?_; apply Exists.intro; refine ⟨fun p => ?_, ?_⟩; (focus (go_simp; (try (with_reducible rfl)); done)); (try simp only [Act.put, List.setIfInBounds_toArray, List.set_cons_zero, List.set_cons_succ]))
    clear x1 x2 x3 e10 e11
    (refine Ord.call 3 (g := 23) (args := (#[.agg #[.bool cn, .slice CA cl cc], .agg #[.bool q1, .slice DA dl dc]])) rfl (by kernel_rfl) (by rfl) (by (go_simp; try (with_reducible rfl))) ?_)
    refine (mul_nz (HC.out.below K.out.B) HD.out (by omega) (by omega)).mono ?_
    rintro e W9 ⟨q3, A3, l3, c3, rfl, hN3, hb⟩
    (refine ⟨_, rfl, Keep.stays _ _ K.out hb, ?_⟩; replace K := Lib.hid (Keep.stays _ _ K.out hb); simp only [Act.put, List.setIfInBounds_toArray, List.set_cons_zero, List.set_cons_succ])
    replace HA := Lib.hid (HA.out.below hb)
    replace HD := Lib.hid (HD.out.below hb)
    replace HU : Hid (w.heap.size + 1 + 1 < ug ∧ ug < W9.heap.size ∧ W9.heap[ug]? = some (Obj.lst UL) ∧ UL.length = k ∧ Els W9 UL (pbd N k) (xx P k q)) := Lib.hid ⟨HU.out.1, Nat.lt_of_lt_of_le HU.out.2.1 hb.size, by rw [hb.block ug HU.out.2.1]; exact HU.out.2.2.1, HU.out.2.2.2.1, HU.out.2.2.2.2.below hb⟩
    clear hb
    (refine Ord.call 9 (g := 60) (args := (#[.slice (some ⟨qb, 0, none⟩) k qc, .slice (some ⟨ug, 0, none⟩) k k])) rfl (by kernel_rfl) (by rfl) (by (go_simp; try (with_reducible rfl))) ?_)
    refine (dot_any _ _ k N (pbd N k) q (xx P k q) _ ((Lv.take HQ.out hkn (fun e => by cases e)).below K.out.B) (Lo.lv ⟨ug, UL, rfl, Nat.zero_le _, HU.out.2.2⟩) (by omega)).mono ?_
    rintro e W10 ⟨q5, A5, l5, c5, rfl, hN5, hb⟩
    (refine ⟨_, rfl, Keep.stays _ _ K.out hb, ?_⟩; replace K := Lib.hid (Keep.stays _ _ K.out hb); simp only [Act.put, List.setIfInBounds_toArray, List.set_cons_zero, List.set_cons_succ])
    replace HA := Lib.hid (HA.out.below hb)
    replace HD := Lib.hid (HD.out.below hb)
    replace HU : Hid (w.heap.size + 1 + 1 < ug ∧ ug < W10.heap.size ∧ W10.heap[ug]? = some (Obj.lst UL) ∧ UL.length = k ∧ Els W10 UL (pbd N k) (xx P k q)) := Lib.hid ⟨HU.out.1, Nat.lt_of_lt_of_le HU.out.2.1 hb.size, by rw [hb.block ug HU.out.2.1]; exact HU.out.2.2.1, HU.out.2.2.2.1, HU.out.2.2.2.2.below hb⟩
    replace hN3 := hN3.below hb
    clear hb
    (refine Ord.call 10 (g := 59) (args := (#[.agg #[.bool q3, .slice A3 l3 c3], .agg #[.bool q5, .slice A5 l5 c5]])) rfl (by kernel_rfl) (by rfl) (by (go_simp; try (with_reducible rfl))) ?_)
    refine (sub_nz hN3 hN5 (by omega) (by omega)).mono ?_
    rintro e W11 ⟨q4, A4, l4, c4, rfl, hN4, hb⟩
    (refine ⟨_, rfl, Keep.stays _ _ K.out hb, ?_⟩; replace K := Lib.hid (Keep.stays _ _ K.out hb); simp only [Act.put, List.setIfInBounds_toArray, List.set_cons_zero, List.set_cons_succ])
    replace HA := Lib.hid (HA.out.below hb)
    replace HD := Lib.hid (HD.out.below hb)
    replace HU : Hid (w.heap.size + 1 + 1 < ug ∧ ug < W11.heap.size ∧ W11.heap[ug]? = some (Obj.lst UL) ∧ UL.length = k ∧ Els W11 UL (pbd N k) (xx P k q)) := Lib.hid ⟨HU.out.1, Nat.lt_of_lt_of_le HU.out.2.1 hb.size, by rw [hb.block ug HU.out.2.1]; exact HU.out.2.2.1, HU.out.2.2.2.1, HU.out.2.2.2.2.below hb⟩
    have HN := Lib.hid (hN4.more (show _ ≤ NB by omega))
    clear hb hN3 hN5 hN4
    (refine Ord.done (by kernel_rfl) ?_; simp only [List.drop_succ_cons, List.drop_zero, Act.put, List.setIfInBounds_toArray, List.set_cons_zero, List.set_cons_succ])
    have y2 := K.out.cell (k := 2) (.tail _ (.head _)) rfl; have y3 := K.out.cell (k := 3) (.tail _ (.head _)) rfl
    have f2 := K.out.warm (.tail _ (.head _)) 2; have f3 := K.out.warm (.tail _ (.head _)) 3
    have ht := K.out.tagq (g := w.heap.size + 1) (a := .slice none 0 0) (.tail _ (.head _)) (fun z e => by cases e)
    have hT := (Turn.set W11 (w.heap.size + 1) 2 (.bool q4)).trans (Turn.set _ (w.heap.size + 1) 3 (.slice A4 l4 c4))
    have K2 := Lib.hid ((K.out.set_1 2 (.bool q4)).set_1 3 (.slice A4 l4 c4))
    simp only [List.setIfInBounds_toArray, List.set_cons_zero, List.set_cons_succ] at K2
    go_upto_region 10 with fail
    clear y2 y3 f2 f3
    replace HA := Lib.hid (HA.out.turn hT (.inl rfl))
    replace HD := Lib.hid (HD.out.turn hT ht.2)
    replace HN := Lib.hid (HN.out.turn hT ht.2)
    have hne : some (w.heap.size + 1) ≠ some ug := fun e => by have := HU.out.1; injection e with e; omega
    have hun := (hT.2 ug HU.out.2.1 hne).trans HU.out.2.2.1
    have HW : Hid (WoC w (World.setCell (World.setCell W11 ⟨w.heap.size + 1, 2, none⟩ (.bool q4)) ⟨w.heap.size + 1, 3, none⟩ (.slice A4 l4 c4)) (World.setCell (World.setCell W11 ⟨w.heap.size + 1, 2, none⟩ (.bool q4)) ⟨w.heap.size + 1, 3, none⟩ (.slice A4 l4 c4)).heap.size ab k N P ug (pbd N k) (xx P k q)) := Lib.hid ⟨HA.out, HA.out.1.1, HU.out.1, Nat.lt_of_lt_of_le HU.out.2.1 hT.1, UL, hun, HU.out.2.2.2.1, HU.out.2.2.2.2.turnO hT ht.2⟩
    clear ht hT hne hun HU HA K
    have K := K2
    clear K2
    generalize World.setCell (World.setCell W11 _ _) _ _ = W12 at *
    obtain ⟨base, hbase⟩ : ∃ base, base = W12.heap.size := ⟨_, rfl⟩
    rw [← hbase] at HW
    have HLT : Hid (w.heap.size + 1 + 1 < base ∧ w.heap.size + 1 < base ∧ w.heap.size < base) := Lib.hid (by rw [hbase]; exact ⟨K.out.lt (.head _), K.out.lt (.tail _ (.head _)), K.out.lt (.tail _ (.tail _ (.head _)))⟩)
    have hw0 : Hid (w.heap.size ≤ base) := Lib.hid (Nat.le_of_lt HLT.out.2.2)
    go_loopg [11] m (fun gk iv wr => ∃ (i p : Nat) (OA : Option Addr) (oc : Nat) (TA : Option Addr) (tc : Nat) (vs : List Value) (L : List Nm), gk + i = m ∧ Hid (p = k + i) ∧ iv = .int .i64 (p : Int) ∧ (vs.length = i ∧ L.length = i) ∧ Bq wr base m NB (.slice OA i oc) vs (remF P k) (.slice TA i tc) L (fun i => q (k + i) * dd P k - sumTo (fun l => P (k + i) l * xx P k q l) k) ∧ (WoC w wr base ab k N P ug (pbd N k) (xx P k q) ∧ Nz wr q4 (.slice A4 l4 c4) (c * dd P k - sumTo (fun l => q l * xx P k q l) k) NB ∧ Nz wr q1 (.slice DA dl dc) (dd P k) (pbd N k)) ∧ Keep w ([(w.heap.size + 1 + 1, Obj.num q1 (.slice DA dl dc)), (w.heap.size + 1, Obj.cells #[(.slice OA i oc), (.slice TA i tc), .bool q4, .slice A4 l4 c4] 32), (w.heap.size, Obj.cells #[.slice (some ⟨pb, 0, none⟩) n pc, .slice (some ⟨qb, 0, none⟩) n qc, .bool cn, .slice CA cl cc] 32)]) wr ∧ base ≤ wr.heap.size)
    case atStart => exact ⟨0, k, none, 0, none, 0, [], [], by omega, Lib.hid rfl, rfl, ⟨rfl, rfl⟩, Bq.nil _ _ _ _ _ _, ⟨HW.out, HN.out, HD.out⟩, K.out, by rw [hbase]; exact Nat.le_refl _⟩
    case round =>
      clear K HW HN HD hbase
      obtain ⟨i, p, OA, oc, TA, tc, vs, L, hgi, hp, rfl, ⟨hvl, hLl⟩, hB, ⟨hW, hnum, hden⟩, kk, hsz⟩ := hrel
      have K := Lib.hid kk
      have HB := Lib.hid hB
      have HW := Lib.hid hW
      have HNU := Lib.hid hnum
      have HD := Lib.hid hden
      have HSZ := Lib.hid hsz
      have HWL : Hid (∀ p ∈ ([(w.heap.size + 1 + 1, Obj.num q1 (.slice DA dl dc)), (w.heap.size + 1, Obj.cells #[(.slice OA i oc), (.slice TA i tc), .bool q4, .slice A4 l4 c4] 32), (w.heap.size, Obj.cells #[.slice (some ⟨pb, 0, none⟩) n pc, .slice (some ⟨qb, 0, none⟩) n qc, .bool cn, .slice CA cl cc] 32)]), p.1 < base) := Lib.hid (fun p hp => (by simp only [List.mem_cons, List.not_mem_nil, or_false] at hp; rcases hp with rfl | rfl | rfl; exact HLT.out.1; exact HLT.out.2.1; exact HLT.out.2.2))
      clear kk hB hW hnum hden hsz
      by_cases hi : i < m
      · have hpn : p < n := by have := hp.out; have := hnk.out; omega
        have hpi : (p : Int) < (n : Int) := by omega
        obtain ⟨x, hx, g, d, rfl, hnd, hlv⟩ := HR.out.2 p hpn
        have y0 := K.out.cell (k := 0) (.tail _ (.tail _ (.head _))) rfl
        have r1 := (K.out.B.cell (p := ⟨pb, p, none⟩) HR.out.1).trans hx
        have hkd : (k : Int) ≤ (d : Int) := by omega
        have HP := Lib.hid hlv
        have HX := Lib.hid hx
        clear hx hlv
        go_wp2_with fail
        refine (lsolve2_any _ _ k N P (P p) _ (HW.out.1.mv K.out.B) ((Lv.take HP.out hkn (fun e => by cases e)).below K.out.B) (by omega) hN (by omega)).mono ?_
        rintro e W13 ⟨hr, hb⟩
        obtain ⟨M1, hs1, hx1⟩ := HSW.out (P p)
        rcases hr with ⟨hs2, -⟩ | ⟨M2, odd, u, q2, A2, l2, c2, hs2, rfl, hLu, -⟩
        · rw [hs1] at hs2; cases hs2
        rw [hs1] at hs2
        injection hs2 with hs2
        injection hs2 with e1 e2
        subst e1 e2
        replace K := Lib.hid (Keep.stays _ _ K.out hb)
        replace HB := Lib.hid (HB.out.below hb)
        replace HW := Lib.hid (HW.out.below hb)
        replace HNU := Lib.hid (HNU.out.below hb)
        replace HD := Lib.hid (HD.out.below hb)
        replace HSZ := Lib.hid (Nat.le_trans HSZ.out hb.size)
        obtain ⟨vg, VL, rfl, hvg, hvb, hvl2, hels⟩ := hLu
        have HV : Hid (Lv W13 (.slice (some ⟨vg, 0, none⟩) k k) k (pbd N k) (nnF P k i)) := Lib.hid (Lo.lv ⟨vg, VL, rfl, Nat.zero_le _, hvb, hvl2, hels.more (Nat.le_refl _) (fun j hj => by have e := hx1 j (by omega); rw [hp.out] at e; exact e)⟩)
        clear hb y0 r1 hs1 hx1 hvg hvb hvl2 hels
        go_upto_region 15 with fail
        have hb := Ext.alloc W13 (.cells #[.bool q2, .slice A2 l2 c2] 30)
        replace K := Lib.hid (Keep.stays _ _ K.out hb)
        replace HB := Lib.hid (HB.out.below hb)
        replace HW := Lib.hid (HW.out.below hb)
        replace HNU := Lib.hid (HNU.out.below hb)
        replace HD := Lib.hid (HD.out.below hb)
        replace HSZ := Lib.hid (Nat.le_trans HSZ.out hb.size)
        replace HV := Lib.hid (HV.out.below hb)
        clear hb
        generalize W13.heap.size = b9 at *
        generalize W13.alloc _ = W14 at *
        have KR := Lib.hid (Keep.start W14)
        have HQLT := Lib.hid HB.out.own.lt
        go_loopg [15, 16] m (fun gk rv jv wr2 => ∃ (j p2 : Nat) (RA : Option Addr) (rc : Nat) (LR : List Nm), gk + j = m ∧ Hid (p2 = k + j) ∧ jv = .int .i64 (p2 : Int) ∧ rv = .slice RA j rc ∧ LR.length = j ∧ Lwn wr2 W14.heap.size (.slice RA j rc) LR ∧ Els wr2 LR NB (remF P k i) ∧ Keep W14 [] wr2)
        case atStart => exact ⟨0, k, none, 0, [], by omega, Lib.hid rfl, rfl, rfl, rfl, Lwn.nil _ _, Els.nil _ _ _, KR.out⟩
        case round =>
          clear KR
          obtain ⟨j, p2, RA, rc, LR, hgj, hp2, rfl, rfl, hlr, hown, hels, k0⟩ := hrel
          have KR := Lib.hid k0
          have HO := Lib.hid hown
          have HE := Lib.hid hels
          have KO := K
          replace K := Lib.hid (Keep.stays _ _ K.out KR.out.B)
          clear k0 hown hels
          by_cases hj : j < m
          · have hp2n : p2 < n := by have := hp2.out; have := hnk.out; omega
            have hp2i : (p2 : Int) < (n : Int) := by omega
            obtain ⟨x2, hx2, g2, d2, rfl, hnd2, hlv2⟩ := HR.out.2 p2 hp2n
            have hkd2 : (k : Int) ≤ (d2 : Int) := by omega
            obtain ⟨A9, c9, hv9, -, hrow⟩ := HP.out
            cases hv9
            obtain ⟨b5, n5, B5, l5, d5, hA5, hlt5, x0, x1, hn5⟩ := hrow p2 hp2n
            cases hA5
            have HP2 := Lib.hid hlv2
            have H5 := Lib.hid hn5
            have R1 := Keep.far K HR.out.1 HX.out
            have R2 := Keep.far K HR.out.1 hx2
            have X0 := Keep.far K hlt5 x0
            have X1 := Keep.far K hlt5 x1
            have y0 := Keep.acell (k := 0) K (.tail _ (.tail _ (.head _))) rfl
            obtain ⟨e10, e11⟩ := Keep.anm K (.head _)
            have zz := K.out.cell (k := 0) (.tail _ (.tail _ (.head _))) rfl
            clear hx2 hlv2 hrow x0 x1 hn5
            go_upto_region 17 with fail
            clear zz
            (refine region_ord _ 23 (by kernel_rfl) (by kernel_rfl) K.out.drew ?_; clear K; intro W K hbw; replace K := Lib.hid K)
            replace KR := Lib.hid (Keep.stays _ _ KR.out hbw)
            replace HO := Lib.hid (HO.out.below hbw)
            replace HE := Lib.hid (HE.out.below hbw)
            clear hbw
            (refine Ord.take' 0 rfl (by kernel_rfl) (fun _ _ _ _ h => h) K.out (by rfl) ?_; apply Exists.intro; refine ⟨fun p => ?_, ?_⟩; (focus (go_simp; (try (with_reducible rfl)); done)); (try simp only [Act.put, List.setIfInBounds_toArray, List.set_cons_zero, List.set_cons_succ]))
            (refine Ord.take' 1 rfl (by kernel_rfl) (fun _ _ _ _ h => h) K.out (by rfl) ?_; apply Exists.intro; refine ⟨fun p => ?_, ?_⟩; (focus (go_simp; (try (with_reducible rfl)); done)); (try simp only [Act.put, List.setIfInBounds_toArray, List.set_cons_zero, List.set_cons_succ]))
            (refine Ord.take' 2 rfl (by kernel_rfl) (fun _ _ _ _ h => h) K.out (by rfl) ?_; apply Exists.intro; refine ⟨fun p => ?_, ?_⟩; (focus (go_simp; (try (with_reducible rfl)); done)); (try simp only [Act.put, List.setIfInBounds_toArray, List.set_cons_zero, List.set_cons_succ]))
            (refine Ord.take' 3 rfl (by kernel_rfl) (fun _ _ _ _ h => h) K.out (by rfl) ?_; apply Exists.intro; refine ⟨fun p => ?_, ?_⟩; (focus (go_simp; (try (with_reducible rfl)); done)); (try simp only [Act.put, List.setIfInBounds_toArray, List.set_cons_zero, List.set_cons_succ]))
            (refine Ord.take' 4 rfl (by kernel_rfl) (fun _ _ _ _ h => h) K.out (by rfl) ?_; apply Exists.intro; refine ⟨fun p => ?_, ?_⟩; (focus (go_simp; (try (with_reducible rfl)); done)); (try simp only [Act.put, List.setIfInBounds_toArray, List.set_cons_zero, List.set_cons_succ]))
            (refine Ord.take' 5 rfl (by kernel_rfl) (fun _ _ _ _ h => h) K.out (by rfl) ?_; apply Exists.intro; refine ⟨fun p => ?_, ?_⟩; (focus (go_simp; (try (with_reducible rfl)); done)); (try simp only [Act.put, List.setIfInBounds_toArray, List.set_cons_zero, List.set_cons_succ]))
            (refine Ord.take' 6 rfl (by kernel_rfl) (fun _ _ _ _ h => h) K.out (by rfl) ?_; apply Exists.intro; refine ⟨fun p => ?_, ?_⟩; (focus (go_simp; (try (with_reducible rfl)); done)); (try simp only [Act.put, List.setIfInBounds_toArray, List.set_cons_zero, List.set_cons_succ]))
            (refine Ord.take' 7 rfl (by kernel_rfl) (fun _ _ _ _ h => h) K.out (by rfl) ?_; apply Exists.intro; refine ⟨fun p => ?_, ?_⟩; (focus (go_simp; (try (with_reducible rfl)); done)); (try simp only [Act.put, List.setIfInBounds_toArray, List.set_cons_zero, List.set_cons_succ]))
            (refine Ord.take' 8 rfl (by kernel_rfl) (fun _ _ _ _ h => h) K.out (by rfl) ?_; apply Exists.intro; refine ⟨fun p => ?_, ?_⟩; (focus (go_simp; (try (with_reducible rfl)); done)); (try simp only [Act.put, List.setIfInBounds_toArray, List.set_cons_zero, List.set_cons_succ]))
            (refine Ord.take' 9 rfl (by kernel_rfl) (fun _ _ _ _ h => h) K.out (by rfl) ?_; apply Exists.intro; refine ⟨fun p => ?_, ?_⟩; (focus (go_simp; (try (with_reducible rfl)); done)); (try simp only [Act.put, List.setIfInBounds_toArray, List.set_cons_zero, List.set_cons_succ]))
            (refine Ord.take' 11 rfl (by kernel_rfl) (fun _ _ _ _ h => h) K.out (by rfl) ?_; apply Exists.intro; refine ⟨fun p => ?_, ?_⟩; (focus (go_simp; (try (with_reducible rfl)); done)); (try simp only [Act.put, List.setIfInBounds_toArray, List.set_cons_zero, List.set_cons_succ]))
            (refine Ord.take' 12 rfl (by kernel_rfl) (fun _ _ _ _ h => h) K.out (by rfl) ?_; apply Exists.intro; refine ⟨fun p => ?_, ?_⟩; (focus (go_simp; (try (with_reducible rfl)); done)); (try simp only [Act.put, List.setIfInBounds_toArray, List.set_cons_zero, List.set_cons_succ]))
            (refine Ord.take' 13 rfl (by kernel_rfl) (fun _ _ _ _ h => h) K.out (by rfl) ?_; apply Exists.intro; refine ⟨fun p => ?_, ?_⟩; (focus (go_simp; (try (with_reducible rfl)); done)); (try simp only [Act.put, List.setIfInBounds_toArray, List.set_cons_zero, List.set_cons_succ]))
            (refine Ord.take' 14 rfl (by kernel_rfl) (fun _ _ _ _ h => h) K.out (by rfl) ?_; apply Exists.intro; refine ⟨fun p => ?_, ?_⟩; (focus (go_simp; (try (with_reducible rfl)); done)); (try simp only [Act.put, List.setIfInBounds_toArray, List.set_cons_zero, List.set_cons_succ]))
            (refine Ord.take' 15 rfl (by kernel_rfl) (fun _ _ _ _ h => h) K.out (by rfl) ?_; apply Exists.intro; refine ⟨fun p => ?_, ?_⟩; (focus (go_simp; (try (with_reducible rfl)); done)); (try simp only [Act.put, List.setIfInBounds_toArray, List.set_cons_zero, List.set_cons_succ]))
            (refine Ord.take' 16 rfl (by kernel_rfl) (fun _ _ _ _ h => h) K.out (by rfl) ?_; apply Exists.intro; refine ⟨fun p => ?_, ?_⟩; (focus (go_simp; (try (with_reducible rfl)); done)); (try simp only [Act.put, List.setIfInBounds_toArray, List.set_cons_zero, List.set_cons_succ]))
            (refine Ord.take' 17 rfl (by kernel_rfl) (fun _ _ _ _ h => h) K.out (by rfl) ?_; apply Exists.intro; refine ⟨fun p => ?_, ?_⟩; (focus (go_simp; (try (with_reducible rfl)); done)); (try simp only [Act.put, List.setIfInBounds_toArray, List.set_cons_zero, List.set_cons_succ]))
            (refine Ord.take' 18 rfl (by kernel_rfl) (fun _ _ _ _ h => h) K.out (by rfl) ?_; apply Exists.intro; refine ⟨fun p => ?_, ?_⟩; (focus (go_simp; (try (with_reducible rfl)); done)); (try simp only [Act.put, List.setIfInBounds_toArray, List.set_cons_zero, List.set_cons_succ]))
            clear R1 R2 X0 X1 y0 e10 e11
            (refine Ord.call 10 (g := 23) (args := (#[.agg #[.bool n5, .slice B5 l5 d5], .agg #[.bool q1, .slice DA dl dc]])) rfl (by kernel_rfl) (by rfl) (by (go_simp; try (with_reducible rfl))) ?_)
            refine (mul_nz (H5.out.below K.out.B) (HD.out.below KR.out.B) (by omega) (by omega)).mono ?_
            rintro e W15 ⟨q5, A5, l6, c5, rfl, hN5, hb⟩
            (refine ⟨_, rfl, Keep.stays _ _ K.out hb, ?_⟩; replace K := Lib.hid (Keep.stays _ _ K.out hb); simp only [Act.put, List.setIfInBounds_toArray, List.set_cons_zero, List.set_cons_succ])
            replace KR := Lib.hid (Keep.stays _ _ KR.out hb)
            replace HO := Lib.hid (HO.out.below hb)
            replace HE := Lib.hid (HE.out.below hb)
            clear hb
            (refine Ord.call 19 (g := 60) (args := (#[.slice (some ⟨vg, 0, none⟩) k k, .slice (some ⟨g2, 0, none⟩) k d2])) rfl (by kernel_rfl) (by rfl) (by (go_simp; try (with_reducible rfl))) ?_)
            refine (dot_any _ _ k (pbd N k) N (nnF P k i) (P p2) _ (HV.out.below KR.out.B) ((Lv.take HP2.out hkn (fun e => by cases e)).below K.out.B) (by omega)).mono ?_
            rintro e W16 ⟨q6, A6, l7, c6, rfl, hN6, hb⟩
            (refine ⟨_, rfl, Keep.stays _ _ K.out hb, ?_⟩; replace K := Lib.hid (Keep.stays _ _ K.out hb); simp only [Act.put, List.setIfInBounds_toArray, List.set_cons_zero, List.set_cons_succ])
            replace KR := Lib.hid (Keep.stays _ _ KR.out hb)
            replace HO := Lib.hid (HO.out.below hb)
            replace HE := Lib.hid (HE.out.below hb)
            replace hN5 := hN5.below hb
            clear hb
            (refine Ord.call 20 (g := 59) (args := (#[.agg #[.bool q5, .slice A5 l6 c5], .agg #[.bool q6, .slice A6 l7 c6]])) rfl (by kernel_rfl) (by rfl) (by (go_simp; try (with_reducible rfl))) ?_)
            refine (sub_nz hN5 hN6 (by omega) (by omega)).mono ?_
            rintro e W17 ⟨q7, A7, l8, c7, rfl, hN7, hb⟩
            (refine ⟨_, rfl, Keep.stays _ _ K.out hb, ?_⟩; replace K := Lib.hid (Keep.stays _ _ K.out hb); simp only [Act.put, List.setIfInBounds_toArray, List.set_cons_zero, List.set_cons_succ])
            replace KR := Lib.hid (Keep.stays _ _ KR.out hb)
            replace HO := Lib.hid (HO.out.below hb)
            replace HE := Lib.hid (HE.out.below hb)
            clear hb hN5 hN6
            have hval : P p p2 * dd P k - sumTo (fun l => nnF P k i l * P p2 l) k = remF P k i j := by rw [hp.out, hp2.out]; rfl
            have H7 := Lib.hid ((hN7.more (show _ ≤ NB by omega)).val hval)
            clear hN7 hval
            have KC := Lib.hid (K.out.alloc (.cells #[.bool q7, .slice A7 l8 c7] 30))
            obtain ⟨v', W18, hrun, hlw, hT, -, hkp⟩ := app1n 27 W14.heap.size (.slice RA j rc) LR ⟨q7, A7, l8, c7⟩ HO.out (by omega) KR.out.B.size
            have hK := hkp w _ K.out (fun p hp => Nat.lt_of_lt_of_le (HWL.out p hp) HSZ.out) (Nat.le_trans hw0.out HSZ.out)
            refine Ord.lay 21 (v := .slice (some ⟨W17.heap.size, 0, none⟩) 1 1) rfl (by kernel_rfl) (by rfl) (by (go_simp; try (with_reducible rfl))) KC.out.rest ?_
            simp only [Act.put, List.setIfInBounds_toArray, List.set_cons_zero, List.set_cons_succ]
            refine Ord.lay 22 (v := v') rfl (by kernel_rfl) (by rfl) (exec_append (.tmp 90) (.tmp 111) 27 rfl hrun) hK ?_
            simp only [Act.put, List.setIfInBounds_toArray, List.set_cons_zero, List.set_cons_succ]
            have hE2 := (HE.out.turnO hT HO.out.2).snoc ⟨q7, A7, l8, c7⟩ (by rw [hlr]; exact H7.out.turn hT HO.out.2)
            have KR2 := Lib.hid (hkp W14 [] KR.out (fun p hp => by cases hp) (Nat.le_refl _))
            have HO2 := Lib.hid hlw
            have HE2 := Lib.hid hE2
            obtain ⟨VA9, vc9, rfl⟩ := hlw.sl
            have hlr2 : (LR ++ [(⟨q7, A7, l8, c7⟩ : Nm)]).length = j + 1 := by rw [List.length_append, hlr]; rfl
            rw [hlr2] at HO2 ⊢
            clear hrun hlw hT hkp hE2 hK KC HO HE KR H7
            (refine Ord.done (by kernel_rfl) ?_; simp only [List.drop_succ_cons, List.drop_zero, Act.put, List.setIfInBounds_toArray, List.set_cons_zero, List.set_cons_succ])
            go_wp2_with fail
            go_roundg (m - j - 1)
            case measure => omega
            case rel => exact ⟨j + 1, p2 + 1, VA9, vc9, _, by omega, Lib.hid (by have := hp2.out; omega), congrArg (Value.int .i64) (by omega), rfl, hlr2, HO2.out, HE2.out, KR2.out⟩
          · have hje : j = m := by omega
            subst hje
            have hpe : p2 = n := by have := hp2.out; have := hnk.out; omega
            subst hpe
            have hjz : ¬ (p2 : Int) < (p2 : Int) := by omega
            have hbr := KR.out.B
            replace HB := Lib.hid (HB.out.below hbr)
            replace HW := Lib.hid (HW.out.below hbr)
            replace HNU := Lib.hid (HNU.out.below hbr)
            replace HD := Lib.hid (HD.out.below hbr)
            have HQL : Hid (∀ k, (Value.slice TA i tc).ownBlock = some k → (Value.slice RA j rc).ownBlock ≠ some k) := Lib.hid (fun k hk e => by
              have h1 := HQLT.out k hk
              have h2 := HO.out.base k e
              omega)
            have HX2 : Hid (Lr wr (.slice RA j rc) j NB (remF P k i)) := Lib.hid ⟨LR, ⟨owns_mono HO.out.1 (Nat.zero_le _), HO.out.2⟩, hlr, HE.out⟩
            replace HSZ := Lib.hid (Nat.le_trans HSZ.out hbr.size)
            clear KO HO HE KR hbr HQLT HV
            obtain ⟨v', W17, hrun, hB2, hs2, hkp, hnz2⟩ := HB.out.appP 26 (by rw [hvl]; exact HX2.out) HQL.out (by omega) HSZ.out
            have K2 := Lib.hid (hkp w _ K.out HWL.out hw0.out)
            have HRUN := Lib.hid hrun
            replace HW := Lib.hid (HW.out.low hs2 (keep_low hkp HSZ.out) hnz2)
            replace HB := Lib.hid hB2
            replace HNU := Lib.hid (hnz2 HNU.out)
            replace HD := Lib.hid (hnz2 HD.out)
            replace HSZ := Lib.hid (Nat.le_trans HSZ.out hs2)
            obtain ⟨VP, vpc, rfl, -⟩ := hB2.rows.at
            have hvl2 : (vs ++ [Value.slice RA j rc]).length = i + 1 := by rw [List.length_append, hvl]; rfl
            rw [hvl2] at HB HRUN
            clear hrun hB2 hs2 hkp hnz2 HX2 HQL
            have y0 := K.out.cell (k := 0) (.tail _ (.head _)) rfl
            have zz := K.out.cell (k := 0) (.tail _ (.tail _ (.head _))) rfl
            have y1 := K2.out.cell (k := 0) (.tail _ (.head _)) rfl
            have fy := K2.out.warm (.tail _ (.head _)) 0
            go_upto_region 19 with (at_builtin; refine wpList_exec rfl (exec_append (.tmp 114) (.tmp 116) 26 rfl HRUN.out) ?_)
            clear y0 y1 fy zz HRUN K
            have ht := K2.out.tagq (g := w.heap.size + 1) (a := .slice OA i oc) (.tail _ (.head _)) (fun z e => by cases e)
            have hT := Turn.set W17 (w.heap.size + 1) 0 (.slice VP (i + 1) vpc)
            replace HB := Lib.hid (HB.out.turn hT ht.1 (by decide) (by decide) ht.2)
            replace HW := Lib.hid (HW.out.turn hT (.inl rfl) ht.2)
            replace HNU := Lib.hid (HNU.out.turn hT ht.2)
            replace HD := Lib.hid (HD.out.turn hT ht.2)
            replace HSZ := Lib.hid (Nat.le_trans HSZ.out hT.1)
            have K := Lib.hid (K2.out.set_1 0 (.slice VP (i + 1) vpc))
            simp only [List.setIfInBounds_toArray, List.set_cons_zero, List.set_cons_succ] at K
            clear ht hT K2
            generalize World.setCell W17 _ _ = W18 at *
            obtain ⟨b7, n7, B7, l7, d7, hA7, hlt7, x0, x1, hn7⟩ := HQ.out.at p hpn
            have H7 := Lib.hid hn7
            have R1 := Keep.far K HR.out.1 HX.out
            have X0 := Keep.far K hlt7 x0
            have X1 := Keep.far K hlt7 x1
            have y1 := Keep.acell (k := 1) K (.tail _ (.head _)) rfl
            have z0 := Keep.acell (k := 0) K (.tail _ (.tail _ (.head _))) rfl
            have z1 := Keep.acell (k := 1) K (.tail _ (.tail _ (.head _))) rfl
            obtain ⟨e10, e11⟩ := Keep.anm K (.head _)
            cases hA7
            clear x0 x1 hn7
            (refine region_ord _ 21 (by kernel_rfl) (by kernel_rfl) K.out.drew ?_; clear K; intro W K hbw; replace K := Lib.hid K)
            replace HB := Lib.hid (HB.out.below hbw)
            replace HW := Lib.hid (HW.out.below hbw)
            replace HNU := Lib.hid (HNU.out.below hbw)
            replace HD := Lib.hid (HD.out.below hbw)
            replace HSZ := Lib.hid (Nat.le_trans HSZ.out hbw.size)
            clear hbw
            (refine Ord.take' 0 rfl (by kernel_rfl) (fun _ _ _ _ h => h) K.out (by rfl) ?_; apply Exists.intro; refine ⟨fun p => ?_, ?_⟩; (focus (go_simp; (try (with_reducible rfl)); done)); (try simp only [Act.put, List.setIfInBounds_toArray, List.set_cons_zero, List.set_cons_succ]))
            (refine Ord.take' 1 rfl (by kernel_rfl) (fun _ _ _ _ h => h) K.out (by rfl) ?_; apply Exists.intro; refine ⟨fun p => ?_, ?_⟩; (focus (go_simp; (try (with_reducible rfl)); done)); (try simp only [Act.put, List.setIfInBounds_toArray, List.set_cons_zero, List.set_cons_succ]))
            (refine Ord.take' 2 rfl (by kernel_rfl) (fun _ _ _ _ h => h) K.out (by rfl) ?_; apply Exists.intro; refine ⟨fun p => ?_, ?_⟩; (focus (go_simp; (try (with_reducible rfl)); done)); (try simp only [Act.put, List.setIfInBounds_toArray, List.set_cons_zero, List.set_cons_succ]))
            (refine Ord.take' 3 rfl (by kernel_rfl) (fun _ _ _ _ h => h) K.out (by rfl) ?_; apply Exists.intro; refine ⟨fun p => ?_, ?_⟩; (focus (go_simp; (try (with_reducible rfl)); done)); (try simp only [Act.put, List.setIfInBounds_toArray, List.set_cons_zero, List.set_cons_succ]))
            (refine Ord.take' 4 rfl (by kernel_rfl) (fun _ _ _ _ h => h) K.out (by rfl) ?_; apply Exists.intro; refine ⟨fun p => ?_, ?_⟩; (focus (go_simp; (try (with_reducible rfl)); done)); (try simp only [Act.put, List.setIfInBounds_toArray, List.set_cons_zero, List.set_cons_succ]))
            (refine Ord.take' 5 rfl (by kernel_rfl) (fun _ _ _ _ h => h) K.out (by rfl) ?_; apply Exists.intro; refine ⟨fun p => ?_, ?_⟩; (focus (go_simp; (try (with_reducible rfl)); done)); (try simp only [Act.put, List.setIfInBounds_toArray, List.set_cons_zero, List.set_cons_succ]))
            (refine Ord.take' 6 rfl (by kernel_rfl) (fun _ _ _ _ h => h) K.out (by rfl) ?_; apply Exists.intro; refine ⟨fun p => ?_, ?_⟩; (focus (go_simp; (try (with_reducible rfl)); done)); (try simp only [Act.put, List.setIfInBounds_toArray, List.set_cons_zero, List.set_cons_succ]))
            (refine Ord.take' 7 rfl (by kernel_rfl) (fun _ _ _ _ h => h) K.out (by rfl) ?_; apply Exists.intro; refine ⟨fun p => ?_, ?_⟩; (focus (go_simp; (try (with_reducible rfl)); done)); (try simp only [Act.put, List.setIfInBounds_toArray, List.set_cons_zero, List.set_cons_succ]))
            (refine Ord.take' 9 rfl (by kernel_rfl) (fun _ _ _ _ h => h) K.out (by rfl) ?_; apply Exists.intro; refine ⟨fun p => ?_, ?_⟩; (focus (go_simp; (try (with_reducible rfl)); done)); (try simp only [Act.put, List.setIfInBounds_toArray, List.set_cons_zero, List.set_cons_succ]))
            (refine Ord.take' 10 rfl (by kernel_rfl) (fun _ _ _ _ h => h) K.out (by rfl) ?_; apply Exists.intro; refine ⟨fun p => ?_, ?_⟩; (focus (go_simp; (try (with_reducible rfl)); done)); (try simp only [Act.put, List.setIfInBounds_toArray, List.set_cons_zero, List.set_cons_succ]))
            (refine Ord.take' 11 rfl (by kernel_rfl) (fun _ _ _ _ h => h) K.out (by rfl) ?_; apply Exists.intro; refine ⟨fun p => ?_, ?_⟩; (focus (go_simp; (try (with_reducible rfl)); done)); (try simp only [Act.put, List.setIfInBounds_toArray, List.set_cons_zero, List.set_cons_succ]))
            (refine Ord.take' 12 rfl (by kernel_rfl) (fun _ _ _ _ h => h) K.out (by rfl) ?_; apply Exists.intro; refine ⟨fun p => ?_, ?_⟩; (focus (go_simp; (try (with_reducible rfl)); done)); (try simp only [Act.put, List.setIfInBounds_toArray, List.set_cons_zero, List.set_cons_succ]))
            (refine Ord.take' 13 rfl (by kernel_rfl) (fun _ _ _ _ h => h) K.out (by rfl) ?_; apply Exists.intro; refine ⟨fun p => ?_, ?_⟩; (focus (go_simp; (try (with_reducible rfl)); done)); (try simp only [Act.put, List.setIfInBounds_toArray, List.set_cons_zero, List.set_cons_succ]))
            (refine Ord.take' 14 rfl (by kernel_rfl) (fun _ _ _ _ h => h) K.out (by rfl) ?_; apply Exists.intro; refine ⟨fun p => ?_, ?_⟩; (focus (go_simp; (try (with_reducible rfl)); done)); (try simp only [Act.put, List.setIfInBounds_toArray, List.set_cons_zero, List.set_cons_succ]))
            (refine Ord.take' 15 rfl (by kernel_rfl) (fun _ _ _ _ h => h) K.out (by rfl) ?_; apply Exists.intro; refine ⟨fun p => ?_, ?_⟩; (focus (go_simp; (try (with_reducible rfl)); done)); (try simp only [Act.put, List.setIfInBounds_toArray, List.set_cons_zero, List.set_cons_succ]))
            (refine Ord.take' 16 rfl (by kernel_rfl) (fun _ _ _ _ h => h) K.out (by rfl) ?_; apply Exists.intro; refine ⟨fun p => ?_, ?_⟩; (focus (go_simp; (try (with_reducible rfl)); done)); (try simp only [Act.put, List.setIfInBounds_toArray, List.set_cons_zero, List.set_cons_succ]))
            clear R1 X0 X1 y1 z0 z1 e10 e11
            (refine Ord.call 8 (g := 23) (args := (#[.agg #[.bool n7, .slice B7 l7 d7], .agg #[.bool q1, .slice DA dl dc]])) rfl (by kernel_rfl) (by rfl) (by (go_simp; try (with_reducible rfl))) ?_)
            refine (mul_nz (H7.out.below K.out.B) HD.out (by omega) (by omega)).mono ?_
            rintro e W19 ⟨q5, A5, l5, c5, rfl, hN5, hb⟩
            (refine ⟨_, rfl, Keep.stays _ _ K.out hb, ?_⟩; replace K := Lib.hid (Keep.stays _ _ K.out hb); simp only [Act.put, List.setIfInBounds_toArray, List.set_cons_zero, List.set_cons_succ])
            replace HB := Lib.hid (HB.out.below hb)
            replace HW := Lib.hid (HW.out.below hb)
            replace HNU := Lib.hid (HNU.out.below hb)
            replace HD := Lib.hid (HD.out.below hb)
            replace HSZ := Lib.hid (Nat.le_trans HSZ.out hb.size)
            clear hb
            (refine Ord.call 17 (g := 60) (args := (#[.slice (some ⟨g, 0, none⟩) k d, .slice (some ⟨ug, 0, none⟩) k k])) rfl (by kernel_rfl) (by rfl) (by (go_simp; try (with_reducible rfl))) ?_)
            refine (dot_any _ _ k N (pbd N k) (P p) (xx P k q) _ ((Lv.take HP.out hkn (fun e => by cases e)).below K.out.B) HW.out.lv (by omega)).mono ?_
            rintro e W20 ⟨q6, A6, l6, c6, rfl, hN6, hb⟩
            (refine ⟨_, rfl, Keep.stays _ _ K.out hb, ?_⟩; replace K := Lib.hid (Keep.stays _ _ K.out hb); simp only [Act.put, List.setIfInBounds_toArray, List.set_cons_zero, List.set_cons_succ])
            replace HB := Lib.hid (HB.out.below hb)
            replace HW := Lib.hid (HW.out.below hb)
            replace HNU := Lib.hid (HNU.out.below hb)
            replace HD := Lib.hid (HD.out.below hb)
            replace HSZ := Lib.hid (Nat.le_trans HSZ.out hb.size)
            replace hN5 := hN5.below hb
            clear hb
            (refine Ord.call 18 (g := 59) (args := (#[.agg #[.bool q5, .slice A5 l5 c5], .agg #[.bool q6, .slice A6 l6 c6]])) rfl (by kernel_rfl) (by rfl) (by (go_simp; try (with_reducible rfl))) ?_)
            refine (sub_nz hN5 hN6 (by omega) (by omega)).mono ?_
            rintro e W21 ⟨q8, A8, l8, c8, rfl, hN8, hb⟩
            (refine ⟨_, rfl, Keep.stays _ _ K.out hb, ?_⟩; replace K := Lib.hid (Keep.stays _ _ K.out hb); simp only [Act.put, List.setIfInBounds_toArray, List.set_cons_zero, List.set_cons_succ])
            replace HB := Lib.hid (HB.out.below hb)
            replace HW := Lib.hid (HW.out.below hb)
            replace HNU := Lib.hid (HNU.out.below hb)
            replace HD := Lib.hid (HD.out.below hb)
            replace HSZ := Lib.hid (Nat.le_trans HSZ.out hb.size)
            clear hb hN5 hN6
            have hval : q p * dd P k - sumTo (fun l => P p l * xx P k q l) k = q (k + L.length) * dd P k - sumTo (fun l => P (k + L.length) l * xx P k q l) k := by rw [hLl, hp.out]
            have H8 := Lib.hid ((hN8.more (show _ ≤ NB by omega)).val hval)
            clear hN8 hval
            have KC := Lib.hid (K.out.alloc (.cells #[.bool q8, .slice A8 l8 c8] 30))
            obtain ⟨v', W22, hrun, hB2, hs2, hkp, hnz2⟩ := HB.out.appQ 27 ⟨q8, A8, l8, c8⟩ H8.out (by omega) HSZ.out
            have hK := hkp w _ K.out (fun p hp => by simp only [List.mem_cons, List.not_mem_nil, or_false] at hp; rcases hp with rfl | rfl | rfl; exact HLT.out.1; exact HLT.out.2.1; exact HLT.out.2.2) hw0.out
            refine Ord.lay 19 (v := .slice (some ⟨W21.heap.size, 0, none⟩) 1 1) rfl (by kernel_rfl) (by rfl) (by (go_simp; try (with_reducible rfl))) KC.out.rest ?_
            simp only [Act.put, List.setIfInBounds_toArray, List.set_cons_zero, List.set_cons_succ]
            refine Ord.lay 20 (v := v') rfl (by kernel_rfl) (by rfl) (exec_append (.tmp 120) (.tmp 138) 27 rfl hrun) hK ?_
            simp only [Act.put, List.setIfInBounds_toArray, List.set_cons_zero, List.set_cons_succ]
            replace HW := Lib.hid (HW.out.low hs2 (keep_low hkp HSZ.out) hnz2)
            replace HB := Lib.hid hB2
            replace HNU := Lib.hid (hnz2 HNU.out)
            replace HD := Lib.hid (hnz2 HD.out)
            replace HSZ := Lib.hid (Nat.le_trans HSZ.out hs2)
            replace K := Lib.hid hK
            clear H8 KC hrun hB2 hs2 hkp hnz2 hK
            (refine Ord.done (by kernel_rfl) ?_; simp only [List.drop_succ_cons, List.drop_zero, Act.put, List.setIfInBounds_toArray, List.set_cons_zero, List.set_cons_succ])
            obtain ⟨VA, vc, rfl⟩ := HB.out.own.sl
            have hLl2 : (L ++ [(⟨q8, A8, l8, c8⟩ : Nm)]).length = i + 1 := by rw [List.length_append, hLl]; rfl
            rw [hLl2] at HB ⊢
            have y0 := K.out.cell (k := 1) (.tail _ (.head _)) rfl
            have fy := K.out.warm (.tail _ (.head _)) 1
            go_wp2_with fail
            clear y0 fy
            have ht := K.out.tagq (g := w.heap.size + 1) (a := .slice VP (i + 1) vpc) (.tail _ (.head _)) (fun z e => by cases e)
            have hT := Turn.set W22 (w.heap.size + 1) 1 (.slice VA (i + 1) vc)
            replace HB := Lib.hid (HB.out.turn hT ht.1 (by decide) (by decide) ht.2)
            replace HW := Lib.hid (HW.out.turn hT (.inl rfl) ht.2)
            replace HNU := Lib.hid (HNU.out.turn hT ht.2)
            replace HD := Lib.hid (HD.out.turn hT ht.2)
            replace HSZ := Lib.hid (Nat.le_trans HSZ.out hT.1)
            replace K := Lib.hid (K.out.set_1 1 (.slice VA (i + 1) vc))
            simp only [List.setIfInBounds_toArray, List.set_cons_zero, List.set_cons_succ] at K
            clear ht hT
            go_roundg (j - i - 1)
            case measure => omega
            case rel => exact ⟨i + 1, p + 1, VP, vpc, VA, vc, _, _, by omega, Lib.hid (by have := hp.out; omega), congrArg (Value.int .i64) (by omega), ⟨hvl2, hLl2⟩, HB.out, ⟨HW.out, HNU.out, HD.out⟩, K.out, HSZ.out⟩
      · have hie : i = m := by omega
        subst hie
        have hpe : p = n := by have := hp.out; have := hnk.out; omega
        subst hpe
        have hiz : ¬ (p : Int) < (p : Int) := by omega
        have HQO := Lib.hid (HB.out.done hvl hLl HNU.out)
        have y0 := K.out.cell (k := 0) (.tail _ (.tail _ (.head _))) rfl
        clear HB HW HNU HSZ HWL
        go_upto_region 20 with fail
        clear y0
        (refine region_ord _ 3 (by kernel_rfl) (by kernel_rfl) K.out.drew ?_; clear K; intro W K hbw; replace K := Lib.hid K)
        replace HQO := Lib.hid (HQO.out.below hbw)
        replace HD := Lib.hid (HD.out.below hbw)
        clear hbw
        have y0 := Keep.acell (k := 0) K (.tail _ (.head _)) rfl; have y1 := Keep.acell (k := 1) K (.tail _ (.head _)) rfl; have y2 := Keep.acell (k := 2) K (.tail _ (.head _)) rfl; have y3 := Keep.acell (k := 3) K (.tail _ (.head _)) rfl
        obtain ⟨e10, e11⟩ := Keep.anm K (.head _)
        (refine Ord.take' 0 rfl (by kernel_rfl) (fun _ _ _ _ h => h) K.out (by rfl) ?_; apply Exists.intro; refine ⟨fun p => ?_, ?_⟩; (focus (go_simp; (try (with_reducible rfl)); done)); (try simp only [Act.put, List.setIfInBounds_toArray, List.set_cons_zero, List.set_cons_succ]))
        (refine Ord.take' 1 rfl (by kernel_rfl) (fun _ _ _ _ h => h) K.out (by rfl) ?_; apply Exists.intro; refine ⟨fun p => ?_, ?_⟩; (focus (go_simp; (try (with_reducible rfl)); done)); (try simp only [Act.put, List.setIfInBounds_toArray, List.set_cons_zero, List.set_cons_succ]))
        clear y0 y1 y2 y3 e10 e11
        (refine Ord.ways [2] (by kernel_rfl) ?_; intro i hi; simp only [List.mem_cons, List.not_mem_nil, or_false] at hi; rcases hi with (rfl))
        have k0 : W.cell? ⟨w.heap.size + 1, 0, none⟩ = some (.slice OA i oc) := K.out.cell (k := 0) (.tail _ (.head _)) rfl
        have k1 : W.cell? ⟨w.heap.size + 1, 1, none⟩ = some (.slice TA i tc) := K.out.cell (k := 1) (.tail _ (.head _)) rfl
        have k2 : W.cell? ⟨w.heap.size + 1, 2, none⟩ = some (.bool q4) := K.out.cell (k := 2) (.tail _ (.head _)) rfl
        have k3 : W.cell? ⟨w.heap.size + 1, 3, none⟩ = some (.slice A4 l4 c4) := K.out.cell (k := 3) (.tail _ (.head _)) rfl
        have fk := K.out.warm (.tail _ (.head _)) 0; have fk1 := K.out.warm (.tail _ (.head _)) 1; have fk2 := K.out.warm (.tail _ (.head _)) 2; have fk3 := K.out.warm (.tail _ (.head _)) 3
        have hse : (((W.setCell ⟨w.heap.size + 1, 0, none⟩ (.slice OA i oc)).setCell ⟨w.heap.size + 1, 1, none⟩ (.slice TA i tc)).setCell ⟨w.heap.size + 1, 2, none⟩ (.bool q4)).setCell ⟨w.heap.size + 1, 3, none⟩ (.slice A4 l4 c4) = W := by rw [setCell_self k0, setCell_self k1, setCell_self k2, setCell_self k3]
        refine Way.skip rfl (by rfl) (by (go_simp; try (with_reducible rfl))) ⟨K.out, ?_⟩
        clear k0 k1 k2 k3 fk fk1 fk2 fk3 hse
        (refine Ord.done (by kernel_rfl) ?_; simp only [List.drop_succ_cons, List.drop_zero, Act.put, List.setIfInBounds_toArray, List.set_cons_zero, List.set_cons_succ])
        obtain ⟨f1, c0, c1⟩ := K.out.nm (.head _)
        go_wp2_with fail
        have hse : ((W.setCell ⟨w.heap.size + 1 + 1, 0, none⟩ (.bool q1)).setCell ⟨w.heap.size + 1 + 1, 1, none⟩ (.slice DA dl dc)) = W := by rw [setCell_self c0, setCell_self c1]
        rw [hse]
        refine ret_wo Tryz.results46 rfl rfl (K.out.gb (.tail _ (.head _))) (K.out.nb (.head _)) ?_
        exact ⟨.inr ⟨HDF.out, _, _, _, _, _, _, _, _, _, _, rfl, HQO.out, HD.out.more (by omega)⟩, K.out.B⟩
end Go.Proofs.YtmidifgnpjlgcaaGreat
/- Rows of one's own, as Out lays them. -/
set_option linter.unusedVariables false
set_option linter.unusedSimpArgs false
namespace Go.Proofs.YtmidifgnpjlgcaaGreat
open Go.RowKit

theorem info_row : (Tryz.prog.info? 70).map (fun i => (i.zero, i.size, i.bytes)) = some (some (.agg #[.slice none 0 0, .int .i64 0, .int .i64 0, .int .i64 0]), 4, 48) := by kernel_rfl
/-- A growing list of rows. -/
def Rown (w : World) (base : Nat) (v : Value) (n : Nat) : Prop := ∃ xs, w.ownsRow base 70 4 v n xs ∧ (∀ k, v.ownBlock = some k → ∀ z, w.cell? ⟨k, 0, none⟩ ≠ some (.int .u32 z)) ∧ ∀ x, xs[0]? = some x → ∃ A m c, x = .slice A m c
theorem Rown.nil (w : World) (base : Nat) : Rown w base (.slice none 0 0) 0 := ⟨[], ⟨rfl, .inl ⟨rfl, rfl⟩⟩, (fun k h => by cases h), fun x hx => by cases hx⟩
theorem Rown.sl {w : World} {base n : Nat} {v : Value} (h : Rown w base v n) : ∃ A c, v = .slice A n c := by
  obtain ⟨xs, h, -⟩ := h
  rcases h.2 with ⟨rfl, h0⟩ | ⟨g, cap, cur, rfl, _⟩
  · exact ⟨none, 0, by rw [h0]⟩
  · exact ⟨_, cap, rfl⟩
theorem Rown.tag {w : World} {base n : Nat} {v : Value} (h : Rown w base v n) : Tagged w v.ownBlock 70 ∧ ∀ k, v.ownBlock = some k → ∀ z, w.cell? ⟨k, 0, none⟩ ≠ some (.int .u32 z) := by
  obtain ⟨xs, h, h2, -⟩ := h
  refine ⟨fun k hk => ?_, h2⟩
  rcases h.2 with ⟨rfl, _⟩ | ⟨g, cap, cur, rfl, hb, hh, _⟩
  · simp [Value.ownBlock] at hk
  · have : g = k := by simpa [Value.ownBlock] using hk
    rw [← this]
    exact ⟨cur, hh⟩
theorem Rown.below {w w1 : World} {base n : Nat} {v : Value} (h : Rown w base v n) (hb : Below w.heap.size w w1) : Rown w1 base v n := by
  have ht := h.tag.1
  obtain ⟨xs, h1, h2, h3⟩ := h
  refine ⟨xs, World.ownsRow.kept h1 (row := none) ⟨hb.os, hb.tape, hb.output, hb.size, fun i hi _ => hb.block i hi⟩ (by cases v.ownBlock <;> simp), (fun k hk z => ?_), h3⟩
  obtain ⟨cs, hc⟩ := ht k hk
  rw [hb.cell (p := ⟨k, 0, none⟩) (Array.getElem?_eq_some_iff.1 hc).1]; exact h2 k hk z
theorem Rown.turn {w w' : World} {base n : Nat} {v : Value} {o : Option Nat} {e : TypeId} (h : Rown w base v n) (hT : Turn o w w') (ho : Tagged w o e) (he : e ≠ 70) : Rown w' base v n := by
  have ht := h.tag.1
  obtain ⟨xs, h1, h2, h3⟩ := h
  refine ⟨xs, owns_turn h1 hT ho he, fun k hk z => ?_, h3⟩
  obtain ⟨cs, hc⟩ := ht k hk
  rw [cell_of_heap (hT.2 k (Array.getElem?_eq_some_iff.1 hc).1 (fun eo => ?_))]
  · exact h2 k hk z
  · obtain ⟨cs2, hc2⟩ := ho k eo
    rw [hc] at hc2
    injection hc2 with hc2
    injection hc2 with _ hc2
    exact he hc2.symm
/-- A row more. -/
theorem app70 {w : World} (ty : TypeId) (base : Nat) (v : Value) (n : Nat) (A : Option Addr) (m c : Nat) (a1 a2 a3 : Int) (hown : Rown w base v n) (hlen : n ≤ 1000000) (hbase : base ≤ w.heap.size) :
    ∃ v' w', (Builtin.append_ #[22, 22] ty #[v, .slice (some ⟨w.heap.size, 0, none⟩) 1 1]).run Tryz.prog (w.alloc (.cells #[.slice A m c, .int .i64 a1, .int .i64 a2, .int .i64 a3] 70)) = .ok v' w' ∧ Rown w' base v' (n + 1) ∧ Turn v.ownBlock w w' ∧ ∀ w0 l, Keep w0 l w → (∀ p ∈ l, p.1 < base) → w0.heap.size ≤ base → Keep w0 l w' := by
  obtain ⟨i0, hi, hx0⟩ := Option.map_eq_some_iff.1 info_row
  simp only [Prod.mk.injEq] at hx0
  obtain ⟨hz0, hz1, hz2⟩ := hx0
  have hnew : (w.alloc (.cells #[.slice A m c, .int .i64 a1, .int .i64 a2, .int .i64 a3] 70)).heap[w.heap.size]? = some (.cells #[.slice A m c, .int .i64 a1, .int .i64 a2, .int .i64 a3] 70) := by
    show (w.heap.push _)[w.heap.size]? = _; exact Array.getElem?_push_size
  have hlow : ∀ k, v.ownBlock = some k → base ≤ k := by
    intro k hk
    obtain ⟨xs, h, -⟩ := hown
    rcases h.2 with ⟨rfl, _⟩ | ⟨g, cap, cur, rfl, hb, hh, _⟩
    · simp [Value.ownBlock] at hk
    · have : g = k := by simpa [Value.ownBlock] using hk
      omega
  obtain ⟨xs, hown2, -, hx3⟩ := hown.below (below_one w (.cells #[.slice A m c, .int .i64 a1, .int .i64 a2, .int .i64 a3] 70))
  obtain ⟨v', w', hr, hown', hgrow, -, hat⟩ := run_append_own_at (P := Tryz.prog) (ty := ty) (w.alloc (.cells #[.slice A m c, .int .i64 a1, .int .i64 a2, .int .i64 a3] 70)) base 22 70 i0 _ 4 48 Tryz.underlying22 hi hz0 hz1 hz2 (by rfl) (by decide) v n xs hown2 ⟨w.heap.size, 0, none⟩ 1 1 [.slice A m c, .int .i64 a1, .int .i64 a2, .int .i64 a3] rfl (fun j u hu => by rw [add0, cellOf hnew, List.getElem?_toArray]; exact hu) (fun u hu => by simp only [List.mem_cons, List.mem_singleton, List.not_mem_nil, or_false] at hu; rcases hu with rfl | rfl | rfl | rfl <;> rfl) (by unfold maxLen; omega) (by omega) (by simp; omega)
  refine ⟨v', w', hr, ?_⟩
  have hx3' : ∀ x, (xs ++ [Value.slice A m c, .int .i64 a1, .int .i64 a2, .int .i64 a3])[0]? = some x → ∃ A m c, x = .slice A m c := by
    intro x hx
    cases xs with
    | nil => injection hx with hx; exact ⟨A, m, c, hx.symm⟩
    | cons y ys => exact hx3 x hx
  have hT : Turn v.ownBlock w w' := by
    have hb := below_one w (.cells #[.slice A m c, .int .i64 a1, .int .i64 a2, .int .i64 a3] 70)
    refine ⟨Nat.le_trans hb.size hgrow.size, fun k hk hne => ?_⟩
    rw [hgrow.block k (Nat.lt_of_lt_of_le hk hb.size) (fun e => hne e.symm), hb.block k hk]
  refine ⟨⟨_, hown', fun k hk z => ?_, hx3'⟩, hT, fun w0 l K hl h0 => ?_⟩
  · rcases hown'.2 with ⟨rfl, _⟩ | ⟨g, cap, cur, rfl, hb, hh, hn, _, hcur, htake⟩
    · simp [Value.ownBlock] at hk
    · have hgk : g = k := by simpa [Value.ownBlock] using hk
      subst hgk
      have hc : w'.cell? ⟨g, 0, none⟩ = (xs ++ [Value.slice A m c, .int .i64 a1, .int .i64 a2, .int .i64 a3])[0]? := by
        rw [cellOf hh, ← htake, List.getElem?_take, if_pos (by omega), Array.getElem?_toList]
      rw [hc]
      intro e
      obtain ⟨A', m', c', e2⟩ := hx3' _ e
      cases e2
  · have Ka := (K.alloc (.cells #[.slice A m c, .int .i64 a1, .int .i64 a2, .int .i64 a3] 70)).rest
    have hg : ∀ k, k < base → w'.heap[k]? = (w.alloc (.cells #[.slice A m c, .int .i64 a1, .int .i64 a2, .int .i64 a3] 70)).heap[k]? := fun k hk => hgrow.block k (by simp; omega) (fun e => by have := hlow k e.symm; omega)
    refine ⟨fun p hp => ?_, Ka.own, Ka.one, ⟨hgrow.os.trans Ka.B.os, hgrow.tape.trans Ka.B.tape, hgrow.output.trans Ka.B.output, Nat.le_trans Ka.B.size hgrow.size, fun k hk => (hg k (by omega)).trans (Ka.B.block k hk)⟩⟩
    rw [hg p.1 (hl p hp)]
    exact Ka.box p hp
theorem Rown.lt {w : World} {base n : Nat} {v : Value} (h : Rown w base v n) (k : Nat) (hk : v.ownBlock = some k) : k < w.heap.size := by
  obtain ⟨cs, hc⟩ := h.tag.1 k hk
  exact (Array.getElem?_eq_some_iff.1 hc).1
theorem Rown.turnNe {w w' : World} {base n : Nat} {v : Value} {o : Option Nat} (h : Rown w base v n) (hT : Turn o w w') (hne : ∀ k, o = some k → v.ownBlock ≠ some k) : Rown w' base v n := by
  have hl := h.lt
  obtain ⟨xs, h1, h2, h3⟩ := h
  refine ⟨xs, owns_turnNe h1 hT hne, fun k hk z => ?_, h3⟩
  rw [cell_of_heap (hT.2 k (hl k hk) (fun eo => hne k eo hk))]
  exact h2 k hk z
theorem Caps.below {w w' : World} {v : Value} {rs : List Rw} (h : Caps w v rs) (hr : Rws w v rs) (hb : Below w.heap.size w w') : Caps w' v rs := by
  intro b off c hv j hj
  obtain ⟨B, d, h1, h2⟩ := h b off c hv j hj
  obtain ⟨A', c', hv2, -, hh⟩ := hr
  obtain ⟨b', off', B', d', hA, hlt, -⟩ := hh j hj
  rw [hv] at hv2
  injection hv2 with e1 _ _
  rw [hA] at e1
  injection e1 with e1
  injection e1 with e1 e2
  subst e1
  exact ⟨B, d, by rw [hb.cell (p := ⟨b, off + j * 4, none⟩) hlt]; exact h1, h2⟩
theorem add_add (p : Addr) (a b : Nat) : (p.add a).add b = p.add (a + b) := by
  unfold Addr.add
  by_cases ha : a = 0
  · subst ha
    rw [if_pos rfl, Nat.zero_add]
  · by_cases hb : b = 0
    · subst hb
      rw [if_pos rfl, Nat.add_zero]
    · rw [if_neg hb, if_neg ha, if_neg (by omega)]
      simp only [Nat.add_assoc]
theorem iv_drop {w : World} {p : Addr} {n c c2 k : Nat} {xs : List Int} (h : Iv w (.slice (some p) n c) xs) (hk : k ≤ n) : Iv w (.slice (some (p.add k)) (n - k) c2) (xs.drop k) := by
  obtain ⟨A2, c', hv, h0, hh⟩ := h
  injection hv with e1 e2 e3
  subst e1
  refine ⟨_, c2, by rw [List.length_drop, e2], (fun e => by cases e), fun j hj => ?_⟩
  rw [List.length_drop] at hj
  have e : (xs.drop k).getD j 0 = xs.getD (k + j) 0 := by
    rw [List.getD_eq_getElem?_getD, List.getElem?_drop, ← List.getD_eq_getElem?_getD]
  rw [e]
  obtain ⟨h1, p', hp, hlt, hc⟩ := hh (k + j) (by omega)
  cases hp
  exact ⟨h1, _, rfl, by rw [add_block]; exact hlt, by rw [add_add]; exact hc⟩
theorem Qo.turnO {w w' : World} {vp vq cs : Value} {cn : Bool} {n N : Nat} {P : Nat → Nat → Int} {q : Nat → Int} {c : Int} {o : Option Nat} {e : TypeId} (h : Qo w vp vq cn cs n N P q c) (hT : Turn o w w') (ho : Tagged w o e) (h27 : e ≠ 27) (h30 : e ≠ 30) (hc : ∀ k, o = some k → ∀ z, w.cell? ⟨k, 0, none⟩ ≠ some (.int .u32 z)) : Qo w' vp vq cn cs n N P q c :=
  ⟨h.1.turn hT ho h30 h27 hc, h.2.1.turnE h30 hT ho hc, h.2.2.turn hT hc⟩
theorem pbd_le {N k : Nat} (hk : k ≤ 5) : pbd N k ≤ 32 * (N + 5) := by
  have h : ∀ j, pbd N j + 5 = 2 ^ j * (N + 5) := by
    intro j
    induction j with
    | zero => show N + 5 = 1 * (N + 5); omega
    | succ j ih =>
      show 2 * pbd N j + 5 + 5 = 2 ^ (j + 1) * (N + 5)
      rw [Nat.pow_succ, Nat.mul_comm (2 ^ j) 2, Nat.mul_assoc, ← ih]
      omega
  have h1 := h k
  have h2 : 2 ^ k ≤ 2 ^ 5 := Nat.pow_le_pow_right (by decide) hk
  have h3 := Nat.mul_le_mul_right (N + 5) h2
  rw [← h1] at h3
  have : (2 : Nat) ^ 5 = 32 := rfl
  omega
end Go.Proofs.YtmidifgnpjlgcaaGreat
