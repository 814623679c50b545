/- The texts Vo, Qe, Vp, Vq of the walk of the law and of all that it calls, in one file. No condition. -/
import Derived.Test.YtmidifgnpjlgcaaGreatY25
import Derived.Test.YtmidifgnpjlgcaaGreatY20
import Derived.Test.YtmidifgnpjlgcaaGreatY23
import Derived.Test.YtmidifgnpjlgcaaGreatY17
/- The walk of Out. -/
set_option linter.unusedVariables false
set_option linter.unusedSimpArgs false
namespace Go.Proofs.YtmidifgnpjlgcaaGreat
open Go.RowKit

/-- What Out tells. -/
def OuR (rs : List Rw) (xs : List Int) (n k m NB : Nat) (e : Ending) (w' : World) : Prop :=
  (∃ z : Int, z ≠ 0 ∧ e = .returned (.tuple #[.agg gzero, .int .i64 z])) ∨
  (defP k (whP rs xs k rs.length) = true ∧ stateB xs = true ∧ xs.length = n ∧ ∃ oA ol oc pv qv cn cs dn tA tl tc P' q' c', e = .returned (.tuple #[.agg #[.int .i64 m, .slice oA ol oc, pv, qv, .bool cn, cs, .bool dn, .slice tA tl tc], .int .i64 0]) ∧ Qo w' pv qv cn cs m (NB + 1) P' q' c' ∧ ((∀ i j, P' i j = rndF (remF (whP rs xs k rs.length) k) (1024 * dd (whP rs xs k rs.length) k) m i j) ∨ (∀ i j, P' i j = rndF (remF (whP rs xs k rs.length) k) (1024 * dd (whP rs xs k rs.length) k) m i j * 0)))

variable {w0 w : World} {l l2 : List (Nat × Obj)}
set_option maxHeartbeats 16000000 in
set_option maxRecDepth 100000 in
theorem mout_any (rv pv qv cs ds t : Value) (cn dn : Bool) (n k m : Nat) (rs : List Rw) (xs : List Int) (w : World) (h : Gz w rv pv qv cn cs dn ds n rs) (hcap : Caps w rv rs) (hx : Iv w t xs) (hnk : Hid (n = k + m)) (hk0 : 0 < k) (hk : k < n) (hm0 : 0 < m) (hk5 : k ≤ 5) (hm5 : m ≤ 5) (hr : rs.length ≤ 20) :
    Calls Tryz.prog 17 #[.agg #[.int .i64 n, rv, pv, qv, .bool cn, cs, .bool dn, ds], t, .int .i64 k] w fun e w' => OuR rs xs n k m 1400 e w' ∧ Below w.heap.size w w' := by
  obtain ⟨CA, cl, cc, rfl⟩ := h.2.2.1.2.2.sl
  obtain ⟨DA, dl, dc, rfl⟩ := h.2.2.2.1.sl
  have HG := Lib.hid h; have HX := Lib.hid hx; have HCP := Lib.hid hcap
  obtain ⟨hl60, hn11⟩ := h.2.2.2.2
  obtain ⟨RA, rc, rfl, -, hrows⟩ := h.1
  obtain ⟨PA, pc, rfl, -⟩ := h.2.2.1.1
  obtain ⟨QA, qc, rfl, -⟩ := h.2.2.1.2.1
  obtain ⟨XA, xc, rfl, -⟩ := hx
  have HR := Lib.hid hrows
  have K := Lib.hid (Keep.begin2 w (.cells (#[.int .i64 n, .slice RA rs.length rc, .slice PA n pc, .slice QA n qc, .bool cn, .slice CA cl cc, .bool dn, .slice DA dl dc]) 34) (.cells #[.int .i64 0, .slice none 0 0, .slice none 0 0, .slice none 0 0, .bool false, .slice none 0 0, .bool false, .slice none 0 0] 34))
  have hkz : ¬ (k : Int) < 0 := by omega
  have hkn : ¬ (n : Int) ≤ (k : Int) := by omega
  clear h hcap hrows
  go_enter Tryz.func17, Tryz.ntmps17
  go_upto_region 1 with fail
  (refine out_keep K.out ?_; clear K; intro W K; replace K := Lib.hid K)
  by_cases hxn : xs.length = n
  case neg =>
    have hxb : ((xs.length : Int) != (n : Int)) = true := bne_iff_ne.2 (by omega)
    have x0 := K.out.cell (k := 0) (.tail _ (.head _)) rfl
    (have f1 := fun o => K.out.warm (.head _) o; have y0 := K.out.cell (k := 0) (.head _) rfl; have y1 := K.out.cell (k := 1) (.head _) rfl; have y2 := K.out.cell (k := 2) (.head _) rfl; have y3 := K.out.cell (k := 3) (.head _) rfl; have y4 := K.out.cell (k := 4) (.head _) rfl; have y5 := K.out.cell (k := 5) (.head _) rfl; have y6 := K.out.cell (k := 6) (.head _) rfl; have y7 := K.out.cell (k := 7) (.head _) rfl)
    go_wp2_with fail
    clear f1 x0 y0 y1 y2 y3 y4 y5 y6 y7
    have K2 := Lib.hid (Keep.put8 [] K.out (.int .i64 0) (.slice none 0 0) (.slice none 0 0) (.slice none 0 0) (.bool false) (.slice none 0 0) (.bool false) (.slice none 0 0))
    refine ret_g1 Tryz.results17 rfl (K2.out.gb (.head _)) ?_
    exact ⟨.inl ⟨170, by decide, rfl⟩, K2.out.B⟩
  subst hxn
  have x0 := K.out.cell (k := 0) (.tail _ (.head _)) rfl
  go_wp2_with fail
  refine (state_any _ xs _ (HX.out.below K.out.B) (by omega)).mono ?_
  rintro e w3 ⟨rfl, hb⟩
  replace K := Lib.hid (Keep.stays _ _ K.out hb)
  clear hb x0
  cases hsx : stateB xs
  · (have f1 := fun o => K.out.warm (.head _) o; have y0 := K.out.cell (k := 0) (.head _) rfl; have y1 := K.out.cell (k := 1) (.head _) rfl; have y2 := K.out.cell (k := 2) (.head _) rfl; have y3 := K.out.cell (k := 3) (.head _) rfl; have y4 := K.out.cell (k := 4) (.head _) rfl; have y5 := K.out.cell (k := 5) (.head _) rfl; have y6 := K.out.cell (k := 6) (.head _) rfl; have y7 := K.out.cell (k := 7) (.head _) rfl)
    go_wp2_with fail
    clear f1 y0 y1 y2 y3 y4 y5 y6 y7
    have K2 := Lib.hid (Keep.put8 [] K.out (.int .i64 0) (.slice none 0 0) (.slice none 0 0) (.slice none 0 0) (.bool false) (.slice none 0 0) (.bool false) (.slice none 0 0))
    refine ret_g1 Tryz.results17 rfl (K2.out.gb (.head _)) ?_
    exact ⟨.inl ⟨170, by decide, rfl⟩, K2.out.B⟩
  have HSX : Hid (Sta w (.slice XA xs.length xc) xs xs.length) := Lib.hid ⟨HX.out, rfl, fun j hj => of_decide_eq_true hsx j (by omega)⟩
  have HSB := Lib.hid hsx
  clear hsx
  have x0 := K.out.cell (k := 0) (.tail _ (.head _)) rfl
  go_upto_region 5 with fail
  clear x0
  go_step
  refine wpList_load_row rfl 34 _ rfl w.heap.size rfl 34 _ (0, 0) _ (K.out.gb (.tail _ (.head _))) Tryz.underlying34 rfl (by kernel_rfl) ?_
  simp only [Act.put, List.setIfInBounds_toArray, List.set_cons_zero, List.set_cons_succ]
  go_wp2_with fail
  refine (whole_any _ _ _ _ _ _ cn dn xs.length k rs xs _ (HG.out.below K.out.B) (HCP.out.below HG.out.1 K.out.B) (HSX.out.below K.out.B) hk0 hk).mono ?_
  rintro e W5 ⟨⟨up, uq, un, us, on, os, rfl, hQ, hO⟩, hb⟩
  replace K := Lib.hid (Keep.stays _ _ K.out hb)
  have HQ := Lib.hid hQ; have HO := Lib.hid hO
  obtain ⟨UP, upc, rfl, -⟩ := hQ.1.mv
  obtain ⟨UQ, uqc, rfl, -⟩ := hQ.2.1.lv
  obtain ⟨US, usl, usc, rfl⟩ := hQ.2.2.sl
  obtain ⟨OS, osl, osc, rfl⟩ := hO.sl
  clear hb hQ hO
  go_upto_region 6 with fail
  have hb := below_two W5 (.cells #[.slice UP xs.length upc, .slice UQ xs.length uqc, .bool un, .slice US usl usc] 32) (.cells #[.bool on, .slice OS osl osc] 30)
  replace K := Lib.hid (K.out.alloc2 (.cells #[.slice UP xs.length upc, .slice UQ xs.length uqc, .bool un, .slice US usl usc] 32) (.cells #[.bool on, .slice OS osl osc] 30))
  replace HQ := Lib.hid (HQ.out.below hb)
  replace HO := Lib.hid (HO.out.below hb)
  clear hb
  generalize W5.heap.size = b8 at *
  generalize (W5.alloc _).alloc _ = W6 at *
  go_step
  refine wpList_load_row rfl 32 _ rfl b8 rfl 32 _ (0, 0) _ (K.out.gb (.tail _ (.head _))) Tryz.underlying32 rfl (by kernel_rfl) ?_
  simp only [Act.put, List.setIfInBounds_toArray, List.set_cons_zero, List.set_cons_succ]
  go_wp2_with fail
  have hpd := pbd_le (N := 12 + rs.length) hk5
  refine (without_any _ _ _ un xs.length k m (12 + rs.length) 1300 _ _ _ _ (HQ.out.1.mw (by omega)) (HQ.out.2.1.lw (by omega)) HQ.out.2.2 hnk hk0 (by omega) hm0 (by omega) hk5 (by omega) (by omega) (by omega)).mono ?_
  rintro e W7 ⟨hr, hb⟩
  replace K := Lib.hid (Keep.stays _ _ K.out hb)
  replace HO := Lib.hid (HO.out.below hb)
  clear hb HQ
  rcases hr with ⟨hd, rfl⟩ | ⟨hd, fp, fq, fn, fs, sn, SA, sl, sc, q', c', rfl, hF, hS⟩
  · clear hd
    go_upto_region 7 with fail
    replace K := Lib.hid (K.out.alloc2 (.cells #[.slice none 0 0, .slice none 0 0, .bool false, .slice none 0 0] 32) (.cells #[.bool false, .slice none 0 0] 30)).rest.rest
    generalize W7.heap.size = b10 at *
    generalize (W7.alloc _).alloc _ = W8 at *
    (have f1 := fun o => K.out.warm (.tail _ (.tail _ (.head _))) o; have y0 := K.out.cell (k := 0) (.tail _ (.tail _ (.head _))) rfl; have y1 := K.out.cell (k := 1) (.tail _ (.tail _ (.head _))) rfl; have y2 := K.out.cell (k := 2) (.tail _ (.tail _ (.head _))) rfl; have y3 := K.out.cell (k := 3) (.tail _ (.tail _ (.head _))) rfl; have y4 := K.out.cell (k := 4) (.tail _ (.tail _ (.head _))) rfl; have y5 := K.out.cell (k := 5) (.tail _ (.tail _ (.head _))) rfl; have y6 := K.out.cell (k := 6) (.tail _ (.tail _ (.head _))) rfl; have y7 := K.out.cell (k := 7) (.tail _ (.tail _ (.head _))) rfl)
    go_wp2_with fail
    clear f1 y0 y1 y2 y3 y4 y5 y6 y7
    have K2 := Lib.hid (Keep.put8 [_, _] K.out (.int .i64 0) (.slice none 0 0) (.slice none 0 0) (.slice none 0 0) (.bool false) (.slice none 0 0) (.bool false) (.slice none 0 0))
    refine ret_g1 Tryz.results17 rfl (K2.out.gb (.tail _ (.tail _ (.head _)))) ?_
    exact ⟨.inl ⟨80, by decide, rfl⟩, K2.out.B⟩
  have HF := Lib.hid hF; have HS := Lib.hid hS; have HDF := Lib.hid hd
  obtain ⟨FP, fpc, rfl, -⟩ := hF.1.mv
  obtain ⟨FQ, fqc, rfl, -⟩ := hF.2.1.lv
  obtain ⟨FS, fsl, fsc, rfl⟩ := hF.2.2.sl
  clear hF hS hd
  go_upto_region 9 with fail
  have hb := below_two W7 (.cells #[.slice FP m fpc, .slice FQ m fqc, .bool fn, .slice FS fsl fsc] 32) (.cells #[.bool sn, .slice SA sl sc] 30)
  replace K := Lib.hid (K.out.alloc2 (.cells #[.slice FP m fpc, .slice FQ m fqc, .bool fn, .slice FS fsl fsc] 32) (.cells #[.bool sn, .slice SA sl sc] 30))
  replace HF := Lib.hid (HF.out.below hb)
  replace HS := Lib.hid (HS.out.below hb)
  replace HO := Lib.hid (HO.out.below hb)
  clear hb
  generalize W7.heap.size = b10 at *
  generalize (W7.alloc _).alloc _ = W8 at *
  have hw : IntKind.i64.wrap ((xs.length : Int) - (k : Int)) = (m : Int) := by have := hnk.out; rw [IntWalk.i64_in _ (by omega)]; omega
  have x0 := Keep.acell (k := 0) K (.tail _ (.tail _ (.tail _ (.tail _ (.tail _ (.head _)))))) rfl
  have y0 := Keep.acell (k := 0) K (.tail _ (.head _)) rfl; have y1 := Keep.acell (k := 1) K (.tail _ (.head _)) rfl; have y2 := Keep.acell (k := 2) K (.tail _ (.head _)) rfl; have y3 := Keep.acell (k := 3) K (.tail _ (.head _)) rfl
  have z0 := Keep.acell (k := 0) K (.tail _ (.tail _ (.head _))) rfl; have z1 := Keep.acell (k := 1) K (.tail _ (.tail _ (.head _))) rfl
  have s0 := Keep.acell (k := 0) K (.head _) rfl; have s1 := Keep.acell (k := 1) K (.head _) rfl
  refine region_float1 _ 12 ⟨11, 13, .cells #[.int .i64 0, .slice none 0 0, .slice none 0 0, .slice none 0 0, .bool false, .slice none 0 0, .bool false, .slice none 0 0] 34⟩ ([(1, 0), (0, 1), (1, 2), (1, 3), (0, 4), (0, 5), (0, 6), (2, 7), (2, 8), (2, 9), (1, 10)]) (by kernel_rfl) (by kernel_rfl) ⟨_, rfl, rfl, rfl, fun a w => rfl, fun md e he => by simp at he⟩ (fun _ _ d _ _ => by cases d <;> exact Iff.rfl) Keep.stays K.out.drew ?_
  clear K; intro W9 K hbw; replace K := Lib.hid K; have K0 := K
  replace HF := Lib.hid (HF.out.below hbw)
  replace HS := Lib.hid (HS.out.below hbw)
  replace HO := Lib.hid (HO.out.below hbw)
  clear hbw
  (refine Ph.pure rfl (by rfl) ?_; apply Exists.intro; refine ⟨fun w => ?_, ?_⟩; (focus (go_simp; (try (with_reducible rfl)); done)); (try simp only [Act.put, List.setIfInBounds_toArray, List.set_cons_zero, List.set_cons_succ]))
  (refine Ph.read rfl (by rfl) ?_; apply Exists.intro; refine ⟨fun p => ?_, ?_⟩; (focus (go_simp; (try (with_reducible rfl)); done)); (try simp only [Act.put, List.setIfInBounds_toArray, List.set_cons_zero, List.set_cons_succ]))
  (refine Ph.pure rfl (by rfl) ?_; apply Exists.intro; refine ⟨fun w => ?_, ?_⟩; (focus (go_simp; (try (with_reducible rfl)); done)); (try simp only [Act.put, List.setIfInBounds_toArray, List.set_cons_zero, List.set_cons_succ]))
  (refine Ph.pure rfl (by rfl) ?_; apply Exists.intro; refine ⟨fun w => ?_, ?_⟩; (focus (go_simp; (try (with_reducible rfl)); done)); (try simp only [Act.put, List.setIfInBounds_toArray, List.set_cons_zero, List.set_cons_succ]))
  (refine Ph.read rfl (by rfl) ?_; apply Exists.intro; refine ⟨fun p => ?_, ?_⟩; (focus (go_simp; (try (with_reducible rfl)); done)); (try simp only [Act.put, List.setIfInBounds_toArray, List.set_cons_zero, List.set_cons_succ]))
  (refine Ph.read rfl (by rfl) ?_; apply Exists.intro; refine ⟨fun p => ?_, ?_⟩; (focus (go_simp; (try (with_reducible rfl)); done)); (try simp only [Act.put, List.setIfInBounds_toArray, List.set_cons_zero, List.set_cons_succ]))
  (refine Ph.read rfl (by rfl) ?_; apply Exists.intro; refine ⟨fun p => ?_, ?_⟩; (focus (go_simp; (try (with_reducible rfl)); done)); (try simp only [Act.put, List.setIfInBounds_toArray, List.set_cons_zero, List.set_cons_succ]))
  clear x0 y0 y1 y2 y3 z0 z1 s0 s1 hw
  (refine Ph.call (f := 23) (args := (#[.agg #[.bool on, .slice OS osl osc], .agg #[.bool sn, .slice SA sl sc]])) rfl (by rfl) (by (intro w2; go_simp; try (with_reducible rfl))) ?_; intro w2 hb; replace K := Lib.hid (Keep.stays _ _ K.out hb))
  replace HF := Lib.hid (HF.out.below hb)
  replace HS := Lib.hid (HS.out.below hb)
  replace HO := Lib.hid (HO.out.below hb)
  clear hb
  refine (mul_nz HO.out HS.out (by omega) (by omega)).mono ?_
  rintro e w10 ⟨q3, A3, l3, c3, rfl, hN3, hb⟩
  (refine ⟨_, rfl, hb, ?_⟩; replace K := Lib.hid (Keep.stays _ _ K.out hb); (try simp only [Act.put, List.setIfInBounds_toArray, List.set_cons_zero, List.set_cons_succ]))
  replace HF := Lib.hid (HF.out.below hb)
  clear hb HS HO
  (refine Ph.call (f := 47) (args := (#[.agg #[.slice FP m fpc, .slice FQ m fqc, .bool fn, .slice FS fsl fsc], .agg #[.bool q3, .slice A3 l3 c3]])) rfl (by rfl) (by (intro w2; go_simp; try (with_reducible rfl))) ?_; intro w2 hb; replace K := Lib.hid (Keep.stays _ _ K.out hb))
  replace HF := Lib.hid (HF.out.below hb)
  replace hN3 := hN3.below hb
  clear hb
  have hpd2 := pbd_le (N := 1400) hm5
  refine (rounded_any _ _ _ _ fn q3 m 1300 1306 1400 _ _ _ _ _ HF.out.qg hN3 hm0 (by omega) (by omega) (by omega) (by omega) (by omega) (by omega)).mono ?_
  rintro e w11 ⟨⟨rp, rq, rn, rss, P', q'', c'', rfl, hR, hcase⟩, hb⟩
  (refine ⟨_, rfl, hb, ?_⟩; replace K := Lib.hid (Keep.stays _ _ K.out hb); (try simp only [Act.put, List.setIfInBounds_toArray, List.set_cons_zero, List.set_cons_succ]))
  have HRO := Lib.hid hR
  have HCA := Lib.hid hcase
  obtain ⟨RP, rpc, rfl, -⟩ := hR.1.mv
  obtain ⟨RQ, rqc, rfl, -⟩ := hR.2.1.lv
  obtain ⟨RS, rsl, rsc, rfl⟩ := hR.2.2.sl
  clear hb HF hN3 hR hcase
  (refine Ph.call (f := 19) (args := (#[.int .i64 1024])) rfl (by rfl) (by (intro w2; go_simp; try (with_reducible rfl))) ?_; intro w2 hb; replace K := Lib.hid (Keep.stays _ _ K.out hb))
  replace HRO := Lib.hid (HRO.out.below hb)
  clear hb
  refine (int_nz 1024 _ (by decide) (by decide)).mono ?_
  rintro e w12 ⟨tn, TA, tl, tc, rfl, hN4, hb⟩
  (refine ⟨_, rfl, hb, ?_⟩; replace K := Lib.hid (Keep.stays _ _ K.out hb); (try simp only [Act.put, List.setIfInBounds_toArray, List.set_cons_zero, List.set_cons_succ]))
  replace HRO := Lib.hid (HRO.out.below hb)
  clear hb hN4
  (refine Ph.pure rfl (by rfl) ?_; apply Exists.intro; refine ⟨fun w => ?_, ?_⟩; (focus (go_simp; (try (with_reducible rfl)); done)); (try simp only [Act.put, List.setIfInBounds_toArray, List.set_cons_zero, List.set_cons_succ]))
  (intro w2 hb ob hg hge; replace K := Lib.hid (K0.out.held (Keep.stays _ _ K.out hb) hg hge); clear hg hge K0; simp only [ptr, List.drop_succ_cons, List.drop_zero, Act.put, List.setIfInBounds_toArray, List.set_cons_zero, List.set_cons_succ])
  replace HRO := Lib.hid (HRO.out.below hb)
  clear hb
  refine wpList_store_row rfl 34 _ _ rfl ob _ rfl rfl 34 _ (K.out.gb (.head _)) (by kernel_rfl) rfl (by kernel_rfl) ?_
  simp only [Act.put]
  have K2 := Lib.hid (K.out.setRow [] (#[.int .i64 m, (.slice none 0 0), .slice RP m rpc, .slice RQ m rqc, .bool rn, .slice RS rsl rsc, .bool tn, .slice TA tl tc]) rfl)
  have ht := K.out.tagq (g := ob) (a := .int .i64 0) (.head _) (fun z e => by cases e)
  have hT := Turn.row w2 ob (#[.int .i64 m, (.slice none 0 0), .slice RP m rpc, .slice RQ m rqc, .bool rn, .slice RS rsl rsc, .bool tn, .slice TA tl tc])
  replace HRO := Lib.hid (HRO.out.turn hT ht.1 (by decide) (by decide) ht.2)
  have K3 : Hid (Keep w ([(ob, (Obj.cells #[.int .i64 m, (.slice none 0 0), .slice RP m rpc, .slice RQ m rqc, .bool rn, .slice RS rsl rsc, .bool tn, .slice TA tl tc] 34)), (w.heap.size + 1, Obj.cells #[.int .i64 0, .slice none 0 0, .slice none 0 0, .slice none 0 0, .bool false, .slice none 0 0, .bool false, .slice none 0 0] 34), (w.heap.size, Obj.cells (#[.int .i64 xs.length, .slice RA rs.length rc, .slice PA xs.length pc, .slice QA xs.length qc, .bool cn, .slice CA cl cc, .bool dn, .slice DA dl dc]) 34)]) (w2.setRow ob (#[.int .i64 m, (.slice none 0 0), .slice RP m rpc, .slice RQ m rqc, .bool rn, .slice RS rsl rsc, .bool tn, .slice TA tl tc]))) := Lib.hid (K2.out.sub (.cons_cons _ (.cons _ (.cons _ (.cons _ (.cons _ (.cons_cons _ (.cons_cons _ .slnil))))))))
  refine out_with (B := fun W => Qo W (.slice RP m rpc) (.slice RQ m rqc) rn (.slice RS rsl rsc) m (1400 + 1) P' q'' c'') K3.out HRO.out ?_
  clear K K2 K3 ht hT HRO
  intro W10 K HRO
  replace K := Lib.hid K
  replace HRO := Lib.hid HRO
  have y1 := K.out.cell (k := 1) (.tail _ (.tail _ (.head _))) rfl
  go_wp2_with fail
  clear y1
  obtain ⟨base, hbase⟩ : ∃ base, base = W10.heap.size := ⟨_, rfl⟩
  have HLT : Hid (ob < base ∧ w.heap.size + 1 < base ∧ w.heap.size < base) := Lib.hid (by rw [hbase]; exact ⟨K.out.lt (.head _), K.out.lt (.tail _ (.head _)), K.out.lt (.tail _ (.tail _ (.head _)))⟩)
  have hw0 : Hid (w.heap.size ≤ base) := Lib.hid (Nat.le_of_lt HLT.out.2.2)
  go_loopg [70] rs.length (fun gk iv wr => ∃ (i l : Nat) (OA : Option Addr) (oc : Nat), gk + i = rs.length ∧ l ≤ i ∧ iv = .int .i64 (i : Int) ∧ Rown wr base (.slice OA l oc) l ∧ Qo wr (.slice RP m rpc) (.slice RQ m rqc) rn (.slice RS rsl rsc) m (1400 + 1) P' q'' c'' ∧ Keep w ([(ob, (Obj.cells #[.int .i64 m, (.slice OA l oc), .slice RP m rpc, .slice RQ m rqc, .bool rn, .slice RS rsl rsc, .bool tn, .slice TA tl tc] 34)), (w.heap.size + 1, Obj.cells #[.int .i64 0, .slice none 0 0, .slice none 0 0, .slice none 0 0, .bool false, .slice none 0 0, .bool false, .slice none 0 0] 34), (w.heap.size, Obj.cells (#[.int .i64 xs.length, .slice RA rs.length rc, .slice PA xs.length pc, .slice QA xs.length qc, .bool cn, .slice CA cl cc, .bool dn, .slice DA dl dc]) 34)]) wr ∧ base ≤ wr.heap.size)
  case atStart => exact ⟨0, 0, none, 0, by omega, Nat.le_refl _, rfl, Rown.nil _ _, HRO.out, K.out, by rw [hbase]; exact Nat.le_refl _⟩
  case round =>
    clear K HRO hbase
    obtain ⟨i, l, OA, oc, hgi, hli, rfl, hO, hRo, kk, hsz⟩ := hrel
    have K := Lib.hid kk
    have HO := Lib.hid hO
    have HRO := Lib.hid hRo
    have HSZ := Lib.hid hsz
    clear kk hO hRo hsz
    by_cases hi : i < rs.length
    · obtain ⟨b, off, B, d, rfl, hlt, hI, c0, c1, c2, c3⟩ := HR.out i hi
      obtain ⟨B', d', hc0, hcd⟩ := HCP.out b off rc rfl i hi
      rw [c0] at hc0
      injection hc0 with hc0
      injection hc0 with hB' _ hd'
      subst hB' hd'
      have hmem : rs.getD i Rw.zero ∈ rs := by rw [List.getD_eq_getElem?_getD, List.getElem?_eq_getElem hi]; exact List.getElem_mem hi
      have hok := HG.out.2.1 _ hmem
      clear hmem
      generalize rs.getD i Rw.zero = r at *
      have hrn := hok.1
      obtain ⟨p, rfl⟩ : ∃ p, B = some p := by
        obtain ⟨A', c', hv, -, hh⟩ := hI
        injection hv with e1 _ _
        obtain ⟨-, p, hp, -⟩ := hh 0 (by omega)
        exact ⟨p, e1.trans hp⟩
      rw [hrn] at hI c0 hcd
      have e0 := (K.out.B.cell (p := ⟨b, off + i * 4, none⟩) hlt).trans c0
      have e1 := (K.out.B.cell (p := ⟨b, off + i * 4 + 1, none⟩) hlt).trans c1
      have e2 := (K.out.B.cell (p := ⟨b, off + i * 4 + 2, none⟩) hlt).trans c2
      have e3 := (K.out.B.cell (p := ⟨b, off + i * 4 + 3, none⟩) hlt).trans c3
      have HI := Lib.hid hI; have HOK := Lib.hid hok
      clear hI c0 c1 c2 c3 hok
      go_upto_region 13 with fail
      clear e0 e1 e2 e3
      have hxb : Hid (∀ k, (Value.slice OA l oc).ownBlock = some k → k < wr.heap.size) := Lib.hid HO.out.lt
      replace K := Lib.hid (K.out.alloc (Obj.cells #[.slice (some p) xs.length d, .int .i64 r.z, .int .i64 r.knee, .int .i64 r.weight] 70))
      replace HRO := Lib.hid (HRO.out.below (Ext.alloc wr (Obj.cells #[.slice (some p) xs.length d, .int .i64 r.z, .int .i64 r.knee, .int .i64 r.weight] 70)))
      replace HO := Lib.hid (HO.out.below (Ext.alloc wr (Obj.cells #[.slice (some p) xs.length d, .int .i64 r.z, .int .i64 r.knee, .int .i64 r.weight] 70)))
      have hsx : base ≤ wr.heap.size ∧ base ≤ (wr.alloc (Obj.cells #[.slice (some p) xs.length d, .int .i64 r.z, .int .i64 r.knee, .int .i64 r.weight] 70)).heap.size := ⟨HSZ.out, Nat.le_trans HSZ.out (Ext.alloc wr (Obj.cells #[.slice (some p) xs.length d, .int .i64 r.z, .int .i64 r.knee, .int .i64 r.weight] 70)).size⟩
      replace HSZ := Lib.hid hsx
      clear hsx
      generalize wr.heap.size = xb at *
      generalize wr.alloc _ = W11 at *
      have r0 := K.out.cell (k := 0) (.head _) rfl
      have r1 := K.out.cell (k := 1) (.head _) rfl
      have r2 := K.out.cell (k := 2) (.head _) rfl
      have r3 := K.out.cell (k := 3) (.head _) rfl
      go_wp2_with fail
      refine (touches_any (some p) d xs.length k r _ (HI.out.below K.out.B) hrn hcd hk0 (by omega) hn11).mono ?_
      rintro e w5 ⟨rfl, hb⟩
      replace K := Lib.hid (Keep.stays _ _ K.out hb)
      replace HRO := Lib.hid (HRO.out.below hb)
      replace HO := Lib.hid (HO.out.below hb)
      replace HSZ := Lib.hid (And.intro HSZ.out.1 (Nat.le_trans HSZ.out.2 hb.size))
      clear hb r0 r1 r2 r3
      cases hnz : nonz (r.coef.take k)
      · have r0 := K.out.cell (k := 0) (.head _) rfl
        have hkl : (k : Int) ≤ (xs.length : Int) := by omega
        have hkd : (k : Int) ≤ (d : Int) := by omega
        have hld : (xs.length : Int) ≤ (d : Int) := by omega
        go_wp2_with fail
        refine (clone64_any _ (r.coef.drop k) _ ((iv_drop HI.out (by omega)).below K.out.B) (by rw [List.length_drop]; omega)).mono ?_
        rintro e W12 ⟨v, rfl, hq, hb⟩
        obtain ⟨VA, vl, vc, rfl⟩ : ∃ A l c, v = .slice A l c := by
          rcases hq.2 with ⟨rfl, -⟩ | ⟨g, cap, cur, rfl, -⟩
          · exact ⟨_, _, _, rfl⟩
          · exact ⟨_, _, _, rfl⟩
        replace K := Lib.hid (Keep.stays _ _ K.out hb)
        replace HRO := Lib.hid (HRO.out.below hb)
        replace HO := Lib.hid (HO.out.below hb)
        replace HSZ := Lib.hid (And.intro HSZ.out.1 (Nat.le_trans HSZ.out.2 hb.size))
        clear hq hb r0 hkl hkd hld
        have r0 := K.out.cell (k := 0) (.head _) rfl
        have fr := K.out.warm (.head _) 0
        go_upto_region 15 with fail
        clear r0 fr
        have ht := K.out.tagq (g := xb) (a := .slice (some p) xs.length d) (.head _) (fun z e => by cases e)
        have hT := Turn.set W12 xb 0 (.slice VA vl vc)
        replace HRO := Lib.hid (HRO.out.turn hT ht.1 (by decide) (by decide) ht.2)
        replace HO := Lib.hid (HO.out.turnNe hT (fun k hk e => by injection hk with hk; have := hxb.out k e; omega))
        replace HSZ := Lib.hid (And.intro HSZ.out.1 (Nat.le_trans HSZ.out.2 hT.1))
        replace K := Lib.hid (K.out.set_0 0 (.slice VA vl vc))
        simp only [List.setIfInBounds_toArray, List.set_cons_zero, List.set_cons_succ] at K
        clear ht hT hxb
        generalize World.setCell W12 _ _ = W13 at *
        obtain ⟨v', W14, hrun, hO2, hT, hkp⟩ := app70 22 base (.slice OA l oc) l VA vl vc r.z r.knee r.weight HO.out (by omega) HSZ.out.2
        have K2 := Lib.hid (hkp w _ K.out.rest (fun p hp => by simp only [List.mem_cons, List.not_mem_nil, or_false] at hp; rcases hp with rfl | rfl | rfl; exact HLT.out.1; exact HLT.out.2.1; exact HLT.out.2.2) hw0.out)
        have HRUN := Lib.hid hrun
        have HO2 := Lib.hid hO2
        obtain ⟨OB, oc2, rfl⟩ := hO2.sl
        have ht := HO.out.tag
        replace HRO := Lib.hid (HRO.out.turnO hT ht.1 (by decide) (by decide) ht.2)
        have hsz2 := Nat.le_trans HSZ.out.2 hT.1
        replace HSZ := Lib.hid hsz2
        clear hrun hO2 hT hkp ht hsz2 HO
        have y1 := K.out.cell (k := 1) (.tail _ (.head _)) rfl
        have r0 := K.out.cell (k := 0) (.head _) rfl
        have r1 := K.out.cell (k := 1) (.head _) rfl
        have r2 := K.out.cell (k := 2) (.head _) rfl
        have r3 := K.out.cell (k := 3) (.head _) rfl
        have z1 := K2.out.cell (k := 1) (.head _) rfl
        have fz := K2.out.warm (.head _) 1
        go_upto_region 16 with (at_builtin; refine wpList_exec rfl (exec_append (.tmp 85) (.tmp 87) 22 rfl HRUN.out) ?_)
        clear y1 r0 r1 r2 r3 z1 fz HRUN K
        have ht := K2.out.tagq (g := ob) (a := .int .i64 m) (.head _) (fun z e => by cases e)
        have hT := Turn.set W14 ob 1 (.slice OB (l + 1) oc2)
        replace HRO := Lib.hid (HRO.out.turn hT ht.1 (by decide) (by decide) ht.2)
        replace HO2 := Lib.hid (HO2.out.turn hT ht.1 (by decide))
        replace HSZ := Lib.hid (Nat.le_trans HSZ.out hT.1)
        replace K2 := Lib.hid (K2.out.set_0 1 (.slice OB (l + 1) oc2))
        simp only [List.setIfInBounds_toArray, List.set_cons_zero, List.set_cons_succ] at K2
        clear ht hT
        go_wp2_with fail
        go_roundg (gk - 1)
        case measure => omega
        case rel => exact ⟨i + 1, l + 1, OB, oc2, by omega, by omega, congrArg (Value.int .i64) (by omega), HO2.out, HRO.out, K2.out, HSZ.out⟩
      · go_wp2_with fail
        go_roundg (gk - 1)
        case measure => omega
        case rel => exact ⟨i + 1, l, OA, oc, by omega, by omega, congrArg (Value.int .i64) (by omega), HO.out, HRO.out, K.out.rest, HSZ.out.2⟩
    · have hie : i = rs.length := by omega
      subst hie
      have hiz : ¬ (rs.length : Int) < (rs.length : Int) := by omega
      go_upto_region 17 with fail
      go_step
      refine wpList_load_row rfl 34 _ rfl ob rfl 34 _ (0, 0) _ (K.out.gb (.head _)) Tryz.underlying34 rfl (by kernel_rfl) ?_
      simp only [Act.put, List.setIfInBounds_toArray, List.set_cons_zero, List.set_cons_succ]
      refine wpList_store_row rfl 34 _ _ rfl (w.heap.size + 1) _ rfl rfl 34 _ (K.out.gb (.tail _ (.head _))) (by kernel_rfl) rfl (by kernel_rfl) ?_
      simp only [Act.put]
      have K2 := Lib.hid (K.out.setRow [_] (#[.int .i64 m, (.slice OA l oc), .slice RP m rpc, .slice RQ m rqc, .bool rn, .slice RS rsl rsc, .bool tn, .slice TA tl tc]) rfl)
      have ht := K.out.tagq (g := w.heap.size + 1) (a := .int .i64 0) (.tail _ (.head _)) (fun z e => by cases e)
      have hT := Turn.row wr (w.heap.size + 1) (#[.int .i64 m, (.slice OA l oc), .slice RP m rpc, .slice RQ m rqc, .bool rn, .slice RS rsl rsc, .bool tn, .slice TA tl tc])
      replace HRO := Lib.hid (HRO.out.turn hT ht.1 (by decide) (by decide) ht.2)
      clear ht hT K
      go_wp2_with fail
      refine ret_g1 Tryz.results17 rfl (K2.out.gb (.tail _ (.head _))) ?_
      exact ⟨.inr ⟨HDF.out, HSB.out, rfl, _, _, _, _, _, _, _, _, _, _, _, _, _, _, rfl, HRO.out, HCA.out⟩, K2.out.B⟩
end Go.Proofs.YtmidifgnpjlgcaaGreat
/- Plain: the end of the law, with the matrix of the rows. -/
set_option linter.unusedVariables false
set_option linter.unusedSimpArgs false
namespace Go.Proofs.YtmidifgnpjlgcaaGreat
open Go.RowKit

theorem qd_add (n : Nat) (A B : Nat → Nat → Int) (z : Nat → Int) : qd n (fun i j => A i j + B i j) z = qd n A z + qd n B z := by
  unfold qd
  rw [← sumTo_add]
  refine sumTo_eq n (fun i _ => ?_)
  rw [← Int.mul_add, ← sumTo_add]
  congr 1
  exact sumTo_eq n (fun j _ => Int.add_mul _ _ _)
theorem qd_sq (n : Nat) (c : Nat → Int) (t : Int) (z : Nat → Int) : qd n (fun i j => (c i * c j) * t) z = (sumTo (fun i => c i * z i) n * sumTo (fun i => c i * z i) n) * t := by
  unfold qd
  have a : sumTo (fun i => z i * sumTo (fun j => c i * c j * t * z j) n) n = sumTo (fun i => (t * sumTo (fun i => c i * z i) n) * (c i * z i)) n := by
    refine sumTo_eq n (fun i _ => ?_)
    have b : sumTo (fun j => c i * c j * t * z j) n = (c i * t) * sumTo (fun i => c i * z i) n := by
      rw [← sumTo_mul]
      exact sumTo_eq n (fun j _ => by grind)
    rw [b]
    grind
  rw [a, sumTo_mul]
  grind
theorem qd_nil (n : Nat) (z : Nat → Int) : qd n (fun _ _ => 0) z = 0 := by
  unfold qd
  exact sumTo_nil n (fun i _ => by rw [sumTo_nil n (fun j _ => Int.zero_mul _), Int.mul_zero])
theorem qd_congr {n : Nat} {A B : Nat → Nat → Int} (h : ∀ i j, A i j = B i j) (z : Nat → Int) : qd n A z = qd n B z := by
  have : A = B := funext fun i => funext fun j => h i j
  rw [this]
theorem wh_sym (rs : List Rw) (xs : List Int) (k r n : Nat) : Sym (whP rs xs k r) n := by
  intro i j _ _
  unfold whP
  exact sumTo_eq r (fun l _ => by grind)
theorem wh_psd (rs : List Rw) (xs : List Int) (k n : Nat) (z : Nat → Int) : ∀ r, (∀ l, l < r → 0 ≤ twt xs k (rs.getD l Rw.zero)) → 0 ≤ qd n (whP rs xs k r) z
  | 0, _ => by
    have : qd n (whP rs xs k 0) z = 0 := qd_nil n z
    omega
  | r + 1, h => by
    have e : qd n (whP rs xs k (r + 1)) z = qd n (whP rs xs k r) z + qd n (fun i j => ((rs.getD r Rw.zero).coef.getD i 0 * (rs.getD r Rw.zero).coef.getD j 0) * twt xs k (rs.getD r Rw.zero)) z := qd_add n (whP rs xs k r) _ z
    rw [e, qd_sq]
    exact Int.add_nonneg (wh_psd rs xs k n z r (fun l hl => h l (by omega))) (Int.mul_nonneg (sq_nonneg _) (h r (by omega)))
theorem forgets_plain (P R : Nat → Nat → Int) (k m : Nat) (v : Nat → Int) (hk : k ≤ 5) (hdef : defP k P = true) (hs : Sym P (k + m)) (hp : ∀ z : Nat → Int, 0 ≤ qd (k + m) P z)
    (hR : (∀ i j, R i j = rndF (remF P k) (1024 * dd P k) m i j) ∨ (∀ i j, R i j = rndF (remF P k) (1024 * dd P k) m i j * 0)) : qd m R v * 1024 * dd P k ≤ topF P k m v * 1024 := by
  obtain ⟨-, hpos, -⟩ := def_dd hk hdef
  have hd := hpos k (Nat.le_refl k)
  have ht := top_nonneg (m := m) (v := v) hk hs hd hp
  rcases hR with h | h
  · have h1 := round_le (remF P k) (1024 * dd P k) (by omega) m v
    rw [← top_eq hk hs (by omega)] at h1
    rw [qd_congr h, Int.mul_assoc]
    omega
  · have h2 : qd m R v = 0 := by
      rw [qd_congr (B := fun _ _ => 0) (fun i j => by rw [h i j, Int.mul_zero])]
      exact qd_nil m v
    rw [h2]
    omega
theorem rhs_eq (P : Nat → Nat → Int) (k m : Nat) (v : Nat → Int) : (fun i => (sumTo (fun j => P i j * padv k v j) (k + m) - 0) * -1) = rhsF P k m v := by
  funext i
  unfold rhsF
  rw [pad_sum]
  omega
theorem cen_eq (P : Nat → Nat → Int) (k m : Nat) (v : Nat → Int) : qval (k + m) P (fun _ => 0) 0 (padv k v) = cenF P k m v := by
  have h : qd (k + m) P (padv k v) = cenF P k m v := pad_qd P k m v
  unfold qd at h
  unfold qval
  rw [h, sumTo_nil (k + m) (fun j _ => Int.zero_mul _)]
  omega
end Go.Proofs.YtmidifgnpjlgcaaGreat
/- The walk of TopForgets, behind its loop. -/
set_option linter.unusedVariables false
set_option linter.unusedSimpArgs false
namespace Go.Proofs.YtmidifgnpjlgcaaGreat
open Go.RowKit

/-- The code behind the loop. -/
def hasLp : Code → Bool
  | .loop _ => true
  | .seq a b => hasLp a || hasLp b
  | .block _ c => hasLp c
  | .scope c => hasLp c
  | .cond _ a b => hasLp a || hasLp b
  | _ => false
def afterLp : Code → Code
  | .seq a b => if hasLp b then afterLp b else b
  | c => c
noncomputable def tail16 : Code := (Tryz.f5.body.map afterLp).getD .skip
/-- What the end of TopForgets holds. -/
def FoC (W : World) (n k m : Nat) (P R : Nat → Nat → Int) (v : Nat → Int) (VA : Option Addr) (vc : Nat) (PA : Option Addr) (pc : Nat) (DA : Option Addr) (dl dc : Nat) (dn : Bool) (RA : Option Addr) (rc : Nat) : Prop := Nz W dn (.slice DA dl dc) 1024 5 ∧ Mo27 W (.slice PA n pc) n 32 P ∧ Mv W (.slice RA m rc) m m 1401 R ∧ Lv W (.slice VA m vc) m 2 v
theorem FoC.below {W W' : World} {n k m : Nat} {P R : Nat → Nat → Int} {v : Nat → Int} {VA : Option Addr} {vc : Nat} {PA : Option Addr} {pc : Nat} {DA : Option Addr} {dl dc : Nat} {dn : Bool} {RA : Option Addr} {rc : Nat} (h : FoC W n k m P R v VA vc PA pc DA dl dc dn RA rc) (hb : Below W.heap.size W W') : FoC W' n k m P R v VA vc PA pc DA dl dc dn RA rc :=
  ⟨h.1.below hb, h.2.1.below hb, h.2.2.1.below hb, h.2.2.2.below hb⟩
theorem FoC.turnQ {W W' : World} {n k m g : Nat} {P R : Nat → Nat → Int} {v : Nat → Int} {VA : Option Addr} {vc : Nat} {PA : Option Addr} {pc : Nat} {DA : Option Addr} {dl dc : Nat} {dn : Bool} {RA : Option Addr} {rc : Nat} (h : FoC W n k m P R v VA vc PA pc DA dl dc dn RA rc) (hm : 0 < m) (hT : Turn (some g) W W') (hc : W.cell? ⟨g, 0, none⟩ = some (.slice none 0 0)) (ht : Tagged W (some g) 32) : FoC W' n k m P R v VA vc PA pc DA dl dc dn RA rc := by
  have h32 : ∀ k, some g = some k → ∀ z, W.cell? ⟨k, 0, none⟩ ≠ some (.int .u32 z) := by
    intro k hk z e
    cases hk
    rw [hc] at e
    cases e
  exact ⟨h.1.turn hT h32, h.2.1.turn hT ht (by decide) (by decide) h32, h.2.2.1.turnQ hm hT hc, h.2.2.2.turnQ hT hc⟩
theorem sgn_le {x : Int} (h : x ≤ 0) : sgn x ≤ 0 := by unfold sgn; split <;> (try split) <;> omega

set_option maxHeartbeats 16000000 in
set_option maxRecDepth 100000 in
theorem forgets_tail {w : World} {c1 c2 c3 c4 c5 c6 c7 c8 c9 c10 c12 c13 c15 c19 c20 c21 c22 c23 c24 c25 c26 c27 c28 c29 c30 c31 c32 c33 c34 c35 c36 c37 c38 c39 c40 c41 c42 c43 c44 c45 c46 c47 c48 c49 c50 c51 c52 c53 c54 c55 c56 c57 c58 c59 c60 c61 c62 c63 c64 c65 c66 c67 c68 c69 c70 c71 c72 c73 c74 c75 c76 c77 c78 c79 c80 c81 c82 c83 c84 c85 c86 c87 c88 c89 c90 c91 c92 c93 c94 c95 c96 c97 c98 c99 c100 c101 c102 c103 c104 c105 c106 c107 c108 c109 c110 c111 c112 c113 c114 c115 c116 c117 c118 c119 c120 c121 c122 c123 c124 c125 c126 c127 c128 c129 c130 c131 c132 c133 c134 c135 c136 c137 c138 c139 c140 c141 c142 c143 c144 c145 : Value} (n k m : Nat) (rs : List Rw) (xs : List Int) (P R : Nat → Nat → Int) (v : Nat → Int) (bo bw bd : Nat) (VA : Option Addr) (vc : Nat) (PA : Option Addr) (pc : Nat) (ws wc : Value) (wn : Bool) (DA : Option Addr) (dl dc : Nat) (dn : Bool) (RA : Option Addr) (rc : Nat) (o0 o1 o3 o4 o5 o6 o7 : Value) (wr : World)
    (hnk : Hid (n = k + m)) (hk0 : 0 < k) (hk5 : k ≤ 5) (hm0 : 0 < m) (hm5 : m ≤ 5) (hn6 : n ≤ 6)
    (k0 : Keep w [(bd, Obj.cells #[.bool dn, .slice DA dl dc] 30), (bw, Obj.cells #[.slice PA n pc, ws, .bool wn, wc] 32), (bo, Obj.cells #[o0, o1, .slice RA m rc, o3, o4, o5, o6, o7] 34)] wr)
    (hdn : Nz wr dn (.slice DA dl dc) 1024 5) (hP : Mo27 wr (.slice PA n pc) n 32 P) (hR : Mv wr (.slice RA m rc) m m 1401 R) (hv : Lv wr (.slice VA m vc) m 2 v)
    (hdf : defP k P = true) (hsy : Sym P (k + m)) (hps : ∀ z : Nat → Int, 0 ≤ qd (k + m) P z) (hcase : (∀ i j, R i j = rndF (remF P k) (1024 * dd P k) m i j) ∨ (∀ i j, R i j = rndF (remF P k) (1024 * dd P k) m i j * 0)) :
    Code.wp Tryz.prog tail16 (bodyPost Tryz.prog Tryz.f5 fun e w' => e = .returned (.bool true) ∧ Below w.heap.size w w') ⟨#[.int .i64 n, c1, c2, c3, c4, c5, c6, c7, c8, c9, c10, .bool true, c12, c13, .pointer (some ⟨bo, 0, none⟩), c15, .pointer (some ⟨bw, 0, none⟩), .pointer (some ⟨bd, 0, none⟩), .slice VA m vc, c19, c20, c21, c22, c23, c24, c25, c26, c27, c28, c29, c30, c31, c32, c33, c34, c35, c36, c37, c38, c39, c40, c41, c42, c43, c44, c45, c46, c47, c48, c49, c50, c51, c52, c53, c54, c55, c56, c57, c58, c59, c60, c61, c62, c63, c64, c65, c66, c67, c68, c69, c70, c71, c72, c73, c74, c75, c76, c77, c78, c79, c80, c81, c82, c83, c84, c85, c86, c87, c88, c89, c90, c91, c92, c93, c94, c95, c96, c97, c98, c99, c100, c101, c102, c103, c104, c105, c106, c107, c108, c109, c110, c111, c112, c113, c114, c115, c116, c117, c118, c119, c120, c121, c122, c123, c124, c125, c126, c127, c128, c129, c130, c131, c132, c133, c134, c135, c136, c137, c138, c139, c140, c141, c142, c143, c144, c145], []⟩ wr := by
  have K := Lib.hid k0
  have HA : Hid (FoC wr n k m P R v VA vc PA pc DA dl dc dn RA rc) := Lib.hid ⟨hdn, hP, hR, hv⟩
  have hpl := forgets_plain P R k m v hk5 hdf hsy hps hcase
  have HPL := Lib.hid hpl
  have hdd := (def_dd hk5 hdf).2.2 hk0
  have HDD := Lib.hid hdd
  have HDF := Lib.hid hdf
  have HSW := Lib.hid (def_sweep hk5 hdf)
  clear k0 hdn hP hR hv hdf hsy hps hcase hpl hdd
  conv => arg 2; whnf
  go_upto_region 16 with fail
  have hkn : k ≤ n := by have := hnk.out; omega
  have hn0 : 0 < n := by omega
  have hmk := mk_lst n (by omega) n rfl
  have y0 := Keep.acell (k := 0) K (.tail _ (.head _)) rfl
  refine region_float1 _ 6 ⟨5, 20, .cells #[.slice none 0 0, .slice none 0 0, .bool false, .slice none 0 0] 32⟩ ([(1, 0), (0, 1), (1, 2), (2, 3), (1, 4)]) (by kernel_rfl) (by kernel_rfl) ⟨_, rfl, rfl, rfl, fun a w => rfl, fun md e he => by simp at he⟩ (fun _ _ d _ _ => by cases d <;> exact Iff.rfl) Keep.stays K.out.drew ?_
  clear K; intro W K hbw; replace K := Lib.hid K; have K0 := K
  replace HA := Lib.hid (HA.out.below hbw)
  clear hbw
  (refine Ph.pure rfl (by rfl) ?_; apply Exists.intro; refine ⟨fun w => ?_, ?_⟩; (focus (go_simp; (try (with_reducible rfl)); done)); (try simp only [Act.put, List.setIfInBounds_toArray, List.set_cons_zero, List.set_cons_succ]))
  (refine Ph.read rfl (by rfl) ?_; apply Exists.intro; refine ⟨fun p => ?_, ?_⟩; (focus (go_simp; (try (with_reducible rfl)); done)); (try simp only [Act.put, List.setIfInBounds_toArray, List.set_cons_zero, List.set_cons_succ]))
  clear y0
  (refine Ph.pure rfl (by rfl) ?_; apply Exists.intro; refine ⟨fun w => ?_, ?_⟩; (focus (go_simp; (try (with_reducible rfl)); done)); (try simp only [Act.put, List.setIfInBounds_toArray, List.set_cons_zero, List.set_cons_succ]))
  refine Ph.lay rfl (by rfl) ?_
  intro w2 hb
  replace K := Lib.hid (Keep.stays _ _ K.out hb)
  replace HA := Lib.hid (HA.out.below hb)
  clear hb
  refine ⟨.slice (some ⟨w2.heap.size, 0, none⟩) n n, w2.alloc (Obj.lst (List.replicate n Nm.zero)), ?_, Ext.alloc _ _, ?_⟩
  focus (go_simp; (try (with_reducible rfl)); done)
  clear hmk
  have KB := Lib.hid (K.out.alloc (Obj.lst (List.replicate n Nm.zero)))
  replace HA := Lib.hid (HA.out.below (Ext.alloc w2 (Obj.lst (List.replicate n Nm.zero))))
  have HZ : Hid (Lv (w2.alloc (Obj.lst (List.replicate n Nm.zero))) (.slice (some ⟨w2.heap.size, 0, none⟩) n n) n 32 (fun _ => 0)) := Lib.hid (Lo.lv ⟨_, _, rfl, Nat.zero_le _, KB.out.box _ (.head _), List.length_replicate, Els.zero _ _ _⟩)
  replace K := Lib.hid KB.out.rest
  clear KB
  generalize w2.heap.size = zb at *
  generalize w2.alloc _ = w3 at *
  (try simp only [Act.put, List.setIfInBounds_toArray, List.set_cons_zero, List.set_cons_succ])
  (refine Ph.pure rfl (by rfl) ?_; apply Exists.intro; refine ⟨fun w => ?_, ?_⟩; (focus (go_simp; (try (with_reducible rfl)); done)); (try simp only [Act.put, List.setIfInBounds_toArray, List.set_cons_zero, List.set_cons_succ]))
  (intro w2 hb bq hg hge; replace K := Lib.hid (K0.out.held (Keep.stays _ _ K.out hb) hg hge); clear hg hge K0; simp only [ptr, List.drop_succ_cons, List.drop_zero, Act.put, List.setIfInBounds_toArray, List.set_cons_zero, List.set_cons_succ])
  replace HA := Lib.hid (HA.out.below hb)
  replace HZ := Lib.hid (HZ.out.below hb)
  clear hb
  refine wpList_store_row rfl 32 _ _ rfl bq _ rfl rfl 32 _ (K.out.gb (.head _)) (by kernel_rfl) rfl (by kernel_rfl) ?_
  simp only [Act.put]
  have K2 := Lib.hid (K.out.setRow [] #[.slice PA n pc, .slice (some ⟨zb, 0, none⟩) n n, .bool false, .slice none 0 0] rfl)
  have ht := K.out.tagq (g := bq) (a := .slice none 0 0) (.head _) (fun z e => by cases e)
  have hT := Turn.row w2 bq #[.slice PA n pc, .slice (some ⟨zb, 0, none⟩) n n, .bool false, .slice none 0 0]
  have hc0 : w2.cell? ⟨bq, 0, none⟩ = some (.slice none 0 0) := K.out.cell (k := 0) (.head _) rfl
  replace HA := Lib.hid (HA.out.turnQ hm0 hT hc0 ht.1)
  replace HZ := Lib.hid (HZ.out.turnQ hT hc0)
  clear ht hT hc0 K
  have K := K2
  clear K2
  refine out_with (B := fun W => FoC W n k m P R v VA vc PA pc DA dl dc dn RA rc ∧ Lv W (.slice (some ⟨zb, 0, none⟩) n n) n 32 (fun _ => 0)) K.out ⟨HA.out, HZ.out⟩ ?_
  clear K HA HZ
  intro W4 K hall
  replace K := Lib.hid K
  have HA := Lib.hid hall.1
  have HZ := Lib.hid hall.2
  clear hall
  go_upto_region 17 with fail
  go_step
  refine wpList_load_row rfl 32 _ rfl bq rfl 32 _ (0, 0) _ (K.out.gb (.head _)) Tryz.underlying32 rfl (by kernel_rfl) ?_
  simp only [Act.put, List.setIfInBounds_toArray, List.set_cons_zero, List.set_cons_succ]
  go_wp2_with fail
  refine (with_any _ _ _ _ false n m k 32 2 P (fun _ => 0) 0 v (padv k v) _ ⟨HA.out.2.1.mv, HZ.out, (Nz.nil _).more (Nat.zero_le _)⟩ (HA.out.2.1.mw (by omega)) HA.out.2.2.2 hnk hk0 (by omega) hm0 (by omega) (by omega) (by omega) (fun j hj => if_pos hj) (fun j => by unfold padv; rw [if_neg (by omega), Nat.add_sub_cancel_left])).mono ?_
  rintro e W5 ⟨⟨up, uq, un, us, rfl, hM, hL, hN⟩, hb⟩
  replace K := Lib.hid (Keep.stays _ _ K.out hb)
  replace HA := Lib.hid (HA.out.below hb)
  obtain ⟨UP, upc, rfl, -⟩ := id hM
  obtain ⟨UQ, uqc, rfl, -⟩ := id hL
  obtain ⟨US, usl, usc, rfl⟩ := hN.sl
  have hrq : ∀ i, (sumTo (fun j => P i j * padv k v j) n - 0) * -1 = rhsF P k m v i := by intro i; rw [hnk.out]; exact congrFun (rhs_eq P k m v) i
  have hcq : qval n P (fun _ => 0) 0 (padv k v) = cenF P k m v := by rw [hnk.out]; exact cen_eq P k m v
  have HI : Hid (Qg W5 (.slice UP k upc) (.slice UQ k uqc) un (.slice US usl usc) k 100 P (rhsF P k m v) (cenF P k m v)) := Lib.hid ⟨hM.more (by omega) (fun _ _ _ _ => rfl), hL.more (by omega) (fun j _ => hrq j), (hN.more (by omega)).val hcq⟩
  clear hM hL hN hrq hcq hb HZ
  go_upto_region 20 with fail
  have hb := Ext.alloc W5 (.cells #[.slice UP k upc, .slice UQ k uqc, .bool un, .slice US usl usc] 32)
  replace K := Lib.hid (K.out.alloc (.cells #[.slice UP k upc, .slice UQ k uqc, .bool un, .slice US usl usc] 32))
  replace HA := Lib.hid (HA.out.below hb)
  replace HI := Lib.hid (HI.out.below hb)
  clear hb
  generalize W5.heap.size = bi at *
  generalize W5.alloc _ = W6 at *
  go_step
  refine wpList_load_row rfl 32 _ rfl bi rfl 32 _ (0, 0) _ (K.out.gb (.head _)) Tryz.underlying32 rfl (by kernel_rfl) ?_
  simp only [Act.put, List.setIfInBounds_toArray, List.set_cons_zero, List.set_cons_succ]
  go_wp2_with fail
  obtain ⟨M1, hs1, hx1⟩ := HSW.out (rhsF P k m v)
  have hpd := pbd_le (N := 100) hk5
  refine (least_any _ _ _ un k 100 P (rhsF P k m v) (cenF P k m v) M1 _ HI.out (by omega) (by omega) (by omega) HDF.out hs1).mono ?_
  rintro e W7 ⟨⟨u, q1, A1, l1, d1, q2, A2, l2, d2, rfl, hD, hT⟩, hb⟩
  replace K := Lib.hid (Keep.stays _ _ K.out hb)
  replace HA := Lib.hid (HA.out.below hb)
  rw [HDD.out] at hD hT
  have htv : cenF P k m v * dd P k - sumTo (fun l => rhsF P k m v l * M1 l k) k = topF P k m v := by
    unfold topF
    congr 1
    exact sumTo_eq k (fun l hl => by rw [hx1 l hl])
  rw [htv] at hT
  have HD := Lib.hid hD
  have HT := Lib.hid hT
  clear hb hD hT htv hs1 hx1 HI
  go_upto_region 23 with fail
  have hb := below_two W7 (.cells #[.bool q1, .slice A1 l1 d1] 30) (.cells #[.bool q2, .slice A2 l2 d2] 30)
  replace K := Lib.hid (K.out.alloc2 (.cells #[.bool q1, .slice A1 l1 d1] 30) (.cells #[.bool q2, .slice A2 l2 d2] 30))
  replace HA := Lib.hid (HA.out.below hb)
  replace HD := Lib.hid (HD.out.below hb)
  replace HT := Lib.hid (HT.out.below hb)
  clear hb
  generalize W7.heap.size = be at *
  generalize (W7.alloc _).alloc _ = W8 at *
  have K3 := Lib.hid (K.out.sub (l' := [(be + 1, Obj.cells #[.bool q2, .slice A2 l2 d2] 30), (be, Obj.cells #[.bool q1, .slice A1 l1 d1] 30), (bd, Obj.cells #[.bool dn, .slice DA dl dc] 30), (bo, Obj.cells #[o0, o1, .slice RA m rc, o3, o4, o5, o6, o7] 34)]) (.cons_cons _ (.cons_cons _ (.cons _ (.cons _ (.cons_cons _ (.cons _ (.cons_cons _ .slnil))))))))
  clear K
  have K := K3
  clear K3
  have y2 := Keep.acell (k := 2) K (.tail _ (.tail _ (.tail _ (.head _)))) rfl
  have z0 := Keep.acell (k := 0) K (.tail _ (.tail _ (.head _))) rfl; have z1 := Keep.acell (k := 1) K (.tail _ (.tail _ (.head _))) rfl
  have s0 := Keep.acell (k := 0) K (.tail _ (.head _)) rfl; have s1 := Keep.acell (k := 1) K (.tail _ (.head _)) rfl
  refine region_float1 _ 10 ⟨9, 27, .cells #[.bool false, .slice none 0 0] 30⟩ ([(1, 0), (1, 1), (0, 2), (1, 3), (0, 5), (0, 7), (2, 4), (2, 6), (2, 8)]) (by kernel_rfl) (by kernel_rfl) ⟨_, rfl, rfl, rfl, fun a w => rfl, fun md e he => by simp at he⟩ (fun _ _ d _ _ => by cases d <;> exact Iff.rfl) Keep.stays K.out.drew ?_
  clear K; intro W9 K hbw; replace K := Lib.hid K; have K0 := K
  replace HA := Lib.hid (HA.out.below hbw)
  replace HD := Lib.hid (HD.out.below hbw)
  replace HT := Lib.hid (HT.out.below hbw)
  clear hbw
  (refine Ph.pure rfl (by rfl) ?_; apply Exists.intro; refine ⟨fun w => ?_, ?_⟩; (focus (go_simp; (try (with_reducible rfl)); done)); (try simp only [Act.put, List.setIfInBounds_toArray, List.set_cons_zero, List.set_cons_succ]))
  (refine Ph.pure rfl (by rfl) ?_; apply Exists.intro; refine ⟨fun w => ?_, ?_⟩; (focus (go_simp; (try (with_reducible rfl)); done)); (try simp only [Act.put, List.setIfInBounds_toArray, List.set_cons_zero, List.set_cons_succ]))
  (refine Ph.read rfl (by rfl) ?_; apply Exists.intro; refine ⟨fun p => ?_, ?_⟩; (focus (go_simp; (try (with_reducible rfl)); done)); (try simp only [Act.put, List.setIfInBounds_toArray, List.set_cons_zero, List.set_cons_succ]))
  (refine Ph.pure rfl (by rfl) ?_; apply Exists.intro; refine ⟨fun w => ?_, ?_⟩; (focus (go_simp; (try (with_reducible rfl)); done)); (try simp only [Act.put, List.setIfInBounds_toArray, List.set_cons_zero, List.set_cons_succ]))
  (refine Ph.read rfl (by rfl) ?_; apply Exists.intro; refine ⟨fun p => ?_, ?_⟩; (focus (go_simp; (try (with_reducible rfl)); done)); (try simp only [Act.put, List.setIfInBounds_toArray, List.set_cons_zero, List.set_cons_succ]))
  (refine Ph.read rfl (by rfl) ?_; apply Exists.intro; refine ⟨fun p => ?_, ?_⟩; (focus (go_simp; (try (with_reducible rfl)); done)); (try simp only [Act.put, List.setIfInBounds_toArray, List.set_cons_zero, List.set_cons_succ]))
  clear z0 z1 s0 s1
  (refine Ph.call (f := 22) (args := (#[.slice RA m rc, .slice VA m vc])) rfl (by rfl) (by (intro w2; go_simp; try (with_reducible rfl))) ?_; intro w2 hb; replace K := Lib.hid (Keep.stays _ _ K.out hb))
  replace HA := Lib.hid (HA.out.below hb)
  replace HD := Lib.hid (HD.out.below hb)
  replace HT := Lib.hid (HT.out.below hb)
  clear hb y2
  refine (quad_any _ _ m 1401 2 R v _ HA.out.2.2.1 HA.out.2.2.2 (by omega)).mono ?_
  rintro e w10 ⟨q3, A3, l3, d3, rfl, hN3, hb⟩
  have hq3 : Nz w10 q3 (.slice A3 l3 d3) (qd m R v) 1500 := hN3.more (by omega)
  clear hN3
  (refine ⟨_, rfl, hb, ?_⟩; replace K := Lib.hid (Keep.stays _ _ K.out hb); (try simp only [Act.put, List.setIfInBounds_toArray, List.set_cons_zero, List.set_cons_succ]))
  replace HA := Lib.hid (HA.out.below hb)
  replace HD := Lib.hid (HD.out.below hb)
  replace HT := Lib.hid (HT.out.below hb)
  clear hb
  (refine Ph.call (f := 23) (args := (#[.agg #[.bool q3, .slice A3 l3 d3], .agg #[.bool dn, .slice DA dl dc]])) rfl (by rfl) (by (intro w2; go_simp; try (with_reducible rfl))) ?_; intro w2 hb; replace K := Lib.hid (Keep.stays _ _ K.out hb))
  replace HA := Lib.hid (HA.out.below hb)
  replace HD := Lib.hid (HD.out.below hb)
  replace HT := Lib.hid (HT.out.below hb)
  replace hq3 := hq3.below hb
  clear hb
  refine (mul_nz hq3 HA.out.1 (by omega) (by omega)).mono ?_
  rintro e w11 ⟨q4, A4, l4, d4, rfl, hN4, hb⟩
  (refine ⟨_, rfl, hb, ?_⟩; replace K := Lib.hid (Keep.stays _ _ K.out hb); (try simp only [Act.put, List.setIfInBounds_toArray, List.set_cons_zero, List.set_cons_succ]))
  replace HD := Lib.hid (HD.out.below hb)
  replace HT := Lib.hid (HT.out.below hb)
  clear hb hq3 HA
  (refine Ph.call (f := 23) (args := (#[.agg #[.bool q4, .slice A4 l4 d4], .agg #[.bool q1, .slice A1 l1 d1]])) rfl (by rfl) (by (intro w2; go_simp; try (with_reducible rfl))) ?_; intro w2 hb; replace K := Lib.hid (Keep.stays _ _ K.out hb))
  replace HD := Lib.hid (HD.out.below hb)
  replace HT := Lib.hid (HT.out.below hb)
  replace hN4 := hN4.below hb
  clear hb
  refine (mul_nz hN4 HD.out (by omega) (by omega)).mono ?_
  rintro e w12 ⟨q5, A5, l5, d5, rfl, hN5, hb⟩
  (refine ⟨_, rfl, hb, ?_⟩; replace K := Lib.hid (Keep.stays _ _ K.out hb); (try simp only [Act.put, List.setIfInBounds_toArray, List.set_cons_zero, List.set_cons_succ]))
  replace HT := Lib.hid (HT.out.below hb)
  have HN := Lib.hid hN5
  clear hb hN4 hN5 HD
  (intro w2 hb bk hg hge; replace K := Lib.hid (K0.out.held (Keep.stays _ _ K.out hb) hg hge); clear hg hge K0; simp only [ptr, List.drop_succ_cons, List.drop_zero, Act.put, List.setIfInBounds_toArray, List.set_cons_zero, List.set_cons_succ])
  replace HT := Lib.hid (HT.out.below hb)
  replace HN := Lib.hid (HN.out.below hb)
  clear hb
  refine wpList_store_row rfl 30 _ _ rfl bk _ rfl rfl 30 _ (K.out.gb (.head _)) (by kernel_rfl) rfl (by kernel_rfl) ?_
  simp only [Act.put]
  have K2 := Lib.hid (K.out.setRow [] #[.bool q5, .slice A5 l5 d5] rfl)
  have ht := K.out.tagq (g := bk) (a := .bool false) (.head _) (fun z e => by cases e)
  have hT := Turn.row w2 bk #[.bool q5, .slice A5 l5 d5]
  replace HT := Lib.hid (HT.out.turn hT ht.2)
  replace HN := Lib.hid (HN.out.turn hT ht.2)
  clear ht hT K
  have K := K2
  clear K2
  refine out_with (B := fun W => Nz W q2 (.slice A2 l2 d2) (topF P k m v) (2 * pbd 100 k + k + 3) ∧ Nz W q5 (.slice A5 l5 d5) (qd m R v * 1024 * dd P k) (1500 + 5 + 1 + pbd 100 k + 1)) K.out ⟨HT.out, HN.out⟩ ?_
  clear K HT HN
  intro W10 K hall
  replace K := Lib.hid K
  have HT := Lib.hid hall.1
  have HN := Lib.hid hall.2
  clear hall
  go_upto_region 24 with fail
  (refine region_ord _ 5 (by kernel_rfl) (by kernel_rfl) K.out.drew ?_; clear K; intro W K hbw; replace K := Lib.hid K)
  replace HT := Lib.hid (HT.out.below hbw)
  replace HN := Lib.hid (HN.out.below hbw)
  clear hbw
  have z0 := Keep.acell (k := 0) K (.head _) rfl; have z1 := Keep.acell (k := 1) K (.head _) rfl
  have s0 := Keep.acell (k := 0) K (.tail _ (.head _)) rfl; have s1 := Keep.acell (k := 1) K (.tail _ (.head _)) rfl
  (refine Ord.take' 0 rfl (by kernel_rfl) (fun _ _ _ _ h => h) K.out (by rfl) ?_; apply Exists.intro; refine ⟨fun p => ?_, ?_⟩; (focus (go_simp; (try (with_reducible rfl)); done)); (try simp only [Act.put, List.setIfInBounds_toArray, List.set_cons_zero, List.set_cons_succ]))
  (refine Ord.take' 1 rfl (by kernel_rfl) (fun _ _ _ _ h => h) K.out (by rfl) ?_; apply Exists.intro; refine ⟨fun p => ?_, ?_⟩; (focus (go_simp; (try (with_reducible rfl)); done)); (try simp only [Act.put, List.setIfInBounds_toArray, List.set_cons_zero, List.set_cons_succ]))
  clear z0 z1 s0 s1
  (refine Ord.call 2 (g := 19) (args := (#[.int .i64 1024])) rfl (by kernel_rfl) (by rfl) (by (go_simp; try (with_reducible rfl))) ?_)
  refine (int_nz 1024 _ (by decide) (by decide)).mono ?_
  rintro e w13 ⟨q6, A6, l6, d6, rfl, hN6, hb⟩
  (refine ⟨_, rfl, Keep.stays _ _ K.out hb, ?_⟩; replace K := Lib.hid (Keep.stays _ _ K.out hb); simp only [Act.put, List.setIfInBounds_toArray, List.set_cons_zero, List.set_cons_succ])
  replace HT := Lib.hid (HT.out.below hb)
  replace HN := Lib.hid (HN.out.below hb)
  clear hb
  (refine Ord.call 3 (g := 23) (args := (#[.agg #[.bool q2, .slice A2 l2 d2], .agg #[.bool q6, .slice A6 l6 d6]])) rfl (by kernel_rfl) (by rfl) (by (go_simp; try (with_reducible rfl))) ?_)
  refine (mul_nz HT.out hN6 (by omega) (by omega)).mono ?_
  rintro e w14 ⟨q7, A7, l7, d7, rfl, hN7, hb⟩
  (refine ⟨_, rfl, Keep.stays _ _ K.out hb, ?_⟩; replace K := Lib.hid (Keep.stays _ _ K.out hb); simp only [Act.put, List.setIfInBounds_toArray, List.set_cons_zero, List.set_cons_succ])
  replace HN := Lib.hid (HN.out.below hb)
  clear hb hN6 HT
  (refine Ord.call 4 (g := 24) (args := (#[.agg #[.bool q5, .slice A5 l5 d5], .agg #[.bool q7, .slice A7 l7 d7]])) rfl (by kernel_rfl) (by rfl) (by (go_simp; try (with_reducible rfl))) ?_)
  refine (icmp_nz HN.out hN7 (by omega) (by omega)).mono ?_
  rintro e w15 ⟨rfl, hb⟩
  (refine ⟨_, rfl, Keep.stays _ _ K.out hb, ?_⟩; replace K := Lib.hid (Keep.stays _ _ K.out hb); simp only [Act.put, List.setIfInBounds_toArray, List.set_cons_zero, List.set_cons_succ])
  clear hb hN7 HN
  (refine Ord.done (by kernel_rfl) ?_; simp only [List.drop_succ_cons, List.drop_zero, Act.put, List.setIfInBounds_toArray, List.set_cons_zero, List.set_cons_succ])
  have hle : sgn (qd m R v * 1024 * dd P k - topF P k m v * 1024) ≤ 0 := sgn_le (by have := HPL.out; omega)
  generalize sgn (qd m R v * 1024 * dd P k - topF P k m v * 1024) = sg at *
  go_wp2_with fail
  go_ret
  exact ⟨rfl, K.out.B⟩
end Go.Proofs.YtmidifgnpjlgcaaGreat
/- The walk of TopForgets. -/
set_option linter.unusedVariables false
set_option linter.unusedSimpArgs false
namespace Go.Proofs.YtmidifgnpjlgcaaGreat
open Go.RowKit

theorem twt_nonneg {rs : List Rw} {n : Nat} (h : ∀ r ∈ rs, RwOk r n) (xs : List Int) (k l : Nat) (hl : l < rs.length) : 0 ≤ twt xs k (rs.getD l Rw.zero) := by
  have hmem : rs.getD l Rw.zero ∈ rs := by rw [List.getD_eq_getElem?_getD, List.getElem?_eq_getElem hl]; exact List.getElem_mem hl
  have hok := h _ hmem
  obtain ⟨s1, s2⟩ := share_in hok xs
  obtain ⟨w1, w2⟩ := hok.2.2.2.2.2
  have := (wsh_in w1 w2 s1 s2).1
  unfold twt
  split
  · omega
  · exact Int.le_refl _

set_option maxHeartbeats 16000000 in
set_option maxRecDepth 100000 in
theorem TopForgets_walk {w : World} (n : Int) (rv : Value) (rs : List Rw) (xv : Value) (xs : List Int) (k : Int) (yv : Value) (ys : List Int) (hn : (Lit.int .i64 n).wf = true) (hr : (Rws w rv rs ∧ ∀ r ∈ rs, r.coef.length ≤ 4611686018427387904) ∧ Caps w rv rs) (hx : Iv w xv xs) (hk : (Lit.int .i64 k).wf = true) (hy : Iv w yv ys) :
    Calls Tryz.prog 5 #[.int .i64 n, rv, xv, .int .i64 k, yv] w fun e w' => e = .returned (.bool true) ∧ Below w.heap.size w w' := by
  have HR := Lib.hid hr.1.1; have HC := Lib.hid hr.1.2; have HCP := Lib.hid hr.2; have HX := Lib.hid hx; have HY := Lib.hid hy
  obtain ⟨RA, rc, rfl, -⟩ := hr.1.1
  obtain ⟨XA, xc, rfl, -⟩ := hx
  obtain ⟨YA, yc, rfl, -⟩ := hy
  clear hr hn hk
  have K := Lib.hid (Keep.start w)
  go_enter Tryz.func5, Tryz.ntmps5
  go_wp2_with fail
  refine (alive_any _).mono ?_
  rintro e w1 ⟨rfl, hb⟩
  replace K := Lib.hid (Keep.stays _ _ K.out hb)
  clear hb
  by_cases c1 : n < 2
  · (go_wp2_with fail; go_ret; exact ⟨rfl, K.out.B⟩)
  by_cases c2 : 6 < n
  · (go_wp2_with fail; go_ret; exact ⟨rfl, K.out.B⟩)
  by_cases c3 : (20 : Int) < (rs.length : Int)
  · (go_wp2_with fail; go_ret; exact ⟨rfl, K.out.B⟩)
  by_cases c4 : k < 1
  · (go_wp2_with fail; go_ret; exact ⟨rfl, K.out.B⟩)
  by_cases c5 : n ≤ k
  · (go_wp2_with fail; go_ret; exact ⟨rfl, K.out.B⟩)
  have hw : IntKind.i64.wrap (n - k) = n - k := IntWalk.i64_in _ (by omega)
  by_cases c6 : (ys.length : Int) = n - k
  case neg =>
    have c6b : ((ys.length : Int) != n - k) = true := bne_iff_ne.2 c6
    (go_wp2_with fail; go_ret; exact ⟨rfl, K.out.B⟩)
  obtain ⟨n, rfl⟩ : ∃ m : Nat, n = m := ⟨n.toNat, by omega⟩
  obtain ⟨k, rfl⟩ : ∃ m : Nat, k = m := ⟨k.toNat, by omega⟩
  have hnk : Hid (n = k + ys.length) := Lib.hid (by omega)
  have hk0 : 0 < k := by omega
  have hkn : k < n := by omega
  have hm0 : 0 < ys.length := by omega
  have hk5 : k ≤ 5 := by omega
  have hm5 : ys.length ≤ 5 := by omega
  have hn6 : n ≤ 6 := by omega
  have hr20 : rs.length ≤ 20 := by omega
  go_wp2_with fail
  refine (new_any _ rs n _ (HR.out.below K.out.B) (by omega) (by omega) (by omega) HC.out).mono ?_
  rintro e w2 ⟨⟨rfl, hno⟩ | ⟨pv, qv, dn, ds, rfl, hG⟩, hb⟩
  · replace K := Lib.hid (Keep.stays _ _ K.out hb)
    clear hno hb
    unfold gzero
    go_wp2_with fail
    go_ret
    exact ⟨rfl, (K.out.alloc (.cells #[.int .i64 0, .slice none 0 0, .slice none 0 0, .slice none 0 0, .bool false, .slice none 0 0, .bool false, .slice none 0 0] 34)).rest.B⟩
  have HG := Lib.hid hG
  replace K := Lib.hid (Keep.stays _ _ K.out hb)
  clear hG hb
  obtain ⟨DA, dl, dc, rfl⟩ := HG.out.2.2.2.1.sl
  obtain ⟨PA, pc, rfl, -⟩ := HG.out.2.2.1.1
  obtain ⟨QA, qc, rfl, -⟩ := HG.out.2.2.1.2.1
  clear hw c6 c3 c1 c2 c4 c5
  go_upto_region 7 with fail
  have hb := Ext.alloc w2 (.cells #[.int .i64 n, .slice RA rs.length rc, .slice PA n pc, .slice QA n qc, .bool false, .slice none 0 0, .bool dn, .slice DA dl dc] 34)
  replace K := Lib.hid (K.out.alloc (.cells #[.int .i64 n, .slice RA rs.length rc, .slice PA n pc, .slice QA n qc, .bool false, .slice none 0 0, .bool dn, .slice DA dl dc] 34))
  replace HG := Lib.hid (HG.out.below hb)
  clear hb
  generalize w2.heap.size = bg at *
  generalize w2.alloc _ = W3 at *
  go_step
  refine wpList_load_row rfl 34 _ rfl bg rfl 34 _ (0, 0) _ (K.out.gb (.head _)) Tryz.underlying34 rfl (by kernel_rfl) ?_
  simp only [Act.put, List.setIfInBounds_toArray, List.set_cons_zero, List.set_cons_succ]
  go_wp2_with fail
  refine (mout_any _ _ _ _ _ _ false dn n k ys.length rs xs _ HG.out (HCP.out.below HR.out K.out.B) (HX.out.below K.out.B) hnk hk0 hkn hm0 hk5 hm5 hr20).mono ?_
  rintro e W4 ⟨ho, hb⟩
  replace K := Lib.hid (Keep.stays _ _ K.out hb)
  replace HG := Lib.hid (HG.out.below hb)
  clear hb
  rcases ho with ⟨z, hz, rfl⟩ | ⟨hdf, hsb, hxn, OA, oal, oac, opv, oqv, ocn, ocs, odn, OT, otl, otc, R, q', c', rfl, hQ, hcase⟩
  · have hzb : (z != 0) = true := bne_iff_ne.2 hz
    unfold gzero
    go_upto_region 9 with fail
    replace K := Lib.hid (K.out.alloc (.cells #[.int .i64 0, .slice none 0 0, .slice none 0 0, .slice none 0 0, .bool false, .slice none 0 0, .bool false, .slice none 0 0] 34))
    generalize W4.heap.size = bo at *
    generalize W4.alloc _ = W5 at *
    have y1 := K.out.cell (k := 1) (.head _) rfl
    (go_wp2_with fail; go_ret; exact ⟨rfl, K.out.B⟩)
  have HDF := Lib.hid hdf
  have HSX : Hid (Sta w (.slice XA xs.length xc) xs n) := Lib.hid ⟨HX.out, hxn, fun j hj => of_decide_eq_true hsb j (by omega)⟩
  have HQ := Lib.hid hQ
  have HCA := Lib.hid hcase
  obtain ⟨OP, opc, rfl, -⟩ := hQ.1.mv
  obtain ⟨OQ, oqc, rfl, -⟩ := hQ.2.1.lv
  obtain ⟨OC, ocl, occ, rfl⟩ := hQ.2.2.sl
  clear hdf hsb hxn hQ hcase
  go_upto_region 10 with fail
  have hb := Ext.alloc W4 (.cells #[.int .i64 ys.length, .slice OA oal oac, .slice OP ys.length opc, .slice OQ ys.length oqc, .bool ocn, .slice OC ocl occ, .bool odn, .slice OT otl otc] 34)
  replace K := Lib.hid (K.out.alloc (.cells #[.int .i64 ys.length, .slice OA oal oac, .slice OP ys.length opc, .slice OQ ys.length oqc, .bool ocn, .slice OC ocl occ, .bool odn, .slice OT otl otc] 34))
  replace HG := Lib.hid (HG.out.below hb)
  replace HQ := Lib.hid (HQ.out.below hb)
  clear hb
  generalize W4.heap.size = bo at *
  generalize W4.alloc _ = W5 at *
  go_step
  refine wpList_load_row rfl 34 _ rfl bg rfl 34 _ (0, 0) _ (K.out.gb (.tail _ (.head _))) Tryz.underlying34 rfl (by kernel_rfl) ?_
  simp only [Act.put, List.setIfInBounds_toArray, List.set_cons_zero, List.set_cons_succ]
  go_wp2_with fail
  refine (whole_any _ _ _ _ _ _ false dn n k rs xs _ HG.out (HCP.out.below HR.out K.out.B) (HSX.out.below K.out.B) hk0 hkn).mono ?_
  rintro e W6 ⟨⟨up, uq, un, us, on, os, rfl, hW, hO⟩, hb⟩
  replace K := Lib.hid (Keep.stays _ _ K.out hb)
  replace HQ := Lib.hid (HQ.out.below hb)
  have HOK := Lib.hid HG.out.2.1
  have HW := Lib.hid hW; have HO := Lib.hid hO
  obtain ⟨UP, upc, rfl, -⟩ := hW.1.mv
  obtain ⟨UQ, uqc, rfl, -⟩ := hW.2.1.lv
  obtain ⟨US, usl, usc, rfl⟩ := hW.2.2.sl
  obtain ⟨OS, osl, osc, rfl⟩ := hO.sl
  clear hb hW hO HG
  go_upto_region 13 with fail
  have hb := below_two W6 (.cells #[.slice UP n upc, .slice UQ n uqc, .bool un, .slice US usl usc] 32) (.cells #[.bool on, .slice OS osl osc] 30)
  replace K := Lib.hid (K.out.alloc2 (.cells #[.slice UP n upc, .slice UQ n uqc, .bool un, .slice US usl usc] 32) (.cells #[.bool on, .slice OS osl osc] 30))
  replace HQ := Lib.hid (HQ.out.below hb)
  replace HW := Lib.hid (HW.out.below hb)
  replace HO := Lib.hid (HO.out.below hb)
  clear hb
  generalize W6.heap.size = bw at *
  generalize (W6.alloc _).alloc _ = W7 at *
  have K3 := Lib.hid (K.out.sub (l' := [(bw + 1, Obj.cells #[.bool on, .slice OS osl osc] 30), (bw, Obj.cells #[.slice UP n upc, .slice UQ n uqc, .bool un, .slice US usl usc] 32), (bo, Obj.cells #[.int .i64 ys.length, .slice OA oal oac, .slice OP ys.length opc, .slice OQ ys.length oqc, .bool ocn, .slice OC ocl occ, .bool odn, .slice OT otl otc] 34)]) (.cons_cons _ (.cons_cons _ (.cons_cons _ (.cons _ .slnil)))))
  clear K
  have K := K3
  clear K3 HC HCP HSX HX HR
  have KR := Lib.hid (Keep.start W7)
  rename_i cont
  have HCT := Lib.hid cont
  clear cont
  go_loopg [18, 19] ys.length (fun gk vv jv wr2 => ∃ (j : Nat) (VA : Option Addr) (vc : Nat) (LR : List Nm), gk + j = ys.length ∧ jv = .int .i64 (j : Int) ∧ vv = .slice VA j vc ∧ LR.length = j ∧ Lwn wr2 W7.heap.size (.slice VA j vc) LR ∧ Els wr2 LR 2 (fun j => ys.getD j 0) ∧ Keep W7 [] wr2)
  case atStart => exact ⟨0, none, 0, [], by omega, rfl, rfl, rfl, Lwn.nil _ _, Els.nil _ _ _, KR.out⟩
  case round =>
    clear KR
    obtain ⟨j, VA, vc, LR, hgj, rfl, rfl, hlr, hown, hels, kk⟩ := hrel
    have KR := Lib.hid kk
    have HV := Lib.hid hown
    have HE := Lib.hid hels
    have KO := K
    replace K := Lib.hid (Keep.stays _ _ K.out KR.out.B)
    clear kk hown hels
    by_cases hj : j < ys.length
    · obtain ⟨A9, c9, hv9, -, hh⟩ := HY.out
      cases hv9
      obtain ⟨⟨i1, i2⟩, p, rfl, hlt, hc⟩ := hh j hj
      have e0 := (K.out.B.cell (p := p.add j) (by rw [add_block]; exact hlt)).trans hc
      obtain ⟨y, hy⟩ : ∃ y, ys.getD j 0 = y := ⟨_, rfl⟩
      rw [hy] at i1 i2 e0
      have HYE := Lib.hid hy
      clear hh hc hy
      go_wp2_with fail
      refine (int_nz y _ (by omega) (by omega)).mono ?_
      rintro e W15 ⟨q6, A6, l6, c6, rfl, hN6, hb⟩
      replace KR := Lib.hid (Keep.stays _ _ KR.out hb)
      replace HV := Lib.hid (HV.out.below hb)
      replace HE := Lib.hid (HE.out.below hb)
      clear hb e0 K
      obtain ⟨v', W16, hrun, hlw, hT, -, hkp⟩ := app1n 27 W7.heap.size (.slice VA j vc) LR ⟨q6, A6, l6, c6⟩ HV.out (by omega) KR.out.B.size
      have HRUN := Lib.hid hrun
      have hE2 := (HE.out.turnO hT HV.out.2).snoc ⟨q6, A6, l6, c6⟩ (by rw [hlr]; show Nz _ _ _ (ys.getD j 0) 2; rw [HYE.out]; exact hN6.turn hT HV.out.2)
      have KR2 := Lib.hid (hkp W7 [] KR.out (fun p hp => by cases hp) (Nat.le_refl _))
      have HV2 := Lib.hid hlw
      have HE2 := Lib.hid hE2
      obtain ⟨VA9, vc9, rfl⟩ := hlw.sl
      have hlr2 : (LR ++ [(⟨q6, A6, l6, c6⟩ : Nm)]).length = j + 1 := by rw [List.length_append, hlr]; rfl
      rw [hlr2] at HV2 HRUN
      clear hrun hlw hT hkp hE2 hN6 HV HE KR
      go_wp2_with (at_builtin; refine wpList_exec rfl (exec_append (.tmp 97) (.tmp 103) 27 rfl HRUN.out) ?_)
      clear HRUN
      go_roundg (ys.length - j - 1)
      case measure => omega
      case rel => exact ⟨j + 1, VA9, vc9, _, by omega, congrArg (Value.int .i64) (by omega), rfl, hlr2, HV2.out, HE2.out, KR2.out⟩
    · have hje : j = ys.length := by omega
      have hjz : ¬ (j : Int) < (ys.length : Int) := by omega
      subst hje
      have hbr := KR.out.B
      go_wp2_with fail
      refine HCT.out _ _ ?_
      have hlv := HV.out.lv HE.out
      rw [hlr] at hlv
      exact forgets_tail n k ys.length rs xs (whP rs xs k rs.length) R (fun j => ys.getD j 0) bo bw (bw + 1) VA vc UP upc _ _ un OS osl osc on OP opc _ _ _ _ _ _ _ _ hnk hk0 hk5 hm0 hm5 hn6 K.out (HO.out.below hbr) ((HW.out.1.below hbr).more (by omega) (fun _ _ _ _ => rfl)) (HQ.out.1.mv.below hbr) hlv HDF.out (wh_sym rs xs k rs.length (k + ys.length)) (fun z => wh_psd rs xs k (k + ys.length) z rs.length (fun l hl => twt_nonneg HOK.out xs k l hl)) HCA.out
end Go.Proofs.YtmidifgnpjlgcaaGreat
