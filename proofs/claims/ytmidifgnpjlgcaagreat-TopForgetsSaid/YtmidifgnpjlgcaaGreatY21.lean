/- The texts Vh, Vi of the walk of the law and of all that it calls, in one file. No condition. -/
import Derived.Test.YtmidifgnpjlgcaaGreatY20
/- The walk of With. -/
set_option linter.unusedVariables false
set_option linter.unusedSimpArgs false
namespace Go.Proofs.YtmidifgnpjlgcaaGreat
open Go.RowKit

theorem Els.app {w : World} {L L2 : List Nm} {N : Nat} {f g h : Nat → Int} (h1 : Els w L N f) (h2 : Els w L2 N g) (hf : ∀ j, j < L.length → f j = h j) (hg : ∀ j, j < L2.length → g j = h (L.length + j)) : Els w (L ++ L2) N h := fun j hj => by
  by_cases e : j < L.length
  · have e2 : (L ++ L2)[j]'hj = L[j] := List.getElem_append_left e
    rw [e2, ← hf j e]
    exact h1 j e
  · have hj2 : j - L.length < L2.length := by rw [List.length_append] at hj; omega
    have e2 : (L ++ L2)[j]'hj = L2[j - L.length] := List.getElem_append_right (by omega)
    have e3 : h j = g (j - L.length) := by rw [hg _ hj2, show L.length + (j - L.length) = j by omega]
    rw [e2, e3]
    exact h2 _ hj2
theorem flat_whole : ∀ L : List Nm, ∀ u ∈ flat L, u.oneCell' = true
  | [], u, hu => by cases hu
  | x :: L, u, hu => by
    rcases List.mem_cons.1 hu with rfl | hu
    · rfl
    · rcases List.mem_cons.1 hu with rfl | hu
      · rfl
      · exact flat_whole L u hu
/-- A list of numbers behind a list of the call's own. -/
theorem appln {w : World} (ty : TypeId) (base : Nat) (v t : Value) (L : List Nm) {m N : Nat} {f : Nat → Int} (hown : Lwn w base v L) (ht : Lv w t m N f) (h0 : 0 < m) (hm : m ≤ 1000000) (hlen : L.length ≤ 1000000) (hbase : base ≤ w.heap.size) :
    ∃ v' w' L2, (Builtin.append_ #[27, 27] ty #[v, t]).run Tryz.prog w = .ok v' w' ∧ L2.length = m ∧ Els w L2 N f ∧ Lwn w' base v' (L ++ L2) ∧ Turn v.ownBlock w w' ∧ ∀ w0 l, Keep w0 l w → (∀ p ∈ l, p.1 < base) → w0.heap.size ≤ base → Keep w0 l w' := by
  obtain ⟨i0, hi, hx0⟩ := Option.map_eq_some_iff.1 info30
  simp only [Prod.mk.injEq] at hx0
  obtain ⟨hz0, hz1, hz2⟩ := hx0
  obtain ⟨P, c, L2, rfl, hnone, hl, he, hcell⟩ := ht.list
  obtain ⟨b, rfl, hlt, -⟩ := hcell 0 (by omega)
  have hcells : ∀ k, k < L2.length * 2 → w.cell? ⟨b, k, none⟩ = (flat L2)[k]? := flat_cells (fun j hj => by
    obtain ⟨b', hb', -, h1, h2⟩ := hcell j hj
    injection hb' with hb'
    injection hb' with hb'
    rw [hb']
    exact ⟨h1, h2⟩)
  have hfl : (flat L2).length = m * 2 := by rw [flat_length, hl]
  obtain ⟨v', w', hr, hown', hgrow, -, -⟩ := run_append_own_at (P := Tryz.prog) (ty := ty) w base 27 30 i0 (.agg #[.bool false, .slice none 0 0]) 2 32 Tryz.underlying27 hi hz0 hz1 hz2 (by rfl) (by decide) v L.length _ hown.1 ⟨b, 0, none⟩ m c (flat L2) hfl (fun j u hu => by
    have hj : j < L2.length * 2 := by
      rw [← flat_length]
      exact (List.getElem?_eq_some_iff.1 hu).1
    rw [add0, hcells j hj]
    exact hu) (fun u hu => flat_whole L2 u hu) (by unfold maxLen; omega) (by omega) (by omega)
  refine ⟨v', w', L2, hr, hl, he, ?_⟩
  have e : flat (L ++ L2) = flat L ++ flat L2 := flat_app _ _
  have hT : Turn v.ownBlock w w' := ⟨hgrow.size, fun k hk hne => hgrow.block k hk (fun e => hne e.symm)⟩
  refine ⟨⟨?_, fun k hk z => ?_⟩, hT, fun w0 l K hl h0 => ?_⟩
  · rw [e, List.length_append, hl]
    exact hown'
  · rcases hown'.2 with ⟨rfl, _⟩ | ⟨g, cap, cur, rfl, hb, hh, hn, _, hcur, htake⟩
    · simp [Value.ownBlock] at hk
    · have hgk : g = k := by simpa [Value.ownBlock] using hk
      subst hgk
      have htake2 : List.take ((L.length + m) * 2) cur.toList = flat (L ++ L2) := by rw [e]; exact htake
      have hc : w'.cell? ⟨g, 0, none⟩ = (flat (L ++ L2))[0]? := by
        rw [cellOf hh, ← htake2, List.getElem?_take, if_pos (by omega), Array.getElem?_toList]
      rw [hc]
      have hlen : 0 < (L ++ L2).length := by rw [List.length_append]; omega
      have := flat_get0 (L ++ L2) 0 hlen
      rw [Nat.zero_mul] at this
      rw [this]
      intro e; cases e
  · have hg : ∀ k, k < base → w'.heap[k]? = w.heap[k]? := fun k hk => hgrow.block k (by omega) (fun e => by have := hown.base k e.symm; omega)
    refine ⟨fun p hp => ?_, K.own, K.one, ⟨hgrow.os.trans K.B.os, hgrow.tape.trans K.B.tape, hgrow.output.trans K.B.output, Nat.le_trans K.B.size hgrow.size, fun k hk => (hg k (by omega)).trans (K.B.block k hk)⟩⟩
    rw [hg p.1 (hl p hp)]
    exact K.box p hp
theorem ret_wi {fn : Func} {p q g : Nat} {tmps : Array Value} {w : World} {a b c d : Value} {R : Ending → World → Prop} (h : fn.results = #[.cell p 32, .tmp q]) (hp : tmps.getD p undef = .pointer (some ⟨g, 0, none⟩))
    (hb : w.heap[g]? = some (.cells #[a, b, c, d] 32)) (hR : R (.returned (.tuple #[.agg #[a, b, c, d], tmps.getD q undef])) w) : bodyPost Tryz.prog fn R .ret { tmps := tmps, defers := [] } w := by
  refine bodyPost_ret ?_ rfl hR
  have hp' : tmps[p]?.getD undef = .pointer (some ⟨g, 0, none⟩) := by simpa using hp
  have e1 := run_loadVar_row (P := Tryz.prog) w g 32 32 _ _ _ hb Tryz.underlying32 rfl (by kernel_rfl)
  simp [results, h, hp', asAddr, e1]
/-- A list, a matrix: not touched by what is stored into a block that begins with an empty slice. -/
theorem Lv.turnQ {w w' : World} {v : Value} {m N g : Nat} {f : Nat → Int} (h : Lv w v m N f) (hT : Turn (some g) w w') (hc : w.cell? ⟨g, 0, none⟩ = some (.slice none 0 0)) : Lv w' v m N f := by
  obtain ⟨A, c, hv, h0, hh⟩ := h
  refine ⟨A, c, hv, h0, fun j hj => ?_⟩
  obtain ⟨b, n, B, l, d, hA, hlt, c0, c1, hN⟩ := hh j hj
  obtain ⟨b', n', B', l', d', hA', -, c0', -⟩ := hh 0 (by omega)
  have hbb : b' = b := by rw [hA] at hA'; injection hA' with e; injection e with e; exact e.symm
  have hne : b ≠ g := by
    intro e
    rw [Nat.zero_mul, hbb, e, hc] at c0'
    cases c0'
  have hb : w'.heap[b]? = w.heap[b]? := hT.2 b hlt (fun e => hne (by injection e with e; exact e.symm))
  refine ⟨b, n, B, l, d, hA, Nat.lt_of_lt_of_le hlt hT.1, ?_, ?_, hN.turn hT (fun k hk z e => ?_)⟩
  · rw [World.cell?_of_block (a := ⟨b, j * 2, none⟩) hb]; exact c0
  · rw [World.cell?_of_block (a := ⟨b, j * 2 + 1, none⟩) hb]; exact c1
  · cases hk
    rw [hc] at e
    cases e
theorem Mv.turnQ {w w' : World} {v : Value} {n m N g : Nat} {f : Nat → Nat → Int} (h : Mv w v n m N f) (hm : 0 < m) (hT : Turn (some g) w w') (hc : w.cell? ⟨g, 0, none⟩ = some (.slice none 0 0)) : Mv w' v n m N f := by
  obtain ⟨A, c, hv, h0, hh⟩ := h
  refine ⟨A, c, hv, h0, fun j hj => ?_⟩
  obtain ⟨b, B, d, hA, hlt, c0, hL⟩ := hh j hj
  obtain ⟨b', B', d', hA', -, c0', -⟩ := hh 0 (by omega)
  have hbb : b' = b := by rw [hA] at hA'; injection hA' with e; injection e with e; exact e.symm
  have hne : b ≠ g := by
    intro e
    rw [hbb, e, hc] at c0'
    injection c0' with c0'
    injection c0' with _ c0'
    omega
  have hb : w'.heap[b]? = w.heap[b]? := hT.2 b hlt (fun e => hne (by injection e with e; exact e.symm))
  exact ⟨b, B, d, hA, Nat.lt_of_lt_of_le hlt hT.1, by rw [World.cell?_of_block (a := ⟨b, j, none⟩) hb]; exact c0, hL.turnQ hT hc⟩
/-- What With tells. -/
def WiR (n k N M : Nat) (P : Nat → Nat → Int) (q : Nat → Int) (c : Int) (x : Nat → Int) (e : Ending) (w' : World) : Prop := ∃ up uq un us, e = .returned (.tuple #[.agg #[up, uq, .bool un, us], .int .i64 0]) ∧ Mv w' up k k N P ∧ Lv w' uq k (2 * N + M + n + 2 + 2 + 1) (fun i => (sumTo (fun j => P i j * x j) n - q i) * -1) ∧ Nz w' un us (qval n P q c x) (N + 2 * M + 2 * n + 10)

variable {w0 w : World} {l l2 : List (Nat × Obj)}
set_option maxHeartbeats 8000000 in
set_option maxRecDepth 100000 in
theorem with_any (vp vq cs t : Value) (cn : Bool) (n m k N M : Nat) (P : Nat → Nat → Int) (q : Nat → Int) (c : Int) (x xp : Nat → Int) (w : World) (h : Qg w vp vq cn cs n N P q c) (hp : Mw w vp n n N P) (hx : Lv w t m M x) (hnk : Hid (n = k + m)) (hk0 : 0 < k) (hkn : k ≤ n) (hm0 : 0 < m) (hn : n ≤ 11) (hN : N ≤ 10000) (hM : M ≤ 10000) (hx0 : ∀ j, j < k → xp j = 0) (hx1 : ∀ j, xp (k + j) = x j) :
    Calls Tryz.prog 20 #[.agg #[vp, vq, .bool cn, cs], t] w fun e w' => WiR n k N M P q c xp e w' ∧ Below w.heap.size w w' := by
  have HG := Lib.hid h; have HP := Lib.hid hp; have HX := Lib.hid hx
  obtain ⟨CA, cl, cc, rfl⟩ := h.2.2.sl
  obtain ⟨PA, pc, rfl, -⟩ := h.1
  obtain ⟨QA, qc, rfl, -⟩ := h.2.1
  obtain ⟨XA, xc, rfl, -⟩ := hx
  have hkz : ¬ (k : Int) < 0 := by omega
  have hw : IntKind.i64.wrap ((n : Int) - (m : Int)) = (k : Int) := by
    have := hnk.out
    rw [IntWalk.i64_in _ (by omega)]; omega
  have hmn : m ≤ n := by have := hnk.out; omega
  have K := Lib.hid (Keep.begin2 w (.cells #[.slice PA n pc, .slice QA n qc, .bool cn, .slice CA cl cc] 32) (.cells #[.slice none 0 0, .slice none 0 0, .bool false, .slice none 0 0] 32))
  clear h hp
  go_enter Tryz.func20, Tryz.ntmps20
  go_upto_region 1 with fail
  (refine out_keep K.out ?_; clear K; intro W K; replace K := Lib.hid K)
  have y0 := K.out.cell (k := 0) (.tail _ (.head _)) rfl
  have hmk := mk_lst k (by omega) k rfl
  have KM := Lib.hid (K.out.alloc (Obj.lst (List.replicate k Nm.zero)))
  have hb1 := Ext.alloc W (Obj.lst (List.replicate k Nm.zero))
  have hL0 : Lwn (W.alloc (Obj.lst (List.replicate k Nm.zero))) W.heap.size (.slice (some ⟨W.heap.size, 0, none⟩) k k) (List.replicate k Nm.zero) := by
    have := Lwn.of (base := W.heap.size) (c := k) (L := List.replicate k Nm.zero) (rest := []) (Nat.le_refl _) (w := W.alloc (Obj.lst (List.replicate k Nm.zero))) (by rw [show Obj.lstt (List.replicate k Nm.zero) [] = Obj.lst (List.replicate k Nm.zero) by simp [Obj.lst, Obj.lstt]]; exact KM.out.box (W.heap.size, Obj.lst (List.replicate k Nm.zero)) (.head _)) (by simp) (by unfold maxLen; omega) (by rw [List.append_nil, flat_length, List.length_replicate]) (by rw [List.length_replicate]; exact hk0)
    simpa using this
  obtain ⟨v', W4, L2, hrun, hl2, he2, hlw, hT, hkp⟩ := appln 27 W.heap.size (.slice (some ⟨W.heap.size, 0, none⟩) k k) (.slice XA m xc) (List.replicate k Nm.zero) hL0 ((HX.out.below K.out.B).below hb1) hm0 (by omega) (by simp; omega) hb1.size
  have hlen : (List.replicate k Nm.zero ++ L2).length = n := by rw [List.length_append, List.length_replicate, hl2, ← hnk.out]
  have HLV := Lib.hid (hlw.lv (Els.app (h := xp) (Els.zero W4 k M) (he2.turnO hT hL0.2) (fun j hj => (hx0 j (by simpa using hj)).symm) (fun j hj => by rw [List.length_replicate]; exact (hx1 j).symm)))
  rw [hlen] at HLV
  have K4 := Lib.hid (hkp w _ KM.out.rest (fun p hp => K.out.lt hp) K.out.B.size)
  have HRUN := Lib.hid hrun
  obtain ⟨VA, vc, rfl⟩ := hlw.sl
  rw [hlen] at HLV HRUN
  clear hrun hl2 he2 hlw hT hkp hL0 hb1 KM hlen
  go_upto_region 4 with fail
  have x0 := K4.out.cell (k := 0) (.tail _ (.head _)) rfl; have x1 := K4.out.cell (k := 1) (.tail _ (.head _)) rfl; have x2 := K4.out.cell (k := 2) (.tail _ (.head _)) rfl; have x3 := K4.out.cell (k := 3) (.tail _ (.head _)) rfl
  go_wp2_with (at_builtin; refine wpList_exec rfl (exec_append (.tmp 19) (.tmp 20) 27 rfl HRUN.out) ?_)
  clear y0 hmk HRUN K x0 x1 x2 x3
  have K := K4
  clear K4
  refine (qslope_any _ _ _ _ cn n N M P q c xp _ (HG.out.below K.out.B) HLV.out hn (by omega) (by omega)).mono ?_
  rintro e W5 ⟨u, rfl, hLo, hb⟩
  replace K := Lib.hid (Keep.stays _ _ K.out hb)
  replace HLV := Lib.hid (HLV.out.below hb)
  obtain ⟨sg, SL, rfl, hsg, hsh, hsl, hse⟩ := id hLo
  have HS := Lib.hid hLo.lv
  clear hb hLo hsg hsh hsl hse
  go_upto_region 6 with fail
  have hk1 : (0 : Int) ≤ (k : Int) := by omega
  have hk2 : (k : Int) ≤ (n : Int) := by omega
  (refine region_ord _ 13 (by kernel_rfl) (by kernel_rfl) K.out.drew ?_; clear K; intro W K hbw; replace K := Lib.hid K)
  replace HLV := Lib.hid (HLV.out.below hbw)
  replace HS := Lib.hid (HS.out.below hbw)
  clear hbw
  have y0 := Keep.acell (k := 0) K (.tail _ (.head _)) rfl; have y1 := Keep.acell (k := 1) K (.tail _ (.head _)) rfl; have y2 := Keep.acell (k := 2) K (.tail _ (.head _)) rfl; have y3 := Keep.acell (k := 3) K (.tail _ (.head _)) rfl
  (refine Ord.take' 0 rfl (by kernel_rfl) (fun _ _ _ _ h => h) K.out (by rfl) ?_; apply Exists.intro; refine ⟨fun p => ?_, ?_⟩; (focus (go_simp; (try (with_reducible rfl)); done)); (try simp only [Act.put, List.setIfInBounds_toArray, List.set_cons_zero, List.set_cons_succ]))
  (refine Ord.take' 1 rfl (by kernel_rfl) (fun _ _ _ _ h => h) K.out (by rfl) ?_; apply Exists.intro; refine ⟨fun p => ?_, ?_⟩; (focus (go_simp; (try (with_reducible rfl)); done)); (try simp only [Act.put, List.setIfInBounds_toArray, List.set_cons_zero, List.set_cons_succ]))
  (refine Ord.take' 2 rfl (by kernel_rfl) (fun _ _ _ _ h => h) K.out (by rfl) ?_; apply Exists.intro; refine ⟨fun p => ?_, ?_⟩; (focus (go_simp; (try (with_reducible rfl)); done)); (try simp only [Act.put, List.setIfInBounds_toArray, List.set_cons_zero, List.set_cons_succ]))
  (refine Ord.take' 4 rfl (by kernel_rfl) (fun _ _ _ _ h => h) K.out (by rfl) ?_; apply Exists.intro; refine ⟨fun p => ?_, ?_⟩; (focus (go_simp; (try (with_reducible rfl)); done)); (try simp only [Act.put, List.setIfInBounds_toArray, List.set_cons_zero, List.set_cons_succ]))
  (refine Ord.take' 5 rfl (by kernel_rfl) (fun _ _ _ _ h => h) K.out (by rfl) ?_; apply Exists.intro; refine ⟨fun p => ?_, ?_⟩; (focus (go_simp; (try (with_reducible rfl)); done)); (try simp only [Act.put, List.setIfInBounds_toArray, List.set_cons_zero, List.set_cons_succ]))
  (refine Ord.take' 6 rfl (by kernel_rfl) (fun _ _ _ _ h => h) K.out (by rfl) ?_; apply Exists.intro; refine ⟨fun p => ?_, ?_⟩; (focus (go_simp; (try (with_reducible rfl)); done)); (try simp only [Act.put, List.setIfInBounds_toArray, List.set_cons_zero, List.set_cons_succ]))
  (refine Ord.take' 9 rfl (by kernel_rfl) (fun _ _ _ _ h => h) K.out (by rfl) ?_; apply Exists.intro; refine ⟨fun p => ?_, ?_⟩; (focus (go_simp; (try (with_reducible rfl)); done)); (try simp only [Act.put, List.setIfInBounds_toArray, List.set_cons_zero, List.set_cons_succ]))
  (refine Ord.take' 10 rfl (by kernel_rfl) (fun _ _ _ _ h => h) K.out (by rfl) ?_; apply Exists.intro; refine ⟨fun p => ?_, ?_⟩; (focus (go_simp; (try (with_reducible rfl)); done)); (try simp only [Act.put, List.setIfInBounds_toArray, List.set_cons_zero, List.set_cons_succ]))
  clear y0 y1 y2 y3
  (refine Ord.call 3 (g := 55) (args := (#[.slice PA n pc, .int .i64 k])) rfl (by kernel_rfl) (by rfl) (by (go_simp; try (with_reducible rfl))) ?_)
  refine (first_any _ n n k N P _ (HP.out.below K.out.B) hk0 hkn hkn (by omega)).mono ?_
  rintro e W6 ⟨u, rfl, hMw, hb⟩
  (refine ⟨_, rfl, Keep.stays _ _ K.out hb, ?_⟩; replace K := Lib.hid (Keep.stays _ _ K.out hb); simp only [Act.put, List.setIfInBounds_toArray, List.set_cons_zero, List.set_cons_succ])
  replace HLV := Lib.hid (HLV.out.below hb)
  replace HS := Lib.hid (HS.out.below hb)
  have HA := Lib.hid hMw.mv
  obtain ⟨UP, upc, rfl, -⟩ := hMw.mv
  clear hb hMw
  (refine Ord.call 7 (g := 19) (args := (#[.int .i64 (-1)])) rfl (by kernel_rfl) (by rfl) (by (go_simp; try (with_reducible rfl))) ?_)
  refine (int_nz (-1) _ (by omega) (by omega)).mono ?_
  rintro e W7 ⟨q1, A1, l1, c1, rfl, hN1, hb⟩
  (refine ⟨_, rfl, Keep.stays _ _ K.out hb, ?_⟩; replace K := Lib.hid (Keep.stays _ _ K.out hb); simp only [Act.put, List.setIfInBounds_toArray, List.set_cons_zero, List.set_cons_succ])
  replace HLV := Lib.hid (HLV.out.below hb)
  replace HS := Lib.hid (HS.out.below hb)
  replace HA := Lib.hid (HA.out.below hb)
  clear hb
  (refine Ord.call 8 (g := 56) (args := (#[.slice (some ⟨sg, 0, none⟩) k n, .agg #[.bool q1, .slice A1 l1 c1]])) rfl (by kernel_rfl) (by rfl) (by (go_simp; try (with_reducible rfl))) ?_)
  refine (times_any _ _ q1 k (2 * N + M + n + 2) 2 _ (-1) _ (Lv.take (d := n) HS.out hkn (fun e => by cases e)) hN1 (by omega)).mono ?_
  rintro e W8 ⟨u, rfl, hLo, hb⟩
  (refine ⟨_, rfl, Keep.stays _ _ K.out hb, ?_⟩; replace K := Lib.hid (Keep.stays _ _ K.out hb); simp only [Act.put, List.setIfInBounds_toArray, List.set_cons_zero, List.set_cons_succ])
  replace HLV := Lib.hid (HLV.out.below hb)
  replace HA := Lib.hid (HA.out.below hb)
  have HT := Lib.hid hLo.lv
  obtain ⟨TG, TL, rfl, -⟩ := hLo
  clear hb hN1 HS
  (refine Ord.call 11 (g := 44) (args := (#[.agg #[.slice PA n pc, .slice QA n qc, .bool cn, .slice CA cl cc], .slice VA n vc])) rfl (by kernel_rfl) (by rfl) (by (go_simp; try (with_reducible rfl))) ?_)
  refine (qvalue_any _ _ _ _ cn n N M P q c xp _ (HG.out.below K.out.B) HLV.out hn (by omega) (by omega)).mono ?_
  rintro e W9 ⟨q2, A2, l2, c2, rfl, hN2, hb⟩
  (refine ⟨_, rfl, Keep.stays _ _ K.out hb, ?_⟩; replace K := Lib.hid (Keep.stays _ _ K.out hb); simp only [Act.put, List.setIfInBounds_toArray, List.set_cons_zero, List.set_cons_succ])
  replace HA := Lib.hid (HA.out.below hb)
  replace HT := Lib.hid (HT.out.below hb)
  have HN := Lib.hid hN2
  clear hb hN2
  (refine Ord.take' 12 rfl (by kernel_rfl) (fun _ _ _ _ h => h) K.out (by rfl) ?_; apply Exists.intro; refine ⟨fun p => ?_, ?_⟩; (focus (go_simp; (try (with_reducible rfl)); done)); (try simp only [Act.put, List.setIfInBounds_toArray, List.set_cons_zero, List.set_cons_succ]))
  (refine Ord.done (by kernel_rfl) ?_; simp only [List.drop_succ_cons, List.drop_zero, Act.put, List.setIfInBounds_toArray, List.set_cons_zero, List.set_cons_succ])
  refine wpList_store_row rfl 32 _ _ rfl (w.heap.size + 1) _ rfl rfl 32 _ (K.out.gb (.head _)) (by kernel_rfl) rfl (by kernel_rfl) ?_
  simp only [Act.put]
  have K2 := Lib.hid (K.out.setRow [] #[.slice UP k upc, .slice (some ⟨TG, 0, none⟩) k k, .bool q2, .slice A2 l2 c2] rfl)
  have ht := K.out.tagq (g := w.heap.size + 1) (a := .slice none 0 0) (.head _) (fun z e => by cases e)
  have hT := Turn.row W9 (w.heap.size + 1) #[.slice UP k upc, .slice (some ⟨TG, 0, none⟩) k k, .bool q2, .slice A2 l2 c2]
  have hc0 := K.out.cell (k := 0) (.head _) rfl
  replace HA := Lib.hid (HA.out.turnQ hk0 hT hc0)
  replace HT := Lib.hid (HT.out.turnQ hT hc0)
  replace HN := Lib.hid (HN.out.turn hT ht.2)
  clear ht hT hc0 K
  go_wp2_with fail
  refine ret_wi Tryz.results20 rfl (K2.out.gb (.head _)) ?_
  exact ⟨⟨_, _, _, _, rfl, HA.out, HT.out, HN.out⟩, K2.out.B⟩
end Go.Proofs.YtmidifgnpjlgcaaGreat
/- The walk of Least. -/
set_option linter.unusedVariables false
set_option linter.unusedSimpArgs false
namespace Go.Proofs.YtmidifgnpjlgcaaGreat
open Go.RowKit

theorem Lo.far {w : World} {b b' : Nat} {v : Value} {m N : Nat} {f : Nat → Int} (h : Lo w b v m N f) (hb : b' ≤ b) : Lo w b' v m N f := by
  obtain ⟨g, L, h1, h2, h3⟩ := h
  exact ⟨g, L, h1, Nat.le_trans hb h2, h3⟩
/-- What Solve tells; the list is new. -/
def Ls2 (base n N : Nat) (A : Nat → Nat → Int) (b : Nat → Int) (e : Ending) (w' : World) : Prop :=
  (sweepP n (aug n A b) = none ∧ e = .returned (.tuple #[.slice none 0 0, .agg #[.bool false, .slice none 0 0], .int .i64 11])) ∨ ∃ M odd u q DA dl dc, sweepP n (aug n A b) = some (M, odd) ∧ e = .returned (.tuple #[u, .agg #[.bool q, .slice DA dl dc], .int .i64 0]) ∧ Lo w' base u n (pbd N n) (numP n M odd) ∧ Nz w' q (.slice DA dl dc) (detP n A) (pbd N n)

set_option maxHeartbeats 8000000 in
set_option maxRecDepth 100000 in
theorem lsolve2_any (v t : Value) (n N : Nat) (A : Nat → Nat → Int) (b : Nat → Int) (w : World) (h1 : Mv w v n n N A) (h2 : Lv w t n N b) (hn : n ≤ 11) (hN : 2 ≤ N) (hP : pbd N n ≤ 600000) :
    Calls Tryz.prog 58 #[v, t] w fun e w' => Ls2 w.heap.size n N A b e w' ∧ Below w.heap.size w w' := by
  have K := Lib.hid (Keep.begin2 w (.cells #[v] 26) (Obj.num false (.slice none 0 0)))
  have H1 := Lib.hid h1; have H2 := Lib.hid h2
  obtain ⟨VA, vc, rfl, -⟩ := h1
  obtain ⟨TA, tc, rfl, -⟩ := h2
  go_enter Tryz.func58, Tryz.ntmps58
  go_upto_region 1 with fail
  (refine out_keep K.out ?_; clear K; intro W K; replace K := Lib.hid K)
  have ca := K.out.cell (k := 0) (.tail _ (.head _)) rfl
  go_wp2_with fail
  refine (swept_any _ _ n N A b W (H1.out.below K.out.B) (H2.out.below K.out.B) hn hN hP).mono ?_
  rintro e w3 ⟨hr, hb⟩
  replace K := Lib.hid (Keep.stays _ _ K.out hb)
  clear hb ca
  rcases hr with ⟨hs, rfl⟩ | ⟨M, odd, bm, hs, rfl, hM⟩
  · have HS := Lib.hid hs
    clear hs
    go_upto_region 4 with fail
    replace K := Lib.hid (K.out.alloc2 (.cells #[.slice none 0 0] 25) (.cells #[.bool false] 4)).rest.rest
    refine out_keep K.out ?_
    clear K
    intro W4 K
    replace K := Lib.hid K
    obtain ⟨f1, c10, c11⟩ := K.out.nm (.head _)
    go_wp2_with fail
    refine ret_cnm Tryz.results58 rfl ((K.out.putn_0 false (.slice none 0 0)).nb (.head _)) ?_
    exact ⟨.inl ⟨HS.out, rfl⟩, (K.out.putn_0 false (.slice none 0 0)).B⟩
  · have HS := Lib.hid hs
    have HM := Lib.hid hM
    clear hs hM
    go_upto_region 4 with fail
    replace K := Lib.hid (K.out.alloc2 (.cells #[.slice (some ⟨bm, 0, none⟩) n n] 25) (.cells #[.bool odd] 4))
    replace HM := Lib.hid (HM.out.below (below_two w3 (.cells #[.slice (some ⟨bm, 0, none⟩) n n] 25) (.cells #[.bool odd] 4)))
    generalize w3.heap.size = g7 at *
    refine out_with (B := fun W => Mv W (.slice (some ⟨bm, 0, none⟩) n n) n (n + 1) (pbd N n) M) K.out HM.out ?_
    clear K HM w3
    intro W4 K HM
    replace K := Lib.hid K
    replace HM := Lib.hid HM
    go_upto_region 6 with fail
    (refine region_ord _ 7 (by kernel_rfl) (by kernel_rfl) K.out.drew ?_; clear K; intro W K hbw; replace K := Lib.hid K)
    replace HM := Lib.hid (HM.out.below hbw)
    clear hbw
    have x0 := Keep.acell (k := 0) K (.tail _ (.tail _ (.tail _ (.head _)))) rfl
    (refine Ord.take' 0 rfl (by kernel_rfl) (fun _ _ _ _ h => h) K.out (by rfl) ?_; apply Exists.intro; refine ⟨fun p => ?_, ?_⟩; (focus (go_simp; (try (with_reducible rfl)); done)); (try simp only [Act.put, List.setIfInBounds_toArray, List.set_cons_zero, List.set_cons_succ]))
    (refine Ord.take' 1 rfl (by kernel_rfl) (fun _ _ _ _ h => h) K.out (by rfl) ?_; apply Exists.intro; refine ⟨fun p => ?_, ?_⟩; (focus (go_simp; (try (with_reducible rfl)); done)); (try simp only [Act.put, List.setIfInBounds_toArray, List.set_cons_zero, List.set_cons_succ]))
    (refine Ord.take' 2 rfl (by kernel_rfl) (fun _ _ _ _ h => h) K.out (by rfl) ?_; apply Exists.intro; refine ⟨fun p => ?_, ?_⟩; (focus (go_simp; (try (with_reducible rfl)); done)); (try simp only [Act.put, List.setIfInBounds_toArray, List.set_cons_zero, List.set_cons_succ]))
    (refine Ord.take' 4 rfl (by kernel_rfl) (fun _ _ _ _ h => h) K.out (by rfl) ?_; apply Exists.intro; refine ⟨fun p => ?_, ?_⟩; (focus (go_simp; (try (with_reducible rfl)); done)); (try simp only [Act.put, List.setIfInBounds_toArray, List.set_cons_zero, List.set_cons_succ]))
    clear x0
    (refine Ord.call 3 (g := 87) (args := (#[.int .i64 n, .func (.func 88) #[] #[.pointer (some ⟨g7, 0, none⟩), .pointer (some ⟨w.heap.size, 0, none⟩), .pointer (some ⟨g7 + 1, 0, none⟩)]])) rfl (by kernel_rfl) (by rfl) (by (go_simp; try (with_reducible rfl))) ?_)
    have HCm : Hid (Cap W g7 (.slice (some ⟨bm, 0, none⟩) n n)) := Lib.hid ⟨K.out.lt (.tail _ (.head _)), K.out.cell (k := 0) (.tail _ (.head _)) rfl⟩
    have HCo : Hid (Cap W (g7 + 1) (.bool odd)) := Lib.hid ⟨K.out.lt (.head _), K.out.cell (k := 0) (.head _) rfl⟩
    have HCa : Hid (Cap W w.heap.size (.slice VA n vc)) := Lib.hid ⟨K.out.lt (.tail _ (.tail _ (.tail _ (.head _)))), K.out.cell (k := 0) (.tail _ (.tail _ (.tail _ (.head _)))) rfl⟩
    refine (list88_any _ _ _ n (pbd N n) (numP n M odd) W (fun k hk w' hb => entry88_any g7 w.heap.size (g7 + 1) _ bm k n (pbd N n) odd M VA vc w' (HCm.out.below hb) (HCa.out.below hb) (HCo.out.below hb) (HM.out.below hb) hk (by omega) (by omega)) (by omega)).mono ?_
    rintro e w5 ⟨u, rfl, hL, hb⟩
    have K0 := K
    (refine ⟨_, rfl, Keep.stays _ _ K.out hb, ?_⟩; replace K := Lib.hid (Keep.stays _ _ K.out hb); simp only [Act.put, List.setIfInBounds_toArray, List.set_cons_zero, List.set_cons_succ])
    have HL := Lib.hid hL
    have HLB := Lib.hid (K0.out.lt (.tail _ (.tail _ (.head _))))
    have hsz : Hid (w.heap.size ≤ W.heap.size) := Lib.hid K0.out.B.size
    obtain ⟨g, L, rfl, -⟩ := hL
    clear hb HCm HCo HCa
    (refine Ord.call 5 (g := 78) (args := (#[.slice VA n vc])) rfl (by kernel_rfl) (by rfl) (by (go_simp; try (with_reducible rfl))) ?_)
    refine (det_any _ n N A _ (H1.out.below K.out.B) hn hN hP).mono ?_
    rintro e w6 ⟨q, DA, dl, dc, rfl, hN6, hb⟩
    (refine ⟨_, rfl, Keep.stays _ _ K.out hb, ?_⟩; replace K := Lib.hid (Keep.stays _ _ K.out hb); simp only [Act.put, List.setIfInBounds_toArray, List.set_cons_zero, List.set_cons_succ])
    replace HL := Lib.hid (HL.out.below hb)
    have HN := Lib.hid hN6
    clear hb hN6
    (refine Ord.take' 6 rfl (by kernel_rfl) (fun _ _ _ _ h => h) K.out (by rfl) ?_; apply Exists.intro; refine ⟨fun p => ?_, ?_⟩; (focus (go_simp; (try (with_reducible rfl)); done)); (try simp only [Act.put, List.setIfInBounds_toArray, List.set_cons_zero, List.set_cons_succ]))
    (refine Ord.done (by kernel_rfl) ?_; simp only [List.drop_succ_cons, List.drop_zero, Act.put, List.setIfInBounds_toArray, List.set_cons_zero, List.set_cons_succ])
    obtain ⟨f1, c10, c11⟩ := K.out.nm (.tail _ (.tail _ (.head _)))
    go_wp2_with fail
    have K2 := Lib.hid (K.out.putn [_, _] q (.slice DA dl dc))
    refine ret_cnm Tryz.results58 rfl (K2.out.nb (.tail _ (.tail _ (.head _)))) ?_
    have hT := Turn.put w6 (w.heap.size + 1) 0 1 (.bool q) (.slice DA dl dc)
    exact ⟨.inr ⟨M, odd, _, q, DA, dl, dc, HS.out, rfl, (HL.out.turn hT HLB.out (fun k hk z => by injection hk with hk; rw [← hk, c10]; intro e; cases e)).far hsz.out, HN.out.put c10 _ _⟩, K2.out.B⟩

/-- What Least tells. -/
def LeR (k B : Nat) (D t : Int) (e : Ending) (w' : World) : Prop := ∃ u q A l c q2 A2 l2 c2, e = .returned (.tuple #[u, .agg #[.bool q, .slice A l c], .agg #[.bool q2, .slice A2 l2 c2], .int .i64 0]) ∧ Nz w' q (.slice A l c) D B ∧ Nz w' q2 (.slice A2 l2 c2) t (2 * B + k + 3)
theorem ret_le {fn : Func} {u p p2 z g g2 : Nat} {tmps : Array Value} {w : World} {n n2 : Bool} {s s2 : Value} {R : Ending → World → Prop} (h : fn.results = #[.tmp u, .cell p 30, .cell p2 30, .tmp z]) (hp : tmps.getD p undef = .pointer (some ⟨g, 0, none⟩)) (hp2 : tmps.getD p2 undef = .pointer (some ⟨g2, 0, none⟩)) (hb : w.heap[g]? = some (Obj.num n s)) (hb2 : w.heap[g2]? = some (Obj.num n2 s2)) (hR : R (.returned (.tuple #[tmps.getD u undef, .agg #[.bool n, s], .agg #[.bool n2, s2], tmps.getD z undef])) w) : bodyPost Tryz.prog fn R .ret { tmps := tmps, defers := [] } w := by
  refine bodyPost_ret ?_ rfl hR
  have hp' : tmps[p]?.getD undef = .pointer (some ⟨g, 0, none⟩) := by simpa using hp
  have hq' : tmps[p2]?.getD undef = .pointer (some ⟨g2, 0, none⟩) := by simpa using hp2
  have e1 := run_loadVar_row (P := Tryz.prog) w g 30 30 _ _ _ hb Tryz.underlying30 rfl (by kernel_rfl)
  have e2 := run_loadVar_row (P := Tryz.prog) w g2 30 30 _ _ _ hb2 Tryz.underlying30 rfl (by kernel_rfl)
  simp [results, h, hp', hq', asAddr, e1, e2]

variable {w0 w : World} {l l2 : List (Nat × Obj)}
set_option maxHeartbeats 8000000 in
set_option maxRecDepth 100000 in
theorem least_any (vp vq cs : Value) (cn : Bool) (k N : Nat) (P : Nat → Nat → Int) (q : Nat → Int) (c : Int) (M : Nat → Nat → Int) (w : World) (h : Qg w vp vq cn cs k N P q c) (hn : k ≤ 11) (hN : 2 ≤ N) (hP : pbd N k ≤ 100000) (hd : defP k P = true) (hs : sweepP k (aug k P q) = some (M, false)) :
    Calls Tryz.prog 21 #[.agg #[vp, vq, .bool cn, cs]] w fun e w' => LeR k (pbd N k) (detP k P) (c * detP k P - sumTo (fun l => q l * M l k) k) e w' ∧ Below w.heap.size w w' := by
  have HG := Lib.hid h
  obtain ⟨CA, cl, cc, rfl⟩ := h.2.2.sl
  obtain ⟨PA, pc, rfl, -⟩ := h.1
  obtain ⟨QA, qc, rfl, -⟩ := h.2.1
  have hNp := pbd_ge N k
  have K := Lib.hid (Keep.begin3 w (.cells #[.slice PA k pc, .slice QA k qc, .bool cn, .slice CA cl cc] 32) (Obj.num false (.slice none 0 0)) (Obj.num false (.slice none 0 0)))
  clear h
  go_enter Tryz.func21, Tryz.ntmps21
  go_upto_region 1 with fail
  have y0 := K.out.cell (k := 0) (.tail _ (.tail _ (.head _))) rfl
  go_wp2_with fail
  refine (definite_any _ k N P _ (HG.out.1.below K.out.B) hn hN (by omega)).mono ?_
  rintro e W5 ⟨rfl, hb⟩
  replace K := Lib.hid (Keep.stays _ _ K.out hb)
  rw [hd]
  clear hb y0
  have y0 := K.out.cell (k := 0) (.tail _ (.tail _ (.head _))) rfl
  have y1 := K.out.cell (k := 1) (.tail _ (.tail _ (.head _))) rfl
  go_wp2_with fail
  have HUB := Lib.hid (K.out.lt (.tail _ (.head _)))
  refine (lsolve2_any _ _ k N P q _ (HG.out.1.below K.out.B) (HG.out.2.1.below K.out.B) hn hN (by omega)).mono ?_
  rintro e W6 ⟨hr, hb⟩
  replace K := Lib.hid (Keep.stays _ _ K.out hb)
  rcases hr with ⟨hs2, -⟩ | ⟨M2, odd, u, q1, DA, dl, dc, hs2, rfl, hLu, hN1⟩
  · rw [hs] at hs2; cases hs2
  rw [hs] at hs2
  injection hs2 with hs2
  injection hs2 with e1 e2
  subst e1 e2
  have HU := Lib.hid hLu
  have HD := Lib.hid hN1
  obtain ⟨ug, UL, rfl, -⟩ := hLu
  clear hb hs hN1 y0 y1
  obtain ⟨f1, c0, c1⟩ := K.out.nm (.tail _ (.head _))
  go_upto_region 4 with fail
  clear f1 c1
  have hT := Turn.put W6 (w.heap.size + 1) 0 1 (.bool q1) (.slice DA dl dc)
  replace HU := Lib.hid (HU.out.turn hT HUB.out (fun k hk z => by injection hk with hk; rw [← hk, c0]; intro e; cases e)).lv
  replace HD := Lib.hid (HD.out.put c0 (.bool q1) (.slice DA dl dc))
  replace K := Lib.hid (K.out.putn [_] q1 (.slice DA dl dc))
  clear c0 hT HUB
  simp only [List.cons_append, List.nil_append] at K
  (refine region_ord _ 13 (by kernel_rfl) (by kernel_rfl) K.out.drew ?_; clear K; intro W K hbw; replace K := Lib.hid K)
  replace HU := Lib.hid (HU.out.below hbw)
  replace HD := Lib.hid (HD.out.below hbw)
  clear hbw
  have y1 := Keep.acell (k := 1) K (.tail _ (.tail _ (.head _))) rfl; have y2 := Keep.acell (k := 2) K (.tail _ (.tail _ (.head _))) rfl; have y3 := Keep.acell (k := 3) K (.tail _ (.tail _ (.head _))) rfl
  obtain ⟨e10, e11⟩ := Keep.anm K (.tail _ (.head _))
  (refine Ord.take' 0 rfl (by kernel_rfl) (fun _ _ _ _ h => h) K.out (by rfl) ?_; apply Exists.intro; refine ⟨fun p => ?_, ?_⟩; (focus (go_simp; (try (with_reducible rfl)); done)); (try simp only [Act.put, List.setIfInBounds_toArray, List.set_cons_zero, List.set_cons_succ]))
  (refine Ord.take' 1 rfl (by kernel_rfl) (fun _ _ _ _ h => h) K.out (by rfl) ?_; apply Exists.intro; refine ⟨fun p => ?_, ?_⟩; (focus (go_simp; (try (with_reducible rfl)); done)); (try simp only [Act.put, List.setIfInBounds_toArray, List.set_cons_zero, List.set_cons_succ]))
  (refine Ord.take' 2 rfl (by kernel_rfl) (fun _ _ _ _ h => h) K.out (by rfl) ?_; apply Exists.intro; refine ⟨fun p => ?_, ?_⟩; (focus (go_simp; (try (with_reducible rfl)); done)); (try simp only [Act.put, List.setIfInBounds_toArray, List.set_cons_zero, List.set_cons_succ]))
  (refine Ord.take' 3 rfl (by kernel_rfl) (fun _ _ _ _ h => h) K.out (by rfl) ?_; apply Exists.intro; refine ⟨fun p => ?_, ?_⟩; (focus (go_simp; (try (with_reducible rfl)); done)); (try simp only [Act.put, List.setIfInBounds_toArray, List.set_cons_zero, List.set_cons_succ]))
  (refine Ord.take' 4 rfl (by kernel_rfl) (fun _ _ _ _ h => h) K.out (by rfl) ?_; apply Exists.intro; refine ⟨fun p => ?_, ?_⟩; (focus (go_simp; (try (with_reducible rfl)); done)); (try simp only [Act.put, List.setIfInBounds_toArray, List.set_cons_zero, List.set_cons_succ]))
  (refine Ord.take' 6 rfl (by kernel_rfl) (fun _ _ _ _ h => h) K.out (by rfl) ?_; apply Exists.intro; refine ⟨fun p => ?_, ?_⟩; (focus (go_simp; (try (with_reducible rfl)); done)); (try simp only [Act.put, List.setIfInBounds_toArray, List.set_cons_zero, List.set_cons_succ]))
  (refine Ord.take' 7 rfl (by kernel_rfl) (fun _ _ _ _ h => h) K.out (by rfl) ?_; apply Exists.intro; refine ⟨fun p => ?_, ?_⟩; (focus (go_simp; (try (with_reducible rfl)); done)); (try simp only [Act.put, List.setIfInBounds_toArray, List.set_cons_zero, List.set_cons_succ]))
  (refine Ord.take' 8 rfl (by kernel_rfl) (fun _ _ _ _ h => h) K.out (by rfl) ?_; apply Exists.intro; refine ⟨fun p => ?_, ?_⟩; (focus (go_simp; (try (with_reducible rfl)); done)); (try simp only [Act.put, List.setIfInBounds_toArray, List.set_cons_zero, List.set_cons_succ]))
  clear y1 y2 y3 e10 e11
  (refine Ord.call 5 (g := 23) (args := (#[.agg #[.bool cn, .slice CA cl cc], .agg #[.bool q1, .slice DA dl dc]])) rfl (by kernel_rfl) (by rfl) (by (go_simp; try (with_reducible rfl))) ?_)
  refine (mul_nz (HG.out.2.2.below K.out.B) HD.out (by omega) (by omega)).mono ?_
  rintro e W7 ⟨q2, A2, l2, c2, rfl, hN2, hb⟩
  (refine ⟨_, rfl, Keep.stays _ _ K.out hb, ?_⟩; replace K := Lib.hid (Keep.stays _ _ K.out hb); simp only [Act.put, List.setIfInBounds_toArray, List.set_cons_zero, List.set_cons_succ])
  replace HU := Lib.hid (HU.out.below hb)
  replace HD := Lib.hid (HD.out.below hb)
  clear hb
  (refine Ord.call 9 (g := 60) (args := (#[.slice QA k qc, .slice (some ⟨ug, 0, none⟩) k k])) rfl (by kernel_rfl) (by rfl) (by (go_simp; try (with_reducible rfl))) ?_)
  refine (dot_any _ _ k N (pbd N k) q _ _ (HG.out.2.1.below K.out.B) HU.out (by omega)).mono ?_
  rintro e W8 ⟨q3, A3, l3, c3, rfl, hN3, hb⟩
  (refine ⟨_, rfl, Keep.stays _ _ K.out hb, ?_⟩; replace K := Lib.hid (Keep.stays _ _ K.out hb); simp only [Act.put, List.setIfInBounds_toArray, List.set_cons_zero, List.set_cons_succ])
  replace HU := Lib.hid (HU.out.below hb)
  replace HD := Lib.hid (HD.out.below hb)
  replace hN2 := hN2.below hb
  clear hb
  (refine Ord.call 10 (g := 59) (args := (#[.agg #[.bool q2, .slice A2 l2 c2], .agg #[.bool q3, .slice A3 l3 c3]])) rfl (by kernel_rfl) (by rfl) (by (go_simp; try (with_reducible rfl))) ?_)
  refine (sub_nz hN2 hN3 (by omega) (by omega)).mono ?_
  rintro e W9 ⟨q4, A4, l4, c4, rfl, hN4, hb⟩
  (refine ⟨_, rfl, Keep.stays _ _ K.out hb, ?_⟩; replace K := Lib.hid (Keep.stays _ _ K.out hb); simp only [Act.put, List.setIfInBounds_toArray, List.set_cons_zero, List.set_cons_succ])
  replace HU := Lib.hid (HU.out.below hb)
  replace HD := Lib.hid (HD.out.below hb)
  have HN := Lib.hid hN4
  clear hb hN2 hN3 hN4
  (refine Ord.take' 11 rfl (by kernel_rfl) (fun _ _ _ _ h => h) K.out (by rfl) ?_; apply Exists.intro; refine ⟨fun p => ?_, ?_⟩; (focus (go_simp; (try (with_reducible rfl)); done)); (try simp only [Act.put, List.setIfInBounds_toArray, List.set_cons_zero, List.set_cons_succ]))
  (refine Ord.ways [12] (by kernel_rfl) ?_; intro i hi; simp only [List.mem_cons, List.not_mem_nil, or_false] at hi; rcases hi with (rfl))
  obtain ⟨f1, c0, c1⟩ := K.out.nm (.tail _ (.head _))
  have hT := Turn.put W9 (w.heap.size + 1) 0 1 (.bool q1) (.slice DA dl dc)
  have K2 := Lib.hid (K.out.putn [_] q1 (.slice DA dl dc))
  simp only [List.cons_append, List.nil_append] at K2
  refine Way.skip rfl (by rfl) (by (go_simp; try (with_reducible rfl))) ⟨K2.out, ?_⟩
  replace HD := Lib.hid (HD.out.put c0 (.bool q1) (.slice DA dl dc))
  replace HN := Lib.hid (HN.out.put c0 (.bool q1) (.slice DA dl dc))
  clear f1 c0 c1 hT K HU
  generalize World.setCell (World.setCell W9 _ _) _ _ = W10 at *
  have K := K2
  clear K2
  (refine Ord.done (by kernel_rfl) ?_; simp only [List.drop_succ_cons, List.drop_zero, Act.put, List.setIfInBounds_toArray, List.set_cons_zero, List.set_cons_succ])
  obtain ⟨f1, c0, c1⟩ := K.out.nm (.head _)
  go_wp2_with fail
  have K2 := Lib.hid (K.out.putn_0 q4 (.slice A4 l4 c4))
  refine ret_le Tryz.results21 rfl rfl (K2.out.nb (.tail _ (.head _))) (K2.out.nb (.head _)) ?_
  exact ⟨⟨_, _, _, _, _, _, _, _, _, rfl, HD.out.put c0 _ _, (HN.out.put c0 _ _).more (by omega)⟩, K2.out.B⟩
end Go.Proofs.YtmidifgnpjlgcaaGreat
