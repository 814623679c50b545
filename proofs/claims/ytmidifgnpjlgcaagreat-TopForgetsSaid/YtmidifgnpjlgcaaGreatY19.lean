/- The texts Vc, Vd, Ve of the walk of the law and of all that it calls, in one file. No condition. -/
import Derived.Test.YtmidifgnpjlgcaaGreatY18
/- The walk of Add of quadratic functions. -/
set_option linter.unusedVariables false
set_option linter.unusedSimpArgs false
namespace Go.Proofs.YtmidifgnpjlgcaaGreat
open Go.RowKit

/-- A list more. -/
theorem app1e {w : World} (t e ty : TypeId) (ht : Tryz.prog.underlying t = some (.slice e)) (hinf : (Tryz.prog.info? e).map (fun i => (i.zero, i.size, i.bytes)) = some (some (.slice none 0 0), 1, 24)) (base : Nat) (v : Value) (vs : List Value) (A : Option Addr) (n c : Nat) (hown : Swn w base e v vs)
    (hlen : vs.length ≤ 1000000) (hbase : base ≤ w.heap.size) :
    ∃ v' w', (Builtin.append_ #[t, t] ty #[v, .slice (some ⟨w.heap.size, 0, none⟩) 1 1]).run Tryz.prog (w.alloc (.cells #[.slice A n c] e)) = .ok v' w' ∧ Swn w' base e v' (vs ++ [.slice A n c]) ∧ Turn v.ownBlock w w' ∧ ∀ w0 l, Keep w0 l w → (∀ p ∈ l, p.1 < base) → w0.heap.size ≤ base → Keep w0 l w' := by
  obtain ⟨i0, hi, hx0⟩ := Option.map_eq_some_iff.1 hinf
  simp only [Prod.mk.injEq] at hx0
  obtain ⟨hz0, hz1, hz2⟩ := hx0
  have hown2 := hown.below (below_one w (.cells #[.slice A n c] e))
  obtain ⟨v', w', hr, hown', hgrow, -⟩ := run_append_own (P := Tryz.prog) (w.alloc (.cells #[.slice A n c] e)) base t ty e i0 (.slice none 0 0) 1 24 ht hi hz0 hz1 hz2 (by rfl) (by decide) v vs.length _ hown2.1 ⟨w.heap.size, 0, none⟩ 1 1 [.slice A n c] rfl (cell_one_new _ _ _) (fun u hu => by simp only [List.mem_singleton] at hu; rw [hu]; rfl) (by unfold maxLen; omega) (by omega) (by simp; omega)
  refine ⟨v', w', hr, ?_⟩
  have hT : Turn v.ownBlock w w' := by
    have hb := below_one w (.cells #[.slice A n c] e)
    refine ⟨Nat.le_trans hb.size hgrow.size, fun k hk hne => ?_⟩
    rw [hgrow.block k (Nat.lt_of_lt_of_le hk hb.size) (fun e => hne e.symm), hb.block k hk]
  have hsl : ∀ x ∈ vs ++ [Value.slice A n c], ∃ A n c, x = .slice A n c := by
    intro x hx
    rcases List.mem_append.1 hx with h1 | h1
    · exact hown.2.2 x h1
    · exact ⟨A, n, c, List.mem_singleton.1 h1⟩
  refine ⟨⟨?_, fun k hk z => ?_, hsl⟩, hT, fun w0 l K hl h0 => ?_⟩
  · rw [List.length_append]
    exact hown'
  · rcases hown'.2 with ⟨rfl, _⟩ | ⟨g, cap, cur, rfl, hb, hh, hn, _, hcur, htake⟩
    · simp [Value.ownBlock] at hk
    · have hgk : g = k := by simpa [Value.ownBlock] using hk
      subst hgk
      have hc : w'.cell? ⟨g, 0, none⟩ = (vs ++ [Value.slice A n c])[0]? := by
        have e2 : (cur.toList.take ((vs.length + 1) * 1))[0]? = (vs ++ [Value.slice A n c])[0]? := by rw [htake]
        rw [List.getElem?_take, if_pos (by omega), Array.getElem?_toList] at e2
        rw [cellOf hh, e2]
      rw [hc, List.getElem?_eq_getElem (by simp)]
      obtain ⟨B, m, d, hB⟩ := hsl _ (List.getElem_mem (show 0 < (vs ++ [Value.slice A n c]).length by simp))
      rw [hB]
      simp
  · have Ka := (K.alloc (.cells #[.slice A n c] e)).rest
    have hg : ∀ k, k < base → w'.heap[k]? = (w.alloc (.cells #[.slice A n c] e)).heap[k]? := fun k hk => hgrow.block k (by simp; omega) (fun e => by have := hown.base k e.symm; omega)
    refine ⟨fun p hp => ?_, Ka.own, Ka.one, ⟨hgrow.os.trans Ka.B.os, hgrow.tape.trans Ka.B.tape, hgrow.output.trans Ka.B.output, Nat.le_trans Ka.B.size hgrow.size, fun k hk => (hg k (by omega)).trans (Ka.B.block k hk)⟩⟩
    rw [hg p.1 (hl p hp)]
    exact Ka.box p hp
theorem Turn.row (w : World) (g : Nat) (cs : Array Value) : Turn (some g) w (w.setRow g cs) :=
  ⟨(below_setRow (Below.refl 0 w) (Nat.zero_le g) cs).size, fun k hk hne => setRow_other w g k cs (fun e => hne (by rw [e]))⟩
/-- A block of four cells that does not begin with a digit. -/
theorem Keep.tagq {w0 w : World} {l : List (Nat × Obj)} {g : Nat} {a : Value} {cs : List Value} {t : TypeId} (K : Keep w0 l w) (m : (g, Obj.cells (a :: cs).toArray t) ∈ l) (ha : ∀ z, a ≠ .int .u32 z) : Tagged w (some g) t ∧ ∀ k, some g = some k → ∀ z, w.cell? ⟨k, 0, none⟩ ≠ some (.int .u32 z) := by
  refine ⟨fun k hk => ?_, fun k hk z => ?_⟩
  · cases hk
    exact ⟨_, K.box _ m⟩
  · cases hk
    rw [K.cell m (k := 0) (v := a) (by simp)]
    intro e
    injection e with e
    exact ha z e
/-- A quadratic function of the call's own. -/
def Qo (w : World) (vp vq : Value) (cn : Bool) (cs : Value) (n N : Nat) (P : Nat → Nat → Int) (q : Nat → Int) (c : Int) : Prop := Mo27 w vp n N P ∧ Lr w vq n N q ∧ Nz w cn cs c N
theorem Qo.below {w w' : World} {vp vq cs : Value} {cn : Bool} {n N : Nat} {P : Nat → Nat → Int} {q : Nat → Int} {c : Int} (h : Qo w vp vq cn cs n N P q c) (hb : Below w.heap.size w w') : Qo w' vp vq cn cs n N P q c := ⟨h.1.below hb, h.2.1.below hb, h.2.2.below hb⟩
/-- What tells a quadratic function. -/
def QdR (n N : Nat) (P : Nat → Nat → Int) (q : Nat → Int) (c : Int) (e : Ending) (w' : World) : Prop := ∃ up uq un us, e = .returned (.agg #[up, uq, .bool un, us]) ∧ Qo w' up uq un us n N P q c
theorem Lr.lv {w : World} {x : Value} {m N : Nat} {f : Nat → Int} (h : Lr w x m N f) : Lv w x m N f := by
  obtain ⟨L, h1, rfl, h3⟩ := h
  exact h1.lv h3
theorem ret_qd {fn : Func} {p g : Nat} {tmps : Array Value} {w : World} {a b c d : Value} {R : Ending → World → Prop} (h : fn.results = #[.cell p 32]) (hp : tmps.getD p undef = .pointer (some ⟨g, 0, none⟩)) (hb : w.heap[g]? = some (.cells #[a, b, c, d] 32)) (hR : R (.returned (.agg #[a, b, c, d])) w) : bodyPost Tryz.prog fn R .ret { tmps := tmps, defers := [] } w :=
  bodyPost_ret (results_cell_row h tmps w g 32 _ _ _ hp hb Tryz.underlying32 rfl (by kernel_rfl)) rfl hR

variable {w0 w : World} {l l2 : List (Nat × Obj)}
set_option maxHeartbeats 8000000 in
set_option maxRecDepth 100000 in
theorem qadd_any (vp vq cs vp2 vq2 cs2 : Value) (cn cn2 : Bool) (n N M : Nat) (P P2 : Nat → Nat → Int) (q q2 : Nat → Int) (c c2 : Int) (w : World) (h1 : Qo w vp vq cn cs n N P q c) (h2 : Qo w vp2 vq2 cn2 cs2 n M P2 q2 c2) (h0 : 0 < n) (hn : n ≤ 11) (hN : N ≤ 300000) (hM : M ≤ 300000) :
    Calls Tryz.prog 50 #[.agg #[vp, vq, .bool cn, cs], .agg #[vp2, vq2, .bool cn2, cs2]] w fun e w' => QdR n (max N M + 1) (fun i j => P i j + P2 i j) (fun i => q i + q2 i) (c + c2) e w' ∧ Below w.heap.size w w' := by
  have H1 := Lib.hid h1; have H2 := Lib.hid h2
  obtain ⟨SA, sl, sc, rfl⟩ := h1.2.2.sl
  obtain ⟨SB, sl2, sc2, rfl⟩ := h2.2.2.sl
  obtain ⟨PA, pc, rfl, -, hrows⟩ := h1.1.mv
  obtain ⟨PB, pc2, rfl, -, hrows2⟩ := h2.1.mv
  obtain ⟨QA, qc, rfl, -⟩ := h1.2.1.lv
  obtain ⟨QB, qc2, rfl, -⟩ := h2.2.1.lv
  have HR := Lib.hid hrows; have HR2 := Lib.hid hrows2
  have K := Lib.hid (Keep.begin3 w (.cells #[.slice PA n pc, .slice QA n qc, .bool cn, .slice SA sl sc] 32) (.cells #[.slice PB n pc2, .slice QB n qc2, .bool cn2, .slice SB sl2 sc2] 32) (.cells #[.slice none 0 0, .slice none 0 0, .bool false, .slice none 0 0] 32))
  clear h1 h2 hrows hrows2
  go_enter Tryz.func50, Tryz.ntmps50
  go_upto_region 1 with fail
  have x1 := Keep.acell (k := 1) K (.tail _ (.tail _ (.head _))) rfl; have x2 := Keep.acell (k := 2) K (.tail _ (.tail _ (.head _))) rfl; have x3 := Keep.acell (k := 3) K (.tail _ (.tail _ (.head _))) rfl
  have y1 := Keep.acell (k := 1) K (.tail _ (.head _)) rfl; have y2 := Keep.acell (k := 2) K (.tail _ (.head _)) rfl; have y3 := Keep.acell (k := 3) K (.tail _ (.head _)) rfl
  refine region_float1 _ 13 ⟨12, 5, .cells #[.slice none 0 0, .slice none 0 0, .bool false, .slice none 0 0] 32⟩ [(1, 0), (0, 1), (1, 2), (0, 3), (1, 6), (0, 7), (1, 8), (0, 9), (2, 4), (2, 5), (2, 10), (1, 11)] (by kernel_rfl) (by kernel_rfl) ⟨_, rfl, rfl, rfl, fun a w => rfl, fun md e he => by simp at he⟩ (fun _ _ d _ _ => by cases d <;> exact Iff.rfl) Keep.stays K.out.drew ?_; clear K; intro W K hbw; replace K := Lib.hid K; have K0 := K
  (refine Ph.pure rfl (by rfl) ?_; apply Exists.intro; refine ⟨fun w => ?_, ?_⟩; (focus (go_simp; (try (with_reducible rfl)); done)); (try simp only [Act.put, List.setIfInBounds_toArray, List.set_cons_zero, List.set_cons_succ]))
  (refine Ph.read rfl (by rfl) ?_; apply Exists.intro; refine ⟨fun p => ?_, ?_⟩; (focus (go_simp; (try (with_reducible rfl)); done)); (try simp only [Act.put, List.setIfInBounds_toArray, List.set_cons_zero, List.set_cons_succ]))
  (refine Ph.pure rfl (by rfl) ?_; apply Exists.intro; refine ⟨fun w => ?_, ?_⟩; (focus (go_simp; (try (with_reducible rfl)); done)); (try simp only [Act.put, List.setIfInBounds_toArray, List.set_cons_zero, List.set_cons_succ]))
  (refine Ph.read rfl (by rfl) ?_; apply Exists.intro; refine ⟨fun p => ?_, ?_⟩; (focus (go_simp; (try (with_reducible rfl)); done)); (try simp only [Act.put, List.setIfInBounds_toArray, List.set_cons_zero, List.set_cons_succ]))
  (refine Ph.pure rfl (by rfl) ?_; apply Exists.intro; refine ⟨fun w => ?_, ?_⟩; (focus (go_simp; (try (with_reducible rfl)); done)); (try simp only [Act.put, List.setIfInBounds_toArray, List.set_cons_zero, List.set_cons_succ]))
  (refine Ph.read rfl (by rfl) ?_; apply Exists.intro; refine ⟨fun p => ?_, ?_⟩; (focus (go_simp; (try (with_reducible rfl)); done)); (try simp only [Act.put, List.setIfInBounds_toArray, List.set_cons_zero, List.set_cons_succ]))
  (refine Ph.pure rfl (by rfl) ?_; apply Exists.intro; refine ⟨fun w => ?_, ?_⟩; (focus (go_simp; (try (with_reducible rfl)); done)); (try simp only [Act.put, List.setIfInBounds_toArray, List.set_cons_zero, List.set_cons_succ]))
  (refine Ph.read rfl (by rfl) ?_; apply Exists.intro; refine ⟨fun p => ?_, ?_⟩; (focus (go_simp; (try (with_reducible rfl)); done)); (try simp only [Act.put, List.setIfInBounds_toArray, List.set_cons_zero, List.set_cons_succ]))
  clear x1 x2 x3 y1 y2 y3
  refine Ph.lay rfl (by rfl) ?_
  intro w2 hb
  replace K := Lib.hid (Keep.stays _ _ K.out hb)
  clear hb
  refine ⟨.slice (some ⟨w2.heap.size, 0, none⟩) 1 1, w2.alloc (.cells #[.slice QB n qc2] 27), ?_, Ext.alloc _ _, ?_⟩
  focus (go_simp; (try (with_reducible rfl)); done)
  have KB := Lib.hid (K.out.alloc (.cells #[.slice QB n qc2] 27))
  generalize w2.heap.size = bs at *
  generalize w2.alloc _ = w3 at *
  (try simp only [Act.put, List.setIfInBounds_toArray, List.set_cons_zero, List.set_cons_succ])
  replace K := Lib.hid KB.out.rest
  refine Ph.call (f := 82) (args := #[.slice QA n qc, .slice (some ⟨bs, 0, none⟩) 1 1]) rfl (by rfl) (by (intro w2; go_simp; try (with_reducible rfl))) ?_
  intro w4 hb
  replace K := Lib.hid (Keep.stays _ _ K.out hb)
  replace KB := Lib.hid (Keep.stays _ _ KB.out hb)
  clear hb
  refine (sums_any _ _ bs 1 n N M q q2 _ (H1.out.2.1.lv.below K.out.B) (H2.out.2.1.lv.below K.out.B) (KB.out.cell (.head _) rfl) (KB.out.lt (.head _)) h0 (by omega) hN hM).mono ?_
  rintro e w5 ⟨u, rfl, hLu, hx⟩
  refine ⟨_, rfl, hx, ?_⟩
  have HU := Lib.hid hLu
  replace K := Lib.hid (Keep.stays _ _ K.out hx)
  obtain ⟨UA, uc, rfl, -⟩ := hLu.lv
  clear hLu hx KB
  (try simp only [Act.put, List.setIfInBounds_toArray, List.set_cons_zero, List.set_cons_succ])
  refine Ph.call (f := 43) (args := #[.agg #[.bool cn, .slice SA sl sc], .agg #[.bool cn2, .slice SB sl2 sc2]]) rfl (by rfl) (by (intro w2; go_simp; try (with_reducible rfl))) ?_
  intro w6 hb
  replace K := Lib.hid (Keep.stays _ _ K.out hb)
  replace HU := Lib.hid (HU.out.below hb)
  clear hb
  refine (add_nz (H1.out.2.2.below K.out.B) (H2.out.2.2.below K.out.B) (by omega) (by omega)).mono ?_
  rintro e w7 ⟨q3, A3, l3, c3, rfl, hN3, hx⟩
  refine ⟨_, rfl, hx, ?_⟩
  have H3 := Lib.hid hN3
  replace K := Lib.hid (Keep.stays _ _ K.out hx)
  replace HU := Lib.hid (HU.out.below hx)
  clear hN3 hx
  (try simp only [Act.put, List.setIfInBounds_toArray, List.set_cons_zero, List.set_cons_succ])
  (refine Ph.pure rfl (by rfl) ?_; apply Exists.intro; refine ⟨fun w => ?_, ?_⟩; (focus (go_simp; (try (with_reducible rfl)); done)); (try simp only [Act.put, List.setIfInBounds_toArray, List.set_cons_zero, List.set_cons_succ]))
  (intro w2 hb ob hg hge; replace K := Lib.hid (K0.out.held (Keep.stays _ _ K.out hb) hg hge); clear hg hge K0; simp only [ptr, List.drop_succ_cons, List.drop_zero, Act.put, List.setIfInBounds_toArray, List.set_cons_zero, List.set_cons_succ])
  replace HU := Lib.hid (HU.out.below hb)
  replace H3 := Lib.hid (H3.out.below hb)
  clear hb
  refine wpList_store_row rfl 32 _ _ rfl ob _ rfl rfl 32 _ (K.out.gb (.head _)) (by kernel_rfl) rfl (by kernel_rfl) ?_
  simp only [Act.put]
  have K2 := Lib.hid (K.out.setRow [] #[.slice none 0 0, .slice UA n uc, .bool q3, .slice A3 l3 c3] rfl)
  have ht := K.out.tagq (g := ob) (a := .slice none 0 0) (.head _) (fun z e => by cases e)
  have hT := Turn.row w2 ob #[.slice none 0 0, .slice UA n uc, .bool q3, .slice A3 l3 c3]
  replace HU := Lib.hid (HU.out.turnE (by decide) hT ht.1 ht.2)
  replace H3 := Lib.hid (H3.out.turn hT ht.2)
  clear ht hT K
  have K := K2
  clear K2
  refine out_with (B := fun W => Lr W (.slice UA n uc) n (max N M + 1) (fun i => q i + q2 i) ∧ Nz W q3 (.slice A3 l3 c3) (c + c2) (max N M + 1)) K.out ⟨HU.out, H3.out⟩ ?_
  clear K HU H3
  intro W9 K hall
  replace K := Lib.hid K
  have HU := Lib.hid hall.1
  have H3 := Lib.hid hall.2
  clear hall
  have y0 := K.out.cell (k := 0) (.tail _ (.tail _ (.tail _ (.head _)))) rfl
  go_wp2_with fail
  clear y0
  obtain ⟨base, hbase⟩ : ∃ base, base = W9.heap.size := ⟨_, rfl⟩
  have HLT : Hid (∀ p ∈ ([(ob, Obj.cells #[(.slice none 0 0), .slice UA n uc, .bool q3, .slice A3 l3 c3] 32), (w.heap.size + 1 + 1, Obj.cells #[.slice none 0 0, .slice none 0 0, .bool false, .slice none 0 0] 32), (w.heap.size + 1, (Obj.cells #[.slice PB n pc2, .slice QB n qc2, .bool cn2, .slice SB sl2 sc2] 32)), (w.heap.size, Obj.cells #[.slice PA n pc, .slice QA n qc, .bool cn, .slice SA sl sc] 32)]), p.1 < base) := Lib.hid (fun p hp => by rw [hbase]; exact K.out.lt hp)
  have hw0 : Hid (w.heap.size ≤ base) := Lib.hid (by rw [hbase]; exact K.out.B.size)
  go_loopg [22] n (fun gk iv wr => ∃ (i : Nat) (OA : Option Addr) (oc : Nat) (vs : List Value), gk + i = n ∧ iv = .int .i64 (i : Int) ∧ vs.length = i ∧ Swn wr base 27 (.slice OA i oc) vs ∧ All vs (fun i x => Lr wr x n (max N M + 1) (fun j => P i j + P2 i j)) ∧ (Lr wr (.slice UA n uc) n (max N M + 1) (fun i => q i + q2 i) ∧ Nz wr q3 (.slice A3 l3 c3) (c + c2) (max N M + 1)) ∧ Keep w ([(ob, Obj.cells #[(.slice OA i oc), .slice UA n uc, .bool q3, .slice A3 l3 c3] 32), (w.heap.size + 1 + 1, Obj.cells #[.slice none 0 0, .slice none 0 0, .bool false, .slice none 0 0] 32), (w.heap.size + 1, (Obj.cells #[.slice PB n pc2, .slice QB n qc2, .bool cn2, .slice SB sl2 sc2] 32)), (w.heap.size, Obj.cells #[.slice PA n pc, .slice QA n qc, .bool cn, .slice SA sl sc] 32)]) wr ∧ base ≤ wr.heap.size)
  case atStart => exact ⟨0, none, 0, [], by omega, rfl, rfl, Swn.nil _ _ _, All.nil _, ⟨HU.out, H3.out⟩, K.out, by rw [hbase]; exact Nat.le_refl _⟩
  case round =>
    clear K HU H3 hbase
    obtain ⟨i, OA, oc, vs, hgi, rfl, hvl, hown, hall, hnum, k, hsz⟩ := hrel
    have K := Lib.hid k
    have HO := Lib.hid (And.intro hown (And.intro hall hnum))
    have HSZ := Lib.hid hsz
    clear k hown hall hnum hsz
    by_cases hi : i < n
    · obtain ⟨b, B, d, rfl, hlt, r0, hL⟩ := HR.out i hi
      obtain ⟨b2, B2, d2, rfl, hlt2, r2, hL2⟩ := HR2.out i hi
      have R0 := Keep.far K hlt r0
      have R2 := Keep.far K hlt2 r2
      have HL := Lib.hid hL; have HL2 := Lib.hid hL2
      clear r0 r2 hL hL2
      have x0 := Keep.acell (k := 0) K (.head _) rfl
      have x1 := Keep.acell (k := 0) K (.tail _ (.tail _ (.head _))) rfl
      have x2 := Keep.acell (k := 0) K (.tail _ (.tail _ (.tail _ (.head _)))) rfl
      go_upto_region 5 with fail
      (refine region_ord _ 16 (by kernel_rfl) (by kernel_rfl) K.out.drew ?_; clear K; intro W K hbw; replace K := Lib.hid K)
      replace HO := Lib.hid (And.intro (HO.out.1.below hbw) (And.intro (HO.out.2.1.mono fun j x _ hx => hx.below hbw) (And.intro (HO.out.2.2.1.below hbw) (HO.out.2.2.2.below hbw))))
      replace HSZ := Lib.hid (Nat.le_trans HSZ.out hbw.size)
      clear hbw
      (refine Ord.take' 0 rfl (by kernel_rfl) (fun _ _ _ _ h => h) K.out (by rfl) ?_; apply Exists.intro; refine ⟨fun p => ?_, ?_⟩; (focus (go_simp; (try (with_reducible rfl)); done)); (try simp only [Act.put, List.setIfInBounds_toArray, List.set_cons_zero, List.set_cons_succ]))
      (refine Ord.take' 1 rfl (by kernel_rfl) (fun _ _ _ _ h => h) K.out (by rfl) ?_; apply Exists.intro; refine ⟨fun p => ?_, ?_⟩; (focus (go_simp; (try (with_reducible rfl)); done)); (try simp only [Act.put, List.setIfInBounds_toArray, List.set_cons_zero, List.set_cons_succ]))
      (refine Ord.take' 2 rfl (by kernel_rfl) (fun _ _ _ _ h => h) K.out (by rfl) ?_; apply Exists.intro; refine ⟨fun p => ?_, ?_⟩; (focus (go_simp; (try (with_reducible rfl)); done)); (try simp only [Act.put, List.setIfInBounds_toArray, List.set_cons_zero, List.set_cons_succ]))
      (refine Ord.take' 3 rfl (by kernel_rfl) (fun _ _ _ _ h => h) K.out (by rfl) ?_; apply Exists.intro; refine ⟨fun p => ?_, ?_⟩; (focus (go_simp; (try (with_reducible rfl)); done)); (try simp only [Act.put, List.setIfInBounds_toArray, List.set_cons_zero, List.set_cons_succ]))
      (refine Ord.take' 4 rfl (by kernel_rfl) (fun _ _ _ _ h => h) K.out (by rfl) ?_; apply Exists.intro; refine ⟨fun p => ?_, ?_⟩; (focus (go_simp; (try (with_reducible rfl)); done)); (try simp only [Act.put, List.setIfInBounds_toArray, List.set_cons_zero, List.set_cons_succ]))
      (refine Ord.take' 5 rfl (by kernel_rfl) (fun _ _ _ _ h => h) K.out (by rfl) ?_; apply Exists.intro; refine ⟨fun p => ?_, ?_⟩; (focus (go_simp; (try (with_reducible rfl)); done)); (try simp only [Act.put, List.setIfInBounds_toArray, List.set_cons_zero, List.set_cons_succ]))
      (refine Ord.take' 6 rfl (by kernel_rfl) (fun _ _ _ _ h => h) K.out (by rfl) ?_; apply Exists.intro; refine ⟨fun p => ?_, ?_⟩; (focus (go_simp; (try (with_reducible rfl)); done)); (try simp only [Act.put, List.setIfInBounds_toArray, List.set_cons_zero, List.set_cons_succ]))
      (refine Ord.take' 7 rfl (by kernel_rfl) (fun _ _ _ _ h => h) K.out (by rfl) ?_; apply Exists.intro; refine ⟨fun p => ?_, ?_⟩; (focus (go_simp; (try (with_reducible rfl)); done)); (try simp only [Act.put, List.setIfInBounds_toArray, List.set_cons_zero, List.set_cons_succ]))
      (refine Ord.take' 8 rfl (by kernel_rfl) (fun _ _ _ _ h => h) K.out (by rfl) ?_; apply Exists.intro; refine ⟨fun p => ?_, ?_⟩; (focus (go_simp; (try (with_reducible rfl)); done)); (try simp only [Act.put, List.setIfInBounds_toArray, List.set_cons_zero, List.set_cons_succ]))
      (refine Ord.take' 9 rfl (by kernel_rfl) (fun _ _ _ _ h => h) K.out (by rfl) ?_; apply Exists.intro; refine ⟨fun p => ?_, ?_⟩; (focus (go_simp; (try (with_reducible rfl)); done)); (try simp only [Act.put, List.setIfInBounds_toArray, List.set_cons_zero, List.set_cons_succ]))
      (refine Ord.take' 10 rfl (by kernel_rfl) (fun _ _ _ _ h => h) K.out (by rfl) ?_; apply Exists.intro; refine ⟨fun p => ?_, ?_⟩; (focus (go_simp; (try (with_reducible rfl)); done)); (try simp only [Act.put, List.setIfInBounds_toArray, List.set_cons_zero, List.set_cons_succ]))
      (refine Ord.take' 11 rfl (by kernel_rfl) (fun _ _ _ _ h => h) K.out (by rfl) ?_; apply Exists.intro; refine ⟨fun p => ?_, ?_⟩; (focus (go_simp; (try (with_reducible rfl)); done)); (try simp only [Act.put, List.setIfInBounds_toArray, List.set_cons_zero, List.set_cons_succ]))
      clear x0 x1 x2 R0 R2
      have KB := Lib.hid (K.out.alloc (.cells #[.slice B2 n d2] 27))
      have hb := Ext.alloc W (.cells #[.slice B2 n d2] 27)
      refine Ord.lay 12 (v := .slice (some ⟨W.heap.size, 0, none⟩) 1 1) rfl (by kernel_rfl) (by rfl) (by (go_simp; try (with_reducible rfl))) KB.out.rest ?_
      replace HO := Lib.hid (And.intro (HO.out.1.below hb) (And.intro (HO.out.2.1.mono fun j x _ hx => hx.below hb) (And.intro (HO.out.2.2.1.below hb) (HO.out.2.2.2.below hb))))
      replace HSZ := Lib.hid (Nat.le_trans HSZ.out hb.size)
      clear hb
      generalize W.heap.size = bs at *
      generalize W.alloc _ = W10 at *
      simp only [Act.put, List.setIfInBounds_toArray, List.set_cons_zero, List.set_cons_succ]
      (refine Ord.call 13 (g := 82) (args := (#[.slice B n d, .slice (some ⟨bs, 0, none⟩) 1 1])) rfl (by kernel_rfl) (by rfl) (by (go_simp; try (with_reducible rfl))) ?_)
      refine (sums_any _ _ bs 1 n N M (P i) (P2 i) _ (HL.out.below KB.out.B) (HL2.out.below KB.out.B) (KB.out.cell (.head _) rfl) (KB.out.lt (.head _)) h0 (by omega) hN hM).mono ?_
      rintro e W11 ⟨x, rfl, hx, hb⟩
      replace K := Lib.hid KB.out.rest
      clear KB
      (refine ⟨_, rfl, Keep.stays _ _ K.out hb, ?_⟩; replace K := Lib.hid (Keep.stays _ _ K.out hb); simp only [Act.put, List.setIfInBounds_toArray, List.set_cons_zero, List.set_cons_succ])
      replace HO := Lib.hid (And.intro (HO.out.1.below hb) (And.intro (HO.out.2.1.mono fun j x _ hx => hx.below hb) (And.intro (HO.out.2.2.1.below hb) (HO.out.2.2.2.below hb))))
      replace HSZ := Lib.hid (Nat.le_trans HSZ.out hb.size)
      have HX := Lib.hid hx
      obtain ⟨XA, xc, rfl, -⟩ := hx.lv
      clear hb hx
      have KC := Lib.hid (K.out.alloc (.cells #[.slice XA n xc] 27))
      obtain ⟨v', W12, hrun, hsw, htn, hkp⟩ := app1e 26 27 26 Tryz.underlying26 info27 base (.slice OA i oc) vs XA n xc HO.out.1 (by omega) HSZ.out
      refine Ord.lay 14 (v := .slice (some ⟨W11.heap.size, 0, none⟩) 1 1) rfl (by kernel_rfl) (by rfl) (by (go_simp; try (with_reducible rfl))) KC.out.rest ?_
      simp only [Act.put, List.setIfInBounds_toArray, List.set_cons_zero, List.set_cons_succ]
      have hK12 := hkp w _ K.out (fun p hp => (by
        have := HLT.out
        simp only [List.mem_cons, List.not_mem_nil, or_false] at hp this ⊢
        rcases hp with rfl | rfl | rfl | rfl
        · exact (show ob < base from this (ob, _) (.inl rfl))
        · exact this _ (.inr (.inl rfl))
        · exact this _ (.inr (.inr (.inl rfl)))
        · exact this _ (.inr (.inr (.inr rfl))))) hw0.out
      refine Ord.lay 15 (v := v') rfl (by kernel_rfl) (by rfl) (exec_append (.tmp 26) (.tmp 39) 26 rfl hrun) hK12 ?_
      simp only [Act.put, List.setIfInBounds_toArray, List.set_cons_zero, List.set_cons_succ]
      have htg := HO.out.1.tag
      have hcell := HO.out.1.2.1
      have HO2 := Lib.hid (And.intro hsw (And.intro ((HO.out.2.1.mono fun j x _ hx => hx.turn htn htg hcell).snoc _ (by rw [hvl]; exact HX.out.turn htn htg hcell)) (And.intro (HO.out.2.2.1.turn htn htg hcell) (HO.out.2.2.2.turn htn hcell))))
      have HSZ2 := Lib.hid (Nat.le_trans HSZ.out htn.1)
      replace K := Lib.hid hK12
      clear hsw htn hkp hrun htg hcell HO HSZ KC hK12 HX
      (refine Ord.done (by kernel_rfl) ?_; simp only [List.drop_succ_cons, List.drop_zero, Act.put, List.setIfInBounds_toArray, List.set_cons_zero, List.set_cons_succ])
      obtain ⟨VA, vc, rfl, -⟩ := HO2.out.1.at
      have hvl2 : (vs ++ [Value.slice XA n xc]).length = i + 1 := by rw [List.length_append, hvl]; rfl
      rw [hvl2] at HO2 ⊢
      have y0 := K.out.cell (k := 0) (.head _) rfl
      have fy := K.out.warm (.head _) 0
      go_wp2_with fail
      clear y0 fy
      have ht := K.out.tagq (g := ob) (a := .slice OA i oc) (.head _) (fun z e => by cases e)
      have hT := Turn.set W12 ob 0 (.slice VA (i + 1) vc)
      replace HO2 := Lib.hid (And.intro (HO2.out.1.turn hT ht.1 (by decide)) (And.intro (HO2.out.2.1.mono fun j x _ hx => hx.turnE (by decide) hT ht.1 ht.2) (And.intro (HO2.out.2.2.1.turnE (by decide) hT ht.1 ht.2) (HO2.out.2.2.2.turn hT ht.2))))
      replace HSZ2 := Lib.hid (Nat.le_trans HSZ2.out hT.1)
      have K2 := Lib.hid (K.out.set_0 0 (.slice VA (i + 1) vc))
      simp only [List.setIfInBounds_toArray, List.set_cons_zero, List.set_cons_succ] at K2
      clear ht hT
      go_roundg (n - i - 1)
      case measure => omega
      case rel => exact ⟨i + 1, VA, vc, _, by omega, congrArg (Value.int .i64) (by omega), hvl2, HO2.out.1, HO2.out.2.1, HO2.out.2.2, K2.out, HSZ2.out⟩
    · have hie : i = n := by omega
      subst hie
      have hiz : ¬ (i : Int) < (i : Int) := by omega
      go_upto_region 7 with fail
      go_step
      refine wpList_load_row rfl 32 _ rfl ob rfl 32 _ (0, 0) _ (K.out.gb (.head _)) Tryz.underlying32 rfl (by kernel_rfl) ?_
      simp only [Act.put, List.setIfInBounds_toArray, List.set_cons_zero, List.set_cons_succ]
      refine wpList_store_row rfl 32 _ _ rfl (w.heap.size + 1 + 1) _ rfl rfl 32 _ (K.out.gb (.tail _ (.head _))) (by kernel_rfl) rfl (by kernel_rfl) ?_
      simp only [Act.put]
      have K2 := Lib.hid (K.out.setRow [_] #[.slice OA i oc, .slice UA i uc, .bool q3, .slice A3 l3 c3] rfl)
      have ht := K.out.tagq (g := w.heap.size + 1 + 1) (a := .slice none 0 0) (.tail _ (.head _)) (fun z e => by cases e)
      have hT := Turn.row wr (w.heap.size + 1 + 1) #[.slice OA i oc, .slice UA i uc, .bool q3, .slice A3 l3 c3]
      replace HO := Lib.hid (And.intro (HO.out.1.turn hT ht.1 (by decide)) (And.intro (HO.out.2.1.mono fun j x _ hx => hx.turnE (by decide) hT ht.1 ht.2) (And.intro (HO.out.2.2.1.turnE (by decide) hT ht.1 ht.2) (HO.out.2.2.2.turn hT ht.2))))
      clear ht hT K
      go_wp2_with fail
      refine ret_qd Tryz.results50 rfl (K2.out.gb (.tail _ (.head _))) ?_
      exact ⟨⟨_, _, _, _, rfl, ⟨vs, ⟨owns_mono HO.out.1.1 (Nat.zero_le _), HO.out.1.2⟩, hvl, HO.out.2.1⟩, HO.out.2.2.1, HO.out.2.2.2⟩, K2.out.B⟩
end Go.Proofs.YtmidifgnpjlgcaaGreat
/- A quadratic function that is being built: rows and numbers of the call's own. -/
set_option linter.unusedVariables false
set_option linter.unusedSimpArgs false
namespace Go.Proofs.YtmidifgnpjlgcaaGreat
open Go.RowKit

theorem owns_turnNe {w w' : World} {base : Nat} {e : TypeId} {sz : Nat} {v : Value} {n : Nat} {xs : List Value} {o : Option Nat} (h : w.ownsRow base e sz v n xs) (hT : Turn o w w') (hne : ∀ k, o = some k → v.ownBlock ≠ some k) : w'.ownsRow base e sz v n xs := by
  refine ⟨h.1, ?_⟩
  rcases h.2 with h0 | ⟨g, cap, cur, rfl, hb, hh, hrest⟩
  · exact .inl h0
  · refine .inr ⟨g, cap, cur, rfl, hb, ?_, hrest⟩
    rw [hT.2 g (Array.getElem?_eq_some_iff.1 hh).1 (fun eo => hne g eo rfl)]
    exact hh
theorem Lwn.tag {w : World} {base : Nat} {v : Value} {L : List Nm} (h : Lwn w base v L) : Tagged w v.ownBlock 30 := by
  intro k hk
  rcases h.1.2 with ⟨rfl, _⟩ | ⟨g, cap, cur, rfl, hb, hh, _⟩
  · simp [Value.ownBlock] at hk
  · have : g = k := by simpa [Value.ownBlock] using hk
    rw [← this]
    exact ⟨cur, hh⟩
theorem Lwn.turnNe {w w' : World} {base : Nat} {v : Value} {L : List Nm} {o : Option Nat} (h : Lwn w base v L) (hT : Turn o w w') (hne : ∀ k, o = some k → v.ownBlock ≠ some k) : Lwn w' base v L := by
  refine ⟨owns_turnNe h.1 hT hne, fun k hk z => ?_⟩
  have hlt := h.lt k hk
  have : w'.cell? ⟨k, 0, none⟩ = w.cell? ⟨k, 0, none⟩ := World.cell?_of_block (hT.2 k hlt (fun e => hne k e hk))
  rw [this]
  exact h.2 k hk z
theorem Els.turnO {w w' : World} {L : List Nm} {N : Nat} {f : Nat → Int} {o : Option Nat} (h : Els w L N f) (hT : Turn o w w') (hO : ∀ k, o = some k → ∀ z, w.cell? ⟨k, 0, none⟩ ≠ some (.int .u32 z)) : Els w' L N f := fun j hj => (h j hj).turn hT hO
theorem Lr.turnNe {w w' : World} {x : Value} {m N : Nat} {f : Nat → Int} {o : Option Nat} (h : Lr w x m N f) (hT : Turn o w w') (hne : ∀ k, o = some k → x.ownBlock ≠ some k) (hO : ∀ k, o = some k → ∀ z, w.cell? ⟨k, 0, none⟩ ≠ some (.int .u32 z)) : Lr w' x m N f := by
  obtain ⟨L, h1, h2, h3⟩ := h
  exact ⟨L, h1.turnNe hT hne, h2, h3.turnO hT hO⟩
theorem Lr.lt {w : World} {x : Value} {m N : Nat} {f : Nat → Int} (h : Lr w x m N f) (k : Nat) (hk : x.ownBlock = some k) : k < w.heap.size := by
  obtain ⟨L, h1, -⟩ := h
  exact h1.lt k hk
/-- One number more in a list of the call's own. -/
theorem app1n {w : World} (ty : TypeId) (base : Nat) (v : Value) (L : List Nm) (x : Nm) (hown : Lwn w base v L) (hlen : L.length ≤ 1000000) (hbase : base ≤ w.heap.size) :
    ∃ v' w', (Builtin.append_ #[27, 27] ty #[v, .slice (some ⟨w.heap.size, 0, none⟩) 1 1]).run Tryz.prog (w.alloc (.cells #[.bool x.n, .slice x.A x.l x.c] 30)) = .ok v' w' ∧ Lwn w' base v' (L ++ [x]) ∧ Turn v.ownBlock w w' ∧ (v'.ownBlock = v.ownBlock ∨ ∀ k, v'.ownBlock = some k → w.heap.size ≤ k) ∧ ∀ w0 l, Keep w0 l w → (∀ p ∈ l, p.1 < base) → w0.heap.size ≤ base → Keep w0 l w' := by
  obtain ⟨i0, hi, hx0⟩ := Option.map_eq_some_iff.1 info30
  simp only [Prod.mk.injEq] at hx0
  obtain ⟨hz0, hz1, hz2⟩ := hx0
  have hnew : (w.alloc (.cells #[.bool x.n, .slice x.A x.l x.c] 30)).heap[w.heap.size]? = some (.cells #[.bool x.n, .slice x.A x.l x.c] 30) := by
    show (w.heap.push _)[w.heap.size]? = _; exact Array.getElem?_push_size
  have hown2 := hown.below (below_one w (.cells #[.bool x.n, .slice x.A x.l x.c] 30))
  obtain ⟨v', w', hr, hown', hgrow, -, hat⟩ := run_append_own_at (P := Tryz.prog) (ty := ty) (w.alloc (.cells #[.bool x.n, .slice x.A x.l x.c] 30)) base 27 30 i0 (.agg #[.bool false, .slice none 0 0]) 2 32 Tryz.underlying27 hi hz0 hz1 hz2 (by rfl) (by decide) v L.length _ hown2.1 ⟨w.heap.size, 0, none⟩ 1 1 [.bool x.n, .slice x.A x.l x.c] rfl (fun j u hu => by rw [add0, cellOf hnew, List.getElem?_toArray]; exact hu) (fun u hu => by simp only [List.mem_cons, List.mem_singleton, List.not_mem_nil, or_false] at hu; rcases hu with rfl | rfl <;> rfl) (by unfold maxLen; omega) (by omega) (by simp; omega)
  refine ⟨v', w', hr, ?_⟩
  have e : flat (L ++ [x]) = flat L ++ [.bool x.n, .slice x.A x.l x.c] := flat_app _ _
  have hT : Turn v.ownBlock w w' := by
    have hb := below_one w (.cells #[.bool x.n, .slice x.A x.l x.c] 30)
    refine ⟨Nat.le_trans hb.size hgrow.size, fun k hk hne => ?_⟩
    rw [hgrow.block k (Nat.lt_of_lt_of_le hk hb.size) (fun e => hne e.symm), hb.block k hk]
  refine ⟨⟨?_, fun k hk z => ?_⟩, hT, ?_, fun w0 l K hl h0 => ?_⟩
  · rw [e, List.length_append]
    exact hown'
  · rcases hown'.2 with ⟨rfl, _⟩ | ⟨g, cap, cur, rfl, hb, hh, hn, _, hcur, htake⟩
    · simp [Value.ownBlock] at hk
    · have hgk : g = k := by simpa [Value.ownBlock] using hk
      subst hgk
      have htake2 : List.take ((L.length + 1) * 2) cur.toList = flat (L ++ [x]) := by rw [e]; exact htake
      have hc : w'.cell? ⟨g, 0, none⟩ = (flat L ++ [.bool x.n, .slice x.A x.l x.c])[0]? := by
        rw [cellOf hh, ← e, ← htake2, List.getElem?_take, if_pos (by omega), Array.getElem?_toList]
      rw [hc]
      cases L with
      | nil => simp [flat]
      | cons y L => simp [flat]
  · rcases hat with h | h
    · exact .inl h
    · refine .inr (fun k hk => ?_)
      rw [h] at hk
      injection hk with hk
      rw [← hk]
      simp
  · have Ka := (K.alloc (.cells #[.bool x.n, .slice x.A x.l x.c] 30)).rest
    have hg : ∀ k, k < base → w'.heap[k]? = (w.alloc (.cells #[.bool x.n, .slice x.A x.l x.c] 30)).heap[k]? := fun k hk => hgrow.block k (by simp; omega) (fun e => by have := hown.base k e.symm; omega)
    refine ⟨fun p hp => ?_, Ka.own, Ka.one, ⟨hgrow.os.trans Ka.B.os, hgrow.tape.trans Ka.B.tape, hgrow.output.trans Ka.B.output, Nat.le_trans Ka.B.size hgrow.size, fun k hk => (hg k (by omega)).trans (Ka.B.block k hk)⟩⟩
    rw [hg p.1 (hl p hp)]
    exact Ka.box p hp
/-- A quadratic function's rows and numbers, as far as they are built. -/
structure Bq (w : World) (base n N : Nat) (pv : Value) (vs : List Value) (F : Nat → Nat → Int) (qv : Value) (L : List Nm) (qf : Nat → Int) : Prop where
  rows : Swn w base 27 pv vs
  all : All vs (fun i x => Lr w x n N (F i))
  own : Lwn w base qv L
  els : Els w L N qf
  ne : ∀ x ∈ vs, ∀ k, qv.ownBlock = some k → x.ownBlock ≠ some k
section
variable {w w' : World} {base n N : Nat} {pv qv : Value} {vs : List Value} {F : Nat → Nat → Int} {L : List Nm} {qf : Nat → Int}
theorem Bq.nil (w : World) (base n N : Nat) (F : Nat → Nat → Int) (qf : Nat → Int) : Bq w base n N (.slice none 0 0) [] F (.slice none 0 0) [] qf := ⟨Swn.nil _ _ _, All.nil _, Lwn.nil _ _, Els.nil _ _ _, fun x hx => by cases hx⟩
theorem Bq.below (B : Bq w base n N pv vs F qv L qf) (hb : Below w.heap.size w w') : Bq w' base n N pv vs F qv L qf :=
  ⟨B.rows.below hb, B.all.mono fun j x _ hx => hx.below hb, B.own.below hb, B.els.below hb, B.ne⟩
theorem Bq.turn {g : Nat} {e : TypeId} (B : Bq w base n N pv vs F qv L qf) (hT : Turn (some g) w w') (ho : Tagged w (some g) e) (h27 : e ≠ 27) (h30 : e ≠ 30) (hc : ∀ k, some g = some k → ∀ z, w.cell? ⟨k, 0, none⟩ ≠ some (.int .u32 z)) : Bq w' base n N pv vs F qv L qf := by
  have hne : ∀ {base : Nat} {v : Value} {L : List Nm}, Lwn w base v L → ∀ k, some g = some k → v.ownBlock ≠ some k := by
    intro base v L h k hk e
    obtain ⟨cs, hcs⟩ := ho k hk
    obtain ⟨cs', hcs'⟩ := h.tag k e
    rw [hcs] at hcs'
    injection hcs' with hcs'
    injection hcs' with _ hcs'
    exact h30 hcs'
  refine ⟨B.rows.turn hT ho h27, B.all.mono fun j x _ hx => ?_, B.own.turnNe hT (hne B.own), B.els.turnO hT hc, B.ne⟩
  exact hx.turnE h30 hT ho hc
/-- One number more. -/
theorem Bq.appQ (B : Bq w base n N pv vs F qv L qf) (ty : TypeId) (x : Nm) (hx : Nz w x.n (.slice x.A x.l x.c) (qf L.length) N) (hlen : L.length ≤ 1000000) (hbase : base ≤ w.heap.size) :
    ∃ v' w', (Builtin.append_ #[27, 27] ty #[qv, .slice (some ⟨w.heap.size, 0, none⟩) 1 1]).run Tryz.prog (w.alloc (.cells #[.bool x.n, .slice x.A x.l x.c] 30)) = .ok v' w' ∧ Bq w' base n N pv vs F v' (L ++ [x]) qf ∧ w.heap.size ≤ w'.heap.size ∧ (∀ w0 l, Keep w0 l w → (∀ p ∈ l, p.1 < base) → w0.heap.size ≤ base → Keep w0 l w') ∧ ∀ {s : Bool} {t : Value} {z : Int} {M : Nat}, Nz w s t z M → Nz w' s t z M := by
  obtain ⟨v', w', hr, hown, hT, hat, hkp⟩ := app1n ty base qv L x B.own hlen hbase
  refine ⟨v', w', hr, ⟨B.rows.turn hT B.own.tag (by decide), fun j hj => ?_, hown, (B.els.turnO hT B.own.2).snoc _ (hx.turn hT B.own.2), fun y hy k hk => ?_⟩, hT.1, hkp, fun h => h.turn hT B.own.2⟩
  · exact (B.all j hj).turnNe hT (fun k hk => B.ne _ (List.getElem_mem hj) k hk) B.own.2
  · rcases hat with h | h
    · exact B.ne y hy k (h ▸ hk)
    · intro e
      obtain ⟨j, hj, rfl⟩ := List.mem_iff_getElem.1 hy
      have := (B.all j hj).lt k e
      have := h k hk
      omega
/-- One row more. -/
theorem Bq.appP (B : Bq w base n N pv vs F qv L qf) (ty : TypeId) {A : Option Addr} {m c : Nat} (hx : Lr w (.slice A m c) n N (F vs.length)) (hne : ∀ k, qv.ownBlock = some k → (Value.slice A m c).ownBlock ≠ some k) (hlen : vs.length ≤ 1000000) (hbase : base ≤ w.heap.size) :
    ∃ v' w', (Builtin.append_ #[26, 26] ty #[pv, .slice (some ⟨w.heap.size, 0, none⟩) 1 1]).run Tryz.prog (w.alloc (.cells #[.slice A m c] 27)) = .ok v' w' ∧ Bq w' base n N v' (vs ++ [.slice A m c]) F qv L qf ∧ w.heap.size ≤ w'.heap.size ∧ (∀ w0 l, Keep w0 l w → (∀ p ∈ l, p.1 < base) → w0.heap.size ≤ base → Keep w0 l w') ∧ ∀ {s : Bool} {t : Value} {z : Int} {M : Nat}, Nz w s t z M → Nz w' s t z M := by
  obtain ⟨v', w', hr, hsw, hT, hkp⟩ := app1e 26 27 ty Tryz.underlying26 info27 base pv vs A m c B.rows hlen hbase
  have htag := B.rows.tag
  have hcell := B.rows.2.1
  have hne2 : ∀ k, pv.ownBlock = some k → qv.ownBlock ≠ some k := by
    intro k hk e
    obtain ⟨cs, hcs⟩ := htag k hk
    obtain ⟨cs', hcs'⟩ := B.own.tag k e
    rw [hcs] at hcs'
    injection hcs' with hcs'
    injection hcs' with _ hcs'
    exact absurd hcs' (by decide)
  refine ⟨v', w', hr, ⟨hsw, (B.all.mono fun j x _ hx => hx.turn hT htag hcell).snoc _ (hx.turn hT htag hcell), B.own.turnNe hT hne2, B.els.turnO hT hcell, fun y hy k hk => ?_⟩, hT.1, hkp, fun h => h.turn hT hcell⟩
  rcases List.mem_append.1 hy with h | h
  · exact B.ne y h k hk
  · rw [List.mem_singleton.1 h]
    exact hne k hk
theorem Bq.done {s : Bool} {t : Value} {c : Int} (B : Bq w base n N pv vs F qv L qf) (hv : vs.length = n) (hL : L.length = n) (hz : Nz w s t c N) : Qo w pv qv s t n N F qf c :=
  ⟨⟨vs, ⟨owns_mono B.rows.1 (Nat.zero_le _), B.rows.2⟩, hv, B.all⟩, ⟨L, ⟨owns_mono B.own.1 (Nat.zero_le _), B.own.2⟩, hL, B.els⟩, hz⟩
end
end Go.Proofs.YtmidifgnpjlgcaaGreat
/- The walk of scaled. -/
set_option linter.unusedVariables false
set_option linter.unusedSimpArgs false
namespace Go.Proofs.YtmidifgnpjlgcaaGreat
open Go.RowKit

variable {w0 w : World} {l l2 : List (Nat × Obj)}
set_option maxHeartbeats 8000000 in
set_option maxRecDepth 100000 in
theorem scaled_any (vp vq cs zs : Value) (cn zn : Bool) (n N M : Nat) (P : Nat → Nat → Int) (q : Nat → Int) (c z : Int) (w : World) (h : Qg w vp vq cn cs n N P q c) (hz : Nz w zn zs z M) (hn : n ≤ 11) (hN : N ≤ 300000) (hM : M ≤ 300000) :
    Calls Tryz.prog 49 #[.agg #[vp, vq, .bool cn, cs], .agg #[.bool zn, zs]] w fun e w' => QdR n (N + M + 1) (fun i j => P i j * z) (fun i => q i * z) (c * z) e w' ∧ Below w.heap.size w w' := by
  have HC := Lib.hid h.2.2; have HZ := Lib.hid hz
  obtain ⟨SA, sl, sc, rfl⟩ := h.2.2.sl
  obtain ⟨ZA, zl, zc, rfl⟩ := hz.sl
  obtain ⟨PA, pc, rfl, -, hrows⟩ := h.1
  obtain ⟨QA, qc, rfl, -, hqs⟩ := h.2.1
  have HR := Lib.hid hrows; have HQ := Lib.hid hqs
  have K := Lib.hid (Keep.begin3 w (.cells #[.slice PA n pc, .slice QA n qc, .bool cn, .slice SA sl sc] 32) (Obj.num zn (.slice ZA zl zc)) (.cells #[.slice none 0 0, .slice none 0 0, .bool false, .slice none 0 0] 32))
  clear h hz hrows hqs
  go_enter Tryz.func49, Tryz.ntmps49
  go_upto_region 1 with fail
  have x2 := K.out.cell (k := 2) (.tail _ (.tail _ (.head _))) rfl; have x3 := K.out.cell (k := 3) (.tail _ (.tail _ (.head _))) rfl
  obtain ⟨f1, z0, z1⟩ := K.out.nm (.tail _ (.head _))
  go_wp2_with fail
  refine (mul_nz (HC.out.below K.out.B) (HZ.out.below K.out.B) (by omega) (by omega)).mono ?_
  rintro e w3 ⟨q3, A3, l3, c3, rfl, hN3, hb⟩
  have H3 := Lib.hid hN3
  replace K := Lib.hid (Keep.stays _ _ K.out hb)
  clear hb hN3 x2 x3 f1 z0 z1
  go_upto_region 2 with fail
  replace K := Lib.hid (K.out.alloc (.cells #[.slice none 0 0, .slice none 0 0, .bool q3, .slice A3 l3 c3] 32))
  replace H3 := Lib.hid (H3.out.below (Ext.alloc w3 (.cells #[.slice none 0 0, .slice none 0 0, .bool q3, .slice A3 l3 c3] 32)))
  generalize w3.heap.size = ob at *
  generalize w3.alloc _ = W9 at *
  have y0 := K.out.cell (k := 0) (.tail _ (.tail _ (.tail _ (.head _)))) rfl
  go_wp2_with fail
  clear y0
  obtain ⟨base, hbase⟩ : ∃ base, base = W9.heap.size := ⟨_, rfl⟩
  have HLT : Hid (ob < base ∧ w.heap.size + 1 + 1 < base ∧ w.heap.size + 1 < base ∧ w.heap.size < base) := Lib.hid (by rw [hbase]; exact ⟨K.out.lt (.head _), K.out.lt (.tail _ (.head _)), K.out.lt (.tail _ (.tail _ (.head _))), K.out.lt (.tail _ (.tail _ (.tail _ (.head _))))⟩)
  have hw0 : Hid (w.heap.size ≤ base) := Lib.hid (Nat.le_of_lt HLT.out.2.2.2)
  go_loopg [18] n (fun gk iv wr => ∃ (i : Nat) (OA : Option Addr) (oc : Nat) (TA : Option Addr) (tc : Nat) (vs : List Value) (L : List Nm), gk + i = n ∧ iv = .int .i64 (i : Int) ∧ (vs.length = i ∧ L.length = i) ∧ Bq wr base n (N + M + 1) (.slice OA i oc) vs (fun i j => P i j * z) (.slice TA i tc) L (fun i => q i * z) ∧ Nz wr q3 (.slice A3 l3 c3) (c * z) (N + M + 1) ∧ Keep w ([(ob, Obj.cells #[(.slice OA i oc), (.slice TA i tc), .bool q3, .slice A3 l3 c3] 32), (w.heap.size + 1 + 1, Obj.cells #[.slice none 0 0, .slice none 0 0, .bool false, .slice none 0 0] 32), (w.heap.size + 1, Obj.num zn (.slice ZA zl zc)), (w.heap.size, Obj.cells #[.slice PA n pc, .slice QA n qc, .bool cn, .slice SA sl sc] 32)]) wr ∧ base ≤ wr.heap.size)
  case atStart => exact ⟨0, none, 0, none, 0, [], [], by omega, rfl, ⟨rfl, rfl⟩, Bq.nil _ _ _ _ _ _, H3.out, K.out, by rw [hbase]; exact Nat.le_refl _⟩
  case round =>
    clear K H3 hbase
    obtain ⟨i, OA, oc, TA, tc, vs, L, hgi, rfl, ⟨hvl, hLl⟩, hB, hnum, k, hsz⟩ := hrel
    have K := Lib.hid k
    have HB := Lib.hid hB
    have HNU := Lib.hid hnum
    have HSZ := Lib.hid hsz
    clear k hB hnum hsz
    by_cases hi : i < n
    · obtain ⟨b, n1, B1, l1, d1, rfl, hlt1, x0, x1, hn1⟩ := HQ.out i hi
      have X0 := Keep.far K hlt1 x0
      have X1 := Keep.far K hlt1 x1
      obtain ⟨e10, e11⟩ := Keep.anm K (.tail _ (.tail _ (.head _)))
      have y1 := Keep.acell (k := 1) K (.head _) rfl
      have y2 := Keep.acell (k := 1) K (.tail _ (.tail _ (.tail _ (.head _)))) rfl
      have H1 := Lib.hid hn1
      clear x0 x1 hn1
      go_upto_region 5 with fail
      (refine region_ord _ 11 (by kernel_rfl) (by kernel_rfl) K.out.drew ?_; clear K; intro W K hbw; replace K := Lib.hid K)
      replace HB := Lib.hid (HB.out.below hbw)
      replace HNU := Lib.hid (HNU.out.below hbw)
      replace HSZ := Lib.hid (Nat.le_trans HSZ.out hbw.size)
      clear hbw
      (refine Ord.take' 0 rfl (by kernel_rfl) (fun _ _ _ _ h => h) K.out (by rfl) ?_; apply Exists.intro; refine ⟨fun p => ?_, ?_⟩; (focus (go_simp; (try (with_reducible rfl)); done)); (try simp only [Act.put, List.setIfInBounds_toArray, List.set_cons_zero, List.set_cons_succ]))
      (refine Ord.take' 1 rfl (by kernel_rfl) (fun _ _ _ _ h => h) K.out (by rfl) ?_; apply Exists.intro; refine ⟨fun p => ?_, ?_⟩; (focus (go_simp; (try (with_reducible rfl)); done)); (try simp only [Act.put, List.setIfInBounds_toArray, List.set_cons_zero, List.set_cons_succ]))
      (refine Ord.take' 2 rfl (by kernel_rfl) (fun _ _ _ _ h => h) K.out (by rfl) ?_; apply Exists.intro; refine ⟨fun p => ?_, ?_⟩; (focus (go_simp; (try (with_reducible rfl)); done)); (try simp only [Act.put, List.setIfInBounds_toArray, List.set_cons_zero, List.set_cons_succ]))
      (refine Ord.take' 3 rfl (by kernel_rfl) (fun _ _ _ _ h => h) K.out (by rfl) ?_; apply Exists.intro; refine ⟨fun p => ?_, ?_⟩; (focus (go_simp; (try (with_reducible rfl)); done)); (try simp only [Act.put, List.setIfInBounds_toArray, List.set_cons_zero, List.set_cons_succ]))
      (refine Ord.take' 4 rfl (by kernel_rfl) (fun _ _ _ _ h => h) K.out (by rfl) ?_; apply Exists.intro; refine ⟨fun p => ?_, ?_⟩; (focus (go_simp; (try (with_reducible rfl)); done)); (try simp only [Act.put, List.setIfInBounds_toArray, List.set_cons_zero, List.set_cons_succ]))
      (refine Ord.take' 5 rfl (by kernel_rfl) (fun _ _ _ _ h => h) K.out (by rfl) ?_; apply Exists.intro; refine ⟨fun p => ?_, ?_⟩; (focus (go_simp; (try (with_reducible rfl)); done)); (try simp only [Act.put, List.setIfInBounds_toArray, List.set_cons_zero, List.set_cons_succ]))
      (refine Ord.take' 6 rfl (by kernel_rfl) (fun _ _ _ _ h => h) K.out (by rfl) ?_; apply Exists.intro; refine ⟨fun p => ?_, ?_⟩; (focus (go_simp; (try (with_reducible rfl)); done)); (try simp only [Act.put, List.setIfInBounds_toArray, List.set_cons_zero, List.set_cons_succ]))
      (refine Ord.take' 7 rfl (by kernel_rfl) (fun _ _ _ _ h => h) K.out (by rfl) ?_; apply Exists.intro; refine ⟨fun p => ?_, ?_⟩; (focus (go_simp; (try (with_reducible rfl)); done)); (try simp only [Act.put, List.setIfInBounds_toArray, List.set_cons_zero, List.set_cons_succ]))
      clear X0 X1 e10 e11 y1 y2
      (refine Ord.call 8 (g := 23) (args := (#[.agg #[.bool n1, .slice B1 l1 d1], .agg #[.bool zn, .slice ZA zl zc]])) rfl (by kernel_rfl) (by rfl) (by (go_simp; try (with_reducible rfl))) ?_)
      refine (mul_nz (H1.out.below K.out.B) (HZ.out.below K.out.B) (by omega) (by omega)).mono ?_
      rintro e W11 ⟨q4, A4, l4, c4, rfl, hN4, hb⟩
      (refine ⟨_, rfl, Keep.stays _ _ K.out hb, ?_⟩; replace K := Lib.hid (Keep.stays _ _ K.out hb); simp only [Act.put, List.setIfInBounds_toArray, List.set_cons_zero, List.set_cons_succ])
      replace HB := Lib.hid (HB.out.below hb)
      replace HNU := Lib.hid (HNU.out.below hb)
      replace HSZ := Lib.hid (Nat.le_trans HSZ.out hb.size)
      clear hb
      have KC := Lib.hid (K.out.alloc (.cells #[.bool q4, .slice A4 l4 c4] 30))
      obtain ⟨v', W12, hrun, hB2, hs2, hkp, hnz2⟩ := HB.out.appQ 27 ⟨q4, A4, l4, c4⟩ (by rw [hLl]; exact hN4) (by omega) HSZ.out
      have hK12 := hkp w _ K.out (fun p hp => (by simp only [List.mem_cons, List.not_mem_nil, or_false] at hp; rcases hp with rfl | rfl | rfl | rfl; exact HLT.out.1; exact HLT.out.2.1; exact HLT.out.2.2.1; exact HLT.out.2.2.2)) hw0.out
      refine Ord.lay 9 (v := .slice (some ⟨W11.heap.size, 0, none⟩) 1 1) rfl (by kernel_rfl) (by rfl) (by (go_simp; try (with_reducible rfl))) KC.out.rest ?_
      simp only [Act.put, List.setIfInBounds_toArray, List.set_cons_zero, List.set_cons_succ]
      refine Ord.lay 10 (v := v') rfl (by kernel_rfl) (by rfl) (exec_append (.tmp 22) (.tmp 30) 27 rfl hrun) hK12 ?_
      simp only [Act.put, List.setIfInBounds_toArray, List.set_cons_zero, List.set_cons_succ]
      replace HB := Lib.hid hB2
      replace HNU := Lib.hid (hnz2 HNU.out)
      replace HSZ := Lib.hid (Nat.le_trans HSZ.out hs2)
      replace K := Lib.hid hK12
      clear hN4 KC hrun hB2 hs2 hkp hnz2 hK12
      (refine Ord.done (by kernel_rfl) ?_; simp only [List.drop_succ_cons, List.drop_zero, Act.put, List.setIfInBounds_toArray, List.set_cons_zero, List.set_cons_succ])
      obtain ⟨VA, vc, rfl⟩ := HB.out.own.sl
      have hLl2 : (L ++ [(⟨q4, A4, l4, c4⟩ : Nm)]).length = i + 1 := by rw [List.length_append, hLl]; rfl
      rw [hLl2] at HB ⊢
      have y0 := K.out.cell (k := 1) (.head _) rfl
      have fy := K.out.warm (.head _) 1
      go_upto_region 6 with fail
      clear y0 fy
      have ht := K.out.tagq (g := ob) (a := .slice OA i oc) (.head _) (fun z e => by cases e)
      have hT := Turn.set W12 ob 1 (.slice VA (i + 1) vc)
      replace HB := Lib.hid (HB.out.turn hT ht.1 (by decide) (by decide) ht.2)
      replace HNU := Lib.hid (HNU.out.turn hT ht.2)
      replace HSZ := Lib.hid (Nat.le_trans HSZ.out hT.1)
      replace K := Lib.hid (K.out.set_0 1 (.slice VA (i + 1) vc))
      simp only [List.setIfInBounds_toArray, List.set_cons_zero, List.set_cons_succ] at K
      clear ht hT
      refine out_with (B := fun W => Bq W base n (N + M + 1) (.slice OA i oc) vs (fun i j => P i j * z) (.slice VA (i + 1) vc) (L ++ [⟨q4, A4, l4, c4⟩]) (fun i => q i * z) ∧ Nz W q3 (.slice A3 l3 c3) (c * z) (N + M + 1) ∧ base ≤ W.heap.size) K.out ⟨HB.out, HNU.out, HSZ.out⟩ ?_
      clear K HB HNU HSZ
      intro W13 K hall
      replace K := Lib.hid K
      have HB := Lib.hid hall.1
      have HNU := Lib.hid hall.2.1
      have HSZ := Lib.hid hall.2.2
      clear hall
      obtain ⟨b2, B2, d2, rfl, hlt2, r0, hL⟩ := HR.out i hi
      obtain ⟨A7, c7, hv2, -, hrow⟩ := hL
      cases hv2
      have HRW := Lib.hid hrow
      have y0 := K.out.cell (k := 0) (.tail _ (.tail _ (.tail _ (.head _)))) rfl
      have r1 := (K.out.B.cell (p := ⟨b2, i, none⟩) hlt2).trans r0
      have KR := Lib.hid (Keep.start W13)
      have HQLT := Lib.hid HB.out.own.lt
      clear hrow r0
      go_wp2_with fail
      clear y0 r1
      go_loopg [7, 39] n (fun gk rv jv wr2 => ∃ (j : Nat) (RA : Option Addr) (rc : Nat) (LR : List Nm), gk + j = n ∧ jv = .int .i64 (j : Int) ∧ rv = .slice RA j rc ∧ LR.length = j ∧ Lwn wr2 W13.heap.size (.slice RA j rc) LR ∧ Els wr2 LR (N + M + 1) (fun j => P i j * z) ∧ Keep W13 [] wr2)
      case atStart => exact ⟨0, none, 0, [], by omega, rfl, rfl, rfl, Lwn.nil _ _, Els.nil _ _ _, KR.out⟩
      case round =>
        clear KR
        obtain ⟨j, RA, rc, LR, hgj, rfl, rfl, hlr, hown, hels, k⟩ := hrel
        have KR := Lib.hid k
        have HO := Lib.hid hown
        have HE := Lib.hid hels
        have K1 := Lib.hid (Keep.stays _ _ K.out KR.out.B)
        clear k hown hels
        by_cases hj : j < n
        · obtain ⟨b5, n5, B5, l5, d5, rfl, hlt5, x0, x1, hn5⟩ := HRW.out j hj
          have e0 := (K1.out.B.cell (p := ⟨b5, j * 2, none⟩) hlt5).trans x0
          have e1 := (K1.out.B.cell (p := ⟨b5, j * 2 + 1, none⟩) hlt5).trans x1
          have H5 := Lib.hid hn5
          clear x0 x1 hn5
          go_upto_region 10 with fail
          clear e0 e1
          have hbx := Ext.alloc wr (.cells #[.bool n5, .slice B5 l5 d5] 30)
          have KX := Lib.hid (KR.out.alloc (.cells #[.bool n5, .slice B5 l5 d5] 30))
          replace K1 := Lib.hid (Keep.stays _ _ K1.out hbx)
          replace HO := Lib.hid (HO.out.below hbx)
          replace HE := Lib.hid (HE.out.below hbx)
          clear hbx KR
          generalize wr.heap.size = xb at *
          generalize wr.alloc _ = W14 at *
          obtain ⟨f1, z0, z1⟩ := K1.out.nm (.tail _ (.tail _ (.head _)))
          have z2 := KX.out.cell (k := 0) (.head _) rfl; have z3 := KX.out.cell (k := 1) (.head _) rfl
          go_wp2_with fail
          refine (mul_nz (H5.out.below K1.out.B) (HZ.out.below K1.out.B) (by omega) (by omega)).mono ?_
          rintro e W15 ⟨q6, A6, l6, c6, rfl, hN6, hb⟩
          have KR := Lib.hid (Keep.stays _ _ KX.out.rest hb)
          replace HO := Lib.hid (HO.out.below hb)
          replace HE := Lib.hid (HE.out.below hb)
          clear hb f1 z0 z1 z2 z3 K1 KX
          obtain ⟨v', W16, hrun, hlw, hT, -, hkp⟩ := app1n 27 W13.heap.size (.slice RA j rc) LR ⟨q6, A6, l6, c6⟩ HO.out (by omega) KR.out.B.size
          have HRUN := Lib.hid hrun
          have hE2 := (HE.out.turnO hT HO.out.2).snoc ⟨q6, A6, l6, c6⟩ (by rw [hlr]; exact hN6.turn hT HO.out.2)
          have KR2 := Lib.hid (hkp W13 [] KR.out (fun p hp => by cases hp) (Nat.le_refl _))
          have HO2 := Lib.hid hlw
          have HE2 := Lib.hid hE2
          obtain ⟨VA9, vc9, rfl⟩ := hlw.sl
          have hlr2 : (LR ++ [(⟨q6, A6, l6, c6⟩ : Nm)]).length = j + 1 := by rw [List.length_append, hlr]; rfl
          rw [hlr2] at HO2 HRUN
          clear hrun hlw hT hkp hE2 hN6 HO HE KR
          go_wp2_with (at_builtin; refine wpList_exec rfl (exec_append (.tmp 43) (.tmp 47) 27 rfl HRUN.out) ?_)
          clear HRUN
          go_roundg (n - j - 1)
          case measure => omega
          case rel => exact ⟨j + 1, VA9, vc9, _, by omega, congrArg (Value.int .i64) (by omega), rfl, hlr2, HO2.out, HE2.out, KR2.out⟩
        · have hje : j = n := by omega
          subst hje
          have hjz : ¬ (j : Int) < (j : Int) := by omega
          have hbr := KR.out.B
          replace HB := Lib.hid (HB.out.below hbr)
          have HQL : Hid (∀ k, (Value.slice VA (i + 1) vc).ownBlock = some k → (Value.slice RA j rc).ownBlock ≠ some k) := Lib.hid (fun k hk e => by
            have h1 := HQLT.out k hk
            have h2 := HO.out.base k e
            omega)
          have HX : Hid (Lr wr (.slice RA j rc) j (N + M + 1) (fun j => P i j * z)) := Lib.hid ⟨LR, ⟨owns_mono HO.out.1 (Nat.zero_le _), HO.out.2⟩, hlr, HE.out⟩
          replace HNU := Lib.hid (HNU.out.below hbr)
          replace HSZ := Lib.hid (Nat.le_trans HSZ.out hbr.size)
          clear K HO HE HRW KR hbr HQLT
          obtain ⟨v', W17, hrun, hB2, hs2, hkp, hnz2⟩ := HB.out.appP 26 (by rw [hvl]; exact HX.out) HQL.out (by omega) HSZ.out
          have K := Lib.hid (hkp w _ K1.out (fun p hp => (by simp only [List.mem_cons, List.not_mem_nil, or_false] at hp; rcases hp with rfl | rfl | rfl | rfl; exact HLT.out.1; exact HLT.out.2.1; exact HLT.out.2.2.1; exact HLT.out.2.2.2)) hw0.out)
          have HRUN := Lib.hid hrun
          replace HB := Lib.hid hB2
          replace HNU := Lib.hid (hnz2 HNU.out)
          replace HSZ := Lib.hid (Nat.le_trans HSZ.out hs2)
          obtain ⟨VP, vpc, rfl, -⟩ := hB2.rows.at
          have hvl2 : (vs ++ [Value.slice RA j rc]).length = i + 1 := by rw [List.length_append, hvl]; rfl
          rw [hvl2] at HB HRUN
          clear hrun hB2 hs2 hkp hnz2 HX HQL
          have y0 := K1.out.cell (k := 0) (.head _) rfl
          have y1 := K.out.cell (k := 0) (.head _) rfl
          have fy := K.out.warm (.head _) 0
          go_wp2_with (at_builtin; refine wpList_exec rfl (exec_append (.tmp 51) (.tmp 53) 26 rfl HRUN.out) ?_)
          clear y0 y1 fy HRUN K1
          have ht := K.out.tagq (g := ob) (a := .slice OA i oc) (.head _) (fun z e => by cases e)
          have hT := Turn.set W17 ob 0 (.slice VP (i + 1) vpc)
          replace HB := Lib.hid (HB.out.turn hT ht.1 (by decide) (by decide) ht.2)
          replace HNU := Lib.hid (HNU.out.turn hT ht.2)
          replace HSZ := Lib.hid (Nat.le_trans HSZ.out hT.1)
          replace K := Lib.hid (K.out.set_0 0 (.slice VP (i + 1) vpc))
          simp only [List.setIfInBounds_toArray, List.set_cons_zero, List.set_cons_succ] at K
          clear ht hT
          go_roundg (j - i - 1)
          case measure => omega
          case rel => exact ⟨i + 1, VP, vpc, VA, vc, _, _, by omega, congrArg (Value.int .i64) (by omega), ⟨hvl2, hLl2⟩, HB.out, HNU.out, K.out, HSZ.out⟩
    · have hie : i = n := by omega
      subst hie
      have hiz : ¬ (i : Int) < (i : Int) := by omega
      go_upto_region 14 with fail
      go_step
      refine wpList_load_row rfl 32 _ rfl ob rfl 32 _ (0, 0) _ (K.out.gb (.head _)) Tryz.underlying32 rfl (by kernel_rfl) ?_
      simp only [Act.put, List.setIfInBounds_toArray, List.set_cons_zero, List.set_cons_succ]
      refine wpList_store_row rfl 32 _ _ rfl (w.heap.size + 1 + 1) _ rfl rfl 32 _ (K.out.gb (.tail _ (.head _))) (by kernel_rfl) rfl (by kernel_rfl) ?_
      simp only [Act.put]
      have K2 := Lib.hid (K.out.setRow [_] #[.slice OA i oc, .slice TA i tc, .bool q3, .slice A3 l3 c3] rfl)
      have ht := K.out.tagq (g := w.heap.size + 1 + 1) (a := .slice none 0 0) (.tail _ (.head _)) (fun z e => by cases e)
      have hT := Turn.row wr (w.heap.size + 1 + 1) #[.slice OA i oc, .slice TA i tc, .bool q3, .slice A3 l3 c3]
      replace HB := Lib.hid (HB.out.turn hT ht.1 (by decide) (by decide) ht.2)
      replace HNU := Lib.hid (HNU.out.turn hT ht.2)
      clear ht hT K
      go_wp2_with fail
      refine ret_qd Tryz.results49 rfl (K2.out.gb (.tail _ (.head _))) ?_
      exact ⟨⟨_, _, _, _, rfl, HB.out.done hvl hLl HNU.out⟩, K2.out.B⟩
end Go.Proofs.YtmidifgnpjlgcaaGreat
