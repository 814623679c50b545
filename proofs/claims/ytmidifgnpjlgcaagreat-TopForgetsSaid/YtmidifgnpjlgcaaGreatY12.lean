/- The texts Re, Rf of the walk of the law and of all that it calls, in one file. No condition. -/
import Derived.Test.YtmidifgnpjlgcaaGreatY11
import Derived.Deep.CutRange
/- The walk of swept. -/
set_option linter.unusedVariables false
set_option linter.unusedSimpArgs false
namespace Go.Proofs.YtmidifgnpjlgcaaGreat
open Go.RowKit

/-- The first row from p on whose k-th number is not 0. -/
def pivF (M : Nat → Nat → Int) (k : Nat) : Nat → Nat → Nat
  | 0, p => p
  | r + 1, p => if M p k = 0 then pivF M k r (p + 1) else p
/-- One step without fractions. -/
def swStep (k : Nat) (last : Int) (M : Nat → Nat → Int) (i j : Nat) : Int := if i = k then M k j else Int.fdiv (M k k * M i j - M i k * M k j) last
def swGo (n : Nat) : Nat → Nat → Int → Bool → (Nat → Nat → Int) → Option ((Nat → Nat → Int) × Bool)
  | 0, _, _, odd, M => some (M, odd)
  | r + 1, k, last, odd, M =>
    if pivF M k (n - k) k = n then none
    else if pivF M k (n - k) k = k then swGo n r (k + 1) (M k k) odd (swStep k last M)
    else swGo n r (k + 1) (swapN (pivF M k (n - k) k) k M k k) (!odd) (swStep k last (swapN (pivF M k (n - k) k) k M))
/-- What swept tells: the matrix, and whether rows changed places an odd number of times. -/
def sweepP (n : Nat) (M : Nat → Nat → Int) : Option ((Nat → Nat → Int) × Bool) := swGo n n 0 1 false M
/-- The bound of parts after so many steps. -/
def pbd (N : Nat) : Nat → Nat
  | 0 => N
  | k + 1 => 2 * pbd N k + 5
theorem pbd_ge (N : Nat) : ∀ k, N ≤ pbd N k
  | 0 => Nat.le_refl _
  | k + 1 => by have := pbd_ge N k; show N ≤ 2 * pbd N k + 5; omega
theorem pbd_mono (N : Nat) {k m : Nat} (h : k ≤ m) : pbd N k ≤ pbd N m := by
  induction m with
  | zero => rw [show k = 0 by omega]; exact Nat.le_refl _
  | succ m ih =>
    by_cases e : k = m + 1
    · rw [e]; exact Nat.le_refl _
    · have := ih (by omega)
      show _ ≤ 2 * pbd N m + 5
      omega
theorem pivF_ge (M : Nat → Nat → Int) (k : Nat) : ∀ r p, p ≤ pivF M k r p
  | 0, p => Nat.le_refl _
  | r + 1, p => by
    unfold pivF
    split
    · have := pivF_ge M k r (p + 1); omega
    · exact Nat.le_refl _
theorem pivF_le (M : Nat → Nat → Int) (k : Nat) : ∀ r p, pivF M k r p ≤ p + r
  | 0, p => Nat.le_refl _
  | r + 1, p => by
    unfold pivF
    split
    · have := pivF_le M k r (p + 1); omega
    · omega
theorem pivF_zero {M : Nat → Nat → Int} {k r p : Nat} (h : M p k = 0) : pivF M k (r + 1) p = pivF M k r (p + 1) := by rw [pivF, if_pos h]
theorem pivF_here {M : Nat → Nat → Int} {k r p : Nat} (h : M p k ≠ 0) : pivF M k (r + 1) p = p := by rw [pivF, if_neg h]

theorem swGo_none {n k : Nat} {last : Int} {odd : Bool} {M : Nat → Nat → Int} (hk : k < n) (h : pivF M k (n - k) k = n) : swGo n (n - k) k last odd M = none := by
  obtain ⟨r, hr⟩ : ∃ r, n - k = r + 1 := ⟨n - k - 1, by omega⟩
  rw [hr, swGo, if_pos h]
theorem swGo_same {n k : Nat} {last : Int} {odd : Bool} {M : Nat → Nat → Int} (hk : k < n) (h : pivF M k (n - k) k = k) : swGo n (n - k) k last odd M = swGo n (n - (k + 1)) (k + 1) (M k k) odd (swStep k last M) := by
  obtain ⟨r, hr⟩ : ∃ r, n - k = r + 1 := ⟨n - k - 1, by omega⟩
  rw [hr, swGo, if_neg (by omega), if_pos h, show n - (k + 1) = r by omega]
theorem swGo_swap {n k p : Nat} {last : Int} {odd : Bool} {M : Nat → Nat → Int} (hk : k < n) (h : pivF M k (n - k) k = p) (hp : p < n) (hpk : p ≠ k) : swGo n (n - k) k last odd M = swGo n (n - (k + 1)) (k + 1) (swapN p k M k k) (!odd) (swStep k last (swapN p k M)) := by
  obtain ⟨r, hr⟩ : ∃ r, n - k = r + 1 := ⟨n - k - 1, by omega⟩
  rw [hr, swGo, h, if_neg (by omega), if_neg hpk, show n - (k + 1) = r by omega]
theorem sgn_zero {z : Int} : sgn z = 0 ↔ z = 0 := by unfold sgn; split <;> (try split) <;> omega

/-- What is elsewhere is written. -/
theorem Keep.other {w0 w w' : World} {l : List (Nat × Obj)} {b : Nat} (K : Keep w0 l w) (hT : Turn (some b) w w') (h1 : w'.os = w.os) (h2 : w'.tape = w.tape) (h3 : w'.output = w.output) (hb : w0.heap.size ≤ b) (hn : ∀ p ∈ l, p.1 ≠ b) : Keep w0 l w' := by
  refine ⟨fun p hp => ?_, K.own, K.one, ⟨h1.trans K.B.os, h2.trans K.B.tape, h3.trans K.B.output, Nat.le_trans K.B.size hT.1, fun k hk => ?_⟩⟩
  · rw [hT.2 p.1 (K.lt hp) (fun e => hn p hp (by injection e with e; exact e.symm))]
    exact K.box p hp
  · rw [hT.2 k (Nat.lt_of_lt_of_le hk K.B.size) (fun e => by injection e with e; omega)]
    exact K.B.block k hk

theorem Wm.sw {w : World} {base bm n m N : Nat} {gs : List Nat} {f : Nat → Nat → Int} (h : Wm w base bm gs m N f) (hl : gs.length = n) (hnd : gs.Nodup) : Sw w base w.heap.size bm n m (fun r => gs.getD r 0) (fun _ _ => N) f := by
  obtain ⟨h1, h2, h3⟩ := h
  have hget : ∀ r (hr : r < n), gs.getD r 0 = gs[r]'(by omega) := fun r hr => by rw [List.getD_eq_getElem?_getD, List.getElem?_eq_getElem (by omega)]; rfl
  refine ⟨h1, (Array.getElem?_eq_some_iff.1 h2).1, Nat.le_refl _, ⟨_, h2, by simp [hl], fun r hr => ?_⟩, fun r s hr hs e => ?_, fun r hr => ?_, fun r hr => ?_⟩
  · rw [List.getElem?_toArray, List.getElem?_map, List.getElem?_eq_getElem (by omega), hget r hr]; rfl
  · rw [hget r hr, hget s hs] at e
    rcases Nat.lt_trichotomy r s with h | h | h
    · exact absurd e (List.pairwise_iff_getElem.1 hnd r s (by omega) (by omega) h)
    · exact h
    · exact absurd e.symm (List.pairwise_iff_getElem.1 hnd s r (by omega) (by omega) h)
  · obtain ⟨L, k1, k2, -⟩ := h3 r (by omega)
    rw [hget r hr]
    exact ⟨k1, (Array.getElem?_eq_some_iff.1 k2).1⟩
  · obtain ⟨L, k1, k2, k3, k4⟩ := h3 r (by omega)
    rw [hget r hr]
    exact ⟨L, k2, k3, fun c hc => k4 c hc⟩

theorem Rwb.n32 {w : World} {g m : Nat} {bd : Nat → Nat} {f : Nat → Int} (h : Rwb w g m bd f) (hm : 0 < m) : ∀ k, some g = some k → ∀ z, w.cell? ⟨k, 0, none⟩ ≠ some (.int .u32 z) := by
  obtain ⟨q, hq⟩ := h.bool0 hm
  intro k hk z
  injection hk with hk
  rw [← hk, hq]
  intro e; cases e
theorem Sw.mv {w : World} {lo hi bm n m N : Nat} {gs : Nat → Nat} {bd : Nat → Nat → Nat} {f : Nat → Nat → Int} (h : Sw w lo hi bm n m gs bd f) (hb : ∀ r c, r < n → c < m → bd r c ≤ N) : Mv w (.slice (some ⟨bm, 0, none⟩) n n) n m N f := by
  refine ⟨_, n, rfl, (fun h => by cases h), fun j hj => ?_⟩
  obtain ⟨h1, h2⟩ := h.cell hj
  refine ⟨bm, _, m, rfl, h1, h2, _, m, rfl, (fun h => by cases h), fun c hc => ?_⟩
  obtain ⟨q, A, l, k, k1, k2, k3, k4⟩ := (h.row j hj).at hc
  exact ⟨gs j, q, A, l, k, rfl, k1, k2, k3, k4.more (hb j c hj hc)⟩
theorem Turn.far {w : World} {b j g : Nat} {v : Value} (hlt : b < w.heap.size) (hne : b ≠ g) (h : w.cell? ⟨b, j, none⟩ = some v) (p : At (Turn (some g) w)) : p.w.cell? ⟨b, j, none⟩ = some v := by
  rw [cell_of_heap (p.h.2 b hlt (fun e => hne (by injection e with e; exact e.symm)))]
  exact h
theorem Ord.store {P : Program} {md : Region.Mode} {ops : Array Oper} {Q : Exit → Act → World → Prop} {S : World → Prop} {n f : Nat} {b : Array Bool} {a : Act} {w w' : World} (i : Nat) {o : Oper} (hi : ops.toList[i]? = some o) (hc : (decide (i < n) && decide (Region.ready md ops b = [i])) = true)
    (hw : Region.wanted o (yielded ops a.tmps) = true) (hrun : (execOp a.eval o).run P w = .ok .skip w') (hS : S w') (h : Ord P md ops Q S n f (b.setIfInBounds i true) (a.put o.dst undef) w') : Ord P md ops Q S n (f + 1) b a w := by
  refine Ord.step i hi hc hw ?_
  unfold Oper.wp
  rw [hrun]
  exact ⟨hS, h⟩
theorem turn_of {w w' : World} (h : Below w.heap.size w w') (o : Option Nat) : Turn o w w' := ⟨h.size, fun k hk _ => h.block k hk⟩
theorem Sw.n32 {w : World} {lo hi bm n m : Nat} {gs : Nat → Nat} {bd : Nat → Nat → Nat} {f : Nat → Nat → Int} (h : Sw w lo hi bm n m gs bd f) {r : Nat} (hr : r < n) : ∀ k, some bm = some k → ∀ z, w.cell? ⟨k, 0, none⟩ ≠ some (.int .u32 z) := by
  obtain ⟨cs, h1, h2, h3⟩ := h.top
  intro k hk z
  injection hk with hk
  rw [← hk, cellOf h1, h3 0 (by omega)]
  intro e; cases e
theorem Sw.warm {w : World} {lo hi bm n m : Nat} {gs : Nat → Nat} {bd : Nat → Nat → Nat} {f : Nat → Nat → Int} (h : Sw w lo hi bm n m gs bd f) (o : Nat) : w.frozen? ⟨bm, o, none⟩ = false := by
  obtain ⟨cs, h1, -⟩ := h.top
  simp [World.frozen?, h1]
theorem Rwb.warm {w : World} {g m : Nat} {bd : Nat → Nat} {f : Nat → Int} (h : Rwb w g m bd f) (o : Nat) : w.frozen? ⟨g, o, none⟩ = false := by
  obtain ⟨L, h1, -⟩ := h
  simp [World.frozen?, h1, Obj.lst]

variable {w0 w : World} {l l2 : List (Nat × Obj)}
set_option maxHeartbeats 8000000 in
set_option maxRecDepth 100000 in
theorem swept_any (v t : Value) (n N : Nat) (A : Nat → Nat → Int) (b : Nat → Int) (w : World) (h1 : Mv w v n n N A) (h2 : Lv w t n N b) (hn : n ≤ 11) (hN : 2 ≤ N) (hP : pbd N n ≤ 600000) :
    Calls Tryz.prog 86 #[v, t] w fun e w' => ((sweepP n (aug n A b) = none ∧ e = .returned (.tuple #[.slice none 0 0, .bool false, .bool false])) ∨ ∃ M odd bm, sweepP n (aug n A b) = some (M, odd) ∧ e = .returned (.tuple #[.slice (some ⟨bm, 0, none⟩) n n, .bool odd, .bool true]) ∧ Mv w' (.slice (some ⟨bm, 0, none⟩) n n) n (n + 1) (pbd N n) M) ∧ Below w.heap.size w w' := by
  have K := Lib.hid (Keep.begin2 w (.cells #[v] 26) (.cells #[t] 27))
  have H1 := Lib.hid h1; have H2 := Lib.hid h2
  obtain ⟨VA, vc, rfl, -⟩ := h1
  obtain ⟨TA, tc, rfl, -⟩ := h2
  go_enter Tryz.func86, Tryz.ntmps86
  go_upto_region 1 with fail
  (refine out_keep K.out ?_; clear K; intro W K; replace K := Lib.hid K)
  have x0 := K.out.cell (k := 0) (.tail _ (.head _)) rfl
  go_upto_region 2 with fail
  clear x0
  have hg2 := Lib.hid (show w.heap.size + 2 ≤ W.heap.size from K.out.lt (.head _))
  replace K := Lib.hid (K.out.alloc (.cells #[.int .i64 n] 3))
  generalize W.heap.size = g2 at *
  (refine out_keep K.out ?_; clear K; intro W K; replace K := Lib.hid K)
  have x0 := K.out.cell (k := 0) (.head _) rfl
  have HCn : Hid (Cap W g2 (.int .i64 n)) := Lib.hid ⟨K.out.lt (.head _), K.out.cell (.head _) rfl⟩
  have HCa : Hid (Cap W w.heap.size (.slice VA n vc)) := Lib.hid ⟨K.out.lt (.tail _ (.tail _ (.head _))), K.out.cell (.tail _ (.tail _ (.head _))) rfl⟩
  have HCb : Hid (Cap W (w.heap.size + 1) (.slice TA n tc)) := Lib.hid ⟨K.out.lt (.tail _ (.head _)), K.out.cell (.tail _ (.head _)) rfl⟩
  go_wp2_with fail
  refine (rlist109_any _ _ _ n (n + 1) N (aug n A b) W (fun k hk w' hb => row109_any g2 w.heap.size (w.heap.size + 1) _ _ k n N A b w' (HCn.out.below hb) (HCa.out.below hb) (HCb.out.below hb) ((H1.out.below K.out.B).below hb) ((H2.out.below K.out.B).below hb) hk hn) (by omega)).mono ?_
  rintro e w2 ⟨bm, gs, rfl, hgl, hW, hnd, hb⟩
  have HS := Lib.hid (hW.sw hgl hnd)
  have HSZ := Lib.hid (And.intro (K.out.lt (.head _)) hb.size)
  replace K := Lib.hid (Keep.stays _ _ K.out hb)
  clear hb hW hnd x0 HCn HCa HCb
  go_wp2_with fail
  refine (int_nz 1 _ (by omega) (by omega)).mono ?_
  rintro e w3 ⟨q, LA, ll, lc, rfl, hN1, hb⟩
  have HSZ2 := Lib.hid hb.size
  replace K := Lib.hid (Keep.stays _ _ K.out hb)
  replace HS := Lib.hid (HS.out.below hb)
  have HL := Lib.hid hN1
  clear hb hN1
  go_upto_region 4 with fail
  replace K := Lib.hid (K.out.alloc (Obj.num q (.slice LA ll lc)))
  replace HS := Lib.hid (HS.out.below (below_one w3 (Obj.num q (.slice LA ll lc))))
  replace HL := Lib.hid (HL.out.below (below_one w3 (Obj.num q (.slice LA ll lc))))
  generalize w3.heap.size = g8 at *
  generalize w2.heap.size = hz0 at *
  refine out_with (B := fun w2 => Sw w2 W.heap.size hz0 bm n (n + 1) (fun r => gs.getD r 0) (fun _ _ => N) (aug n A b) ∧ Nz w2 q (.slice LA ll lc) 1 2) K.out ⟨HS.out, HL.out⟩ ?_
  clear K HS HL w2
  intro W2 K HS
  replace K := Lib.hid K
  replace HS := Lib.hid HS
  have x0 := K.out.cell (k := 0) (.tail _ (.head _)) rfl
  go_wp2_with fail
  clear x0
  generalize (fun r => gs.getD r 0) = gf at *
  generalize W.heap.size = lo at *
  go_loopg [4, 5, 22] n (fun gk mv ov kv wr => ∃ (k : Nat) (odd : Bool) (gf : Nat → Nat) (M : Nat → Nat → Int) (q : Bool) (LA : Option Addr) (ll lc : Nat) (last : Int), gk + k = n ∧ mv = .slice (some ⟨bm, 0, none⟩) n n ∧ kv = .int .i64 (k : Int) ∧ ov = .bool odd ∧ swGo n gk k last odd M = sweepP n (aug n A b) ∧ Sw wr lo hz0 bm n (n + 1) gf (fun _ _ => pbd N k) M ∧ Nz wr q (.slice LA ll lc) last (pbd N k) ∧ Keep w [(g8, Obj.num q (.slice LA ll lc)), (g2, .cells #[.int .i64 n] 3), (w.heap.size + 1, .cells #[.slice TA n tc] 27), (w.heap.size, .cells #[.slice VA n vc] 26)] wr)
  case atStart => exact ⟨0, false, _, _, q, LA, ll, lc, 1, by omega, rfl, rfl, rfl, rfl, HS.out.1, HS.out.2.more hN, K.out⟩
  case round =>
    clear K HS
    obtain ⟨k, odd, gf, M, q, LA, ll, lc, last, hgk, rfl, rfl, rfl, hgo, hs, hnz, k'⟩ := hrel
    have K := Lib.hid k'; have HS := Lib.hid hs; have HL := Lib.hid hnz; have HGO := Lib.hid hgo
    clear k' hs hnz hgo
    obtain rfl : gk = n - k := by omega
    by_cases hk : k < n
    · have HA : Hid (2 * pbd N k + 5 ≤ 600000) := Nat.le_trans (pbd_mono N (show k + 1 ≤ n from hk)) hP
      go_wp2_with fail
      go_loopg [10] (n - k) (fun g2' pv wr2 => ∃ p : Nat, g2' + p = n ∧ pv = .int .i64 (p : Int) ∧ k ≤ p ∧ pivF M k (n - p) p = pivF M k (n - k) k ∧ Sw wr2 lo hz0 bm n (n + 1) gf (fun _ _ => pbd N k) M ∧ Nz wr2 q (.slice LA ll lc) last (pbd N k) ∧ Keep w [(g8, Obj.num q (.slice LA ll lc)), (g2, .cells #[.int .i64 n] 3), (w.heap.size + 1, .cells #[.slice TA n tc] 27), (w.heap.size, .cells #[.slice VA n vc] 26)] wr2)
      case atStart => exact ⟨k, by omega, rfl, Nat.le_refl _, rfl, HS.out, HL.out, K.out⟩
      case round =>
        clear K HS HL
        obtain ⟨p, hgp, rfl, hkp, hpiv, hs, hnz, k'⟩ := hrel
        have K := Lib.hid k'; have HS := Lib.hid hs; have HL := Lib.hid hnz; have HPV := Lib.hid hpiv
        clear k' hs hnz hpiv
        have cn := K.out.cell (k := 0) (.tail _ (.head _)) rfl
        by_cases hp : p < n
        · obtain ⟨hbl, cbm⟩ := HS.out.cell hp
          obtain ⟨nq, nA, nl, nc, hgl', c0, c1, hz⟩ := (HS.out.row p hp).at (show k < n + 1 by omega)
          have HZ := Lib.hid hz
          clear hz hbl hgl'
          go_wp2_with fail
          refine (sign_nz HZ.out).mono ?_
          rintro e w4 ⟨rfl, hb⟩
          replace K := Lib.hid (Keep.stays _ _ K.out hb)
          replace HS := Lib.hid (HS.out.below hb)
          replace HL := Lib.hid (HL.out.below hb)
          clear hb cn cbm c0 c1 HZ
          generalize hsg : sgn (M p k) = sg
          have HSG := Lib.hid hsg
          clear hsg
          by_cases hs0 : sg = 0
          · subst hs0
            have HM0 := Lib.hid (sgn_zero.1 HSG.out)
            go_wp2_with fail
            go_roundg (n - (p + 1))
            case measure => omega
            case rel => exact ⟨p + 1, by omega, congrArg (Value.int .i64) (by omega), by omega, by rw [← HPV.out, show n - p = n - (p + 1) + 1 by omega]; exact (pivF_zero HM0.out).symm, HS.out, HL.out, K.out⟩
          · have HPP : Hid (pivF M k (n - k) k = p) := Lib.hid (by
              rw [← HPV.out, show n - p = n - (p + 1) + 1 by omega]
              exact pivF_here (fun h => hs0 (by rw [← HSG.out, h]; rfl)))
            have cn := K.out.cell (k := 0) (.tail _ (.head _)) rfl
            go_upto_if 47 with fail
            go_cut [5] from 23 to 127 (fun ov wr3 => ∃ (odd' : Bool) (gf' : Nat → Nat) (M' : Nat → Nat → Int), ov = .bool odd' ∧ swGo n (n - (k + 1)) (k + 1) (M' k k) odd' (swStep k last M') = sweepP n (aug n A b) ∧ Sw wr3 lo hz0 bm n (n + 1) gf' (fun _ _ => pbd N k) M' ∧ Nz wr3 q (.slice LA ll lc) last (pbd N k) ∧ Keep w [(g8, Obj.num q (.slice LA ll lc)), (g2, .cells #[.int .i64 n] 3), (w.heap.size + 1, .cells #[.slice TA n tc] 27), (w.heap.size, .cells #[.slice VA n vc] 26)] wr3)
            case first =>
              clear cn
              by_cases hpk : p = k
              · go_wp2_with fail
                go_meet
                case rel =>
                  refine ⟨odd, gf, M, rfl, ?_, HS.out, HL.out, K.out⟩
                  rw [← HGO.out]
                  exact (swGo_same hk (by rw [HPP.out]; exact hpk)).symm
              · obtain ⟨hbl, cbp⟩ := HS.out.cell hp
                obtain ⟨-, cbk⟩ := HS.out.cell hk
                have fbm := fun o => HS.out.warm o
                have hpk2 : ((p : Nat) : Int) ≠ (k : Int) := by omega
                go_upto_region 13 with fail
                go_region
                have hT := Turn.put w4 bm p k (rsl (n + 1) (gf k)) (rsl (n + 1) (gf p))
                have HS2 := Lib.hid (((HS.out.swap hp hk hpk HS.out.nbm).below (below_drew _)).more (bd' := fun _ _ => pbd N k) (f' := swapN p k M) (fun r c _ _ => by unfold swapN; split <;> (try split) <;> exact Nat.le_refl _) (fun _ _ _ _ => rfl))
                have HL2 := Lib.hid ((HL.out.turn hT (HS.out.n32 hk)).below (below_drew _))
                have hbm1 := HS.out.b1
                have hbm2 := HS.out.b2
                have q1 := HSZ.out; have q2 := HSZ2.out; have q3 := hg2.out
                have K2 := Lib.hid (K.out.other hT rfl rfl rfl (by omega) (by intro x hx; simp only [List.mem_cons, List.not_mem_nil, or_false] at hx; rcases hx with rfl | rfl | rfl | rfl <;> dsimp only <;> omega)).drew
                clear hT hbm1 hbm2 q1 q2 q3 cbp cbk fbm hbl
                go_wp2_with fail
                go_meet
                case rel =>
                  refine ⟨!odd, swapN p k gf, swapN p k M, rfl, ?_, HS2.out, HL2.out, K2⟩
                  rw [← HGO.out]
                  exact (swGo_swap hk HPP.out hp hpk).symm
            case rest =>
              clear K HS HL HGO HPV HPP HSG cn hs0
              obtain ⟨odd', gf', M', rfl, hgo, hs, hnz, k'⟩ := hcut
              have K := Lib.hid k'; have HS := Lib.hid hs; have HL := Lib.hid hnz; have HGO := Lib.hid hgo
              clear k' hs hnz hgo
              obtain ⟨hbl, cbk⟩ := HS.out.cell hk
              obtain ⟨pq, pA, pl, pc, hgl', c0, c1, hz⟩ := (HS.out.row k hk).at (show k < n + 1 by omega)
              have HPN := Lib.hid hz
              clear hz hbl hgl'
              go_upto_region 15 with fail
              clear cbk c0 c1
              have hgp := Lib.hid HS.out.b3
              replace K := Lib.hid (K.out.alloc (Obj.num pq (.slice pA pl pc)))
              replace HS := Lib.hid (HS.out.below (below_one wc (Obj.num pq (.slice pA pl pc))))
              replace HL := Lib.hid (HL.out.below (below_one wc (Obj.num pq (.slice pA pl pc))))
              replace HPN := Lib.hid (HPN.out.below (below_one wc (Obj.num pq (.slice pA pl pc))))
              generalize wc.heap.size = gp at *
              refine out_with (B := fun W => (Sw W lo hz0 bm n (n + 1) gf' (fun _ _ => pbd N k) M' ∧ Nz W q (.slice LA ll lc) last (pbd N k)) ∧ Nz W pq (.slice pA pl pc) (M' k k) (pbd N k)) K.out ⟨⟨HS.out, HL.out⟩, HPN.out⟩ ?_
              clear K HS HL HPN wc
              intro W4 K HS
              replace K := Lib.hid K
              replace HS := Lib.hid HS
              have cn := K.out.cell (k := 0) (.tail _ (.tail _ (.head _))) rfl
              go_wp2_with fail
              clear cn
              have HPI : Hid (k < n) := hk
              go_loopg [72] n (fun g3 iv wr3 => ∃ i : Nat, g3 + i = n ∧ iv = .int .i64 (i : Int) ∧ Sw wr3 lo hz0 bm n (n + 1) gf' (fun r c => if r < i ∧ r ≠ k then 2 * pbd N k + 5 else pbd N k) (fun r c => if r < i then swStep k last M' r c else M' r c) ∧ (Nz wr3 q (.slice LA ll lc) last (pbd N k) ∧ Nz wr3 pq (.slice pA pl pc) (M' k k) (pbd N k)) ∧ Keep w [(gp, Obj.num pq (.slice pA pl pc)), (g8, Obj.num q (.slice LA ll lc)), (g2, .cells #[.int .i64 n] 3), (w.heap.size + 1, .cells #[.slice TA n tc] 27), (w.heap.size, .cells #[.slice VA n vc] 26)] wr3)
              case atStart => exact ⟨0, by omega, rfl, HS.out.1.1.more (fun r c _ _ => by simp) (fun r c _ _ => by simp), ⟨HS.out.1.2, HS.out.2⟩, K.out⟩
              case round =>
                clear K HS
                obtain ⟨i, hgi, rfl, hs, hnz, k'⟩ := hrel
                have K := Lib.hid k'; have HS := Lib.hid hs; have HL := Lib.hid hnz
                clear k' hs hnz
                by_cases hi : i < n
                · by_cases hik : i = k
                  · subst hik
                    go_wp2_with fail
                    go_roundg (n - (i + 1))
                    case measure => omega
                    case rel => exact ⟨i + 1, by omega, congrArg (Value.int .i64) (by omega), HS.out.more (fun r c _ _ => by split <;> split <;> omega) (fun r c _ _ => by
                      by_cases e : r = i
                      · subst e; rw [if_neg (by omega), if_pos (by omega)]; unfold swStep; rw [if_pos rfl]
                      · by_cases e2 : r < i
                        · rw [if_pos e2, if_pos (by omega)]
                        · rw [if_neg e2, if_neg (by omega)]), HL.out, K.out⟩
                  · obtain ⟨hbl, cbi⟩ := HS.out.cell hi
                    obtain ⟨fq, fA, fl, fc, hgl', c0, c1, hz⟩ := (HS.out.row i hi).at (show k < n + 1 by omega)
                    rw [if_neg (show ¬ (i < i ∧ i ≠ k) by omega), if_neg (show ¬ i < i by omega)] at hz
                    have HFN := Lib.hid hz
                    have hik2 : ((i : Nat) : Int) ≠ (k : Int) := by omega
                    clear hz hbl hgl'
                    go_upto_region 20 with fail
                    clear cbi c0 c1
                    have hgf := Lib.hid HS.out.b3
                    replace K := Lib.hid (K.out.alloc (Obj.num fq (.slice fA fl fc)))
                    replace HS := Lib.hid (HS.out.below (below_one wr (Obj.num fq (.slice fA fl fc))))
                    replace HL := Lib.hid (And.intro (HL.out.1.below (below_one wr (Obj.num fq (.slice fA fl fc)))) (HL.out.2.below (below_one wr (Obj.num fq (.slice fA fl fc)))))
                    replace HFN := Lib.hid (HFN.out.below (below_one wr (Obj.num fq (.slice fA fl fc))))
                    generalize wr.heap.size = gfb at *
                    refine out_with (B := fun W => (Sw W lo hz0 bm n (n + 1) gf' (fun r c => if r < i ∧ r ≠ k then 2 * pbd N k + 5 else pbd N k) (fun r c => if r < i then swStep k last M' r c else M' r c) ∧ (Nz W q (.slice LA ll lc) last (pbd N k) ∧ Nz W pq (.slice pA pl pc) (M' k k) (pbd N k))) ∧ Nz W fq (.slice fA fl fc) (M' i k) (pbd N k)) K.out ⟨⟨HS.out, HL.out⟩, HFN.out⟩ ?_
                    clear K HS HL HFN wr
                    intro W5 K HS
                    replace K := Lib.hid K
                    replace HS := Lib.hid HS
                    obtain ⟨hbl, cbi⟩ := HS.out.1.1.cell hi
                    clear hbl
                    go_wp2_with fail
                    clear cbi
                    have hbe : ((i : Int) == (k : Int)) = false := by simpa using hik2
                    rw [hbe]
                    clear hbe
                    go_loopg [90] (n + 1) (fun g4 jv wr4 => ∃ j : Nat, g4 + j = n + 1 ∧ jv = .int .i64 (j : Int) ∧ Sw wr4 lo hz0 bm n (n + 1) gf' (fun r c => if (r < i ∧ r ≠ k) ∨ (r = i ∧ c < j) then 2 * pbd N k + 5 else pbd N k) (fun r c => if r < i ∨ (r = i ∧ c < j) then swStep k last M' r c else M' r c) ∧ ((Nz wr4 q (.slice LA ll lc) last (pbd N k) ∧ Nz wr4 pq (.slice pA pl pc) (M' k k) (pbd N k)) ∧ Nz wr4 fq (.slice fA fl fc) (M' i k) (pbd N k)) ∧ Keep w [(gfb, Obj.num fq (.slice fA fl fc)), (gp, Obj.num pq (.slice pA pl pc)), (g8, Obj.num q (.slice LA ll lc)), (g2, .cells #[.int .i64 n] 3), (w.heap.size + 1, .cells #[.slice TA n tc] 27), (w.heap.size, .cells #[.slice VA n vc] 26)] wr4)
                    case atStart => exact ⟨0, by omega, rfl, HS.out.1.1.more (fun r c _ _ => by split <;> split <;> omega) (fun r c _ _ => by
                      by_cases e : r < i
                      · rw [if_pos e, if_pos (by omega)]
                      · rw [if_neg e, if_neg (by omega)]), ⟨HS.out.1.2, HS.out.2⟩, K.out⟩
                    case round =>
                      clear K HS
                      obtain ⟨j, hgj, rfl, hs, hnz, k'⟩ := hrel
                      have K0 := Lib.hid k'; have HS := Lib.hid hs; have HL := Lib.hid hnz
                      clear k' hs hnz
                      by_cases hj : j < n + 1
                      · obtain ⟨hbl, cbi⟩ := HS.out.cell hi
                        obtain ⟨-, cbk⟩ := HS.out.cell hk
                        obtain ⟨iq, iA, il, ic, hgi', i0, i1, hzi⟩ := (HS.out.row i hi).at hj
                        obtain ⟨kq, kA, kl, kc, hgk', k0, k1, hzk⟩ := (HS.out.row k hk).at hj
                        rw [if_neg (show ¬ ((i < i ∧ i ≠ k) ∨ (i = i ∧ j < j)) by omega), if_neg (show ¬ (i < i ∨ (i = i ∧ j < j)) by omega)] at hzi
                        rw [if_neg (show ¬ ((k < i ∧ k ≠ k) ∨ (k = i ∧ j < j)) by omega)] at hzk
                        have hvk : (if k < i ∨ (k = i ∧ j < j) then swStep k last M' k j else M' k j) = M' k j := by
                          split
                          · unfold swStep; rw [if_pos rfl]
                          · rfl
                        rw [hvk] at hzk
                        have HI := Lib.hid hzi; have HKN := Lib.hid hzk
                        have hb8 := K0.out.lt (.tail _ (.tail _ (.head _))); have hbp := K0.out.lt (.tail _ (.head _)); have hbf := K0.out.lt (.head _)
                        have l0 := (K0.out.nm (.tail _ (.tail _ (.head _)))).2.1; have l1 := (K0.out.nm (.tail _ (.tail _ (.head _)))).2.2
                        have p0 := (K0.out.nm (.tail _ (.head _))).2.1; have p1 := (K0.out.nm (.tail _ (.head _))).2.2
                        have f0 := (K0.out.nm (.head _)).2.1; have f1 := (K0.out.nm (.head _)).2.2
                        have hat := HS.out.at1 i hi
                        have hnb := HS.out.nbm i hi
                        have hnk : gf' k ≠ gf' i := fun e => hik (HS.out.inj _ _ hi hk e.symm)
                        have q1 := HSZ.out; have q2 := HSZ2.out; have q3 := hgp.out; have q4 := hgf.out
                        have hn8 : g8 ≠ gf' i := by omega
                        have hnp : gp ≠ gf' i := by omega
                        have hnf : gfb ≠ gf' i := by omega
                        have hA := HA.out
                        clear hzi hzk hvk q1 q2 q3 q4
                        go_upto_region 23 with fail
                        refine region_ord (Turn (some (gf' i)) wr) 32 (by kernel_rfl) (by kernel_rfl) ⟨Nat.le_refl _, fun _ _ _ => rfl⟩ ?_
                        intro W6 hS6 hbw
                        have K := Lib.hid hS6
                        have KB := Lib.hid hbw
                        clear hS6 hbw
                        have X1 := Turn.far (g := gf' i) hbl (Ne.symm hnb) cbi
                        have X2 := Turn.far (g := gf' i) hbl (Ne.symm hnb) cbk
                        have J0 := Turn.far (g := gf' i) hgk' hnk k0
                        have J1 := Turn.far (g := gf' i) hgk' hnk k1
                        have L0 := Turn.far (g := gf' i) hb8 hn8 l0
                        have L1 := Turn.far (g := gf' i) hb8 hn8 l1
                        have P0 := Turn.far (g := gf' i) hbp hnp p0
                        have P1 := Turn.far (g := gf' i) hbp hnp p1
                        have F0 := Turn.far (g := gf' i) hbf hnf f0
                        have F1 := Turn.far (g := gf' i) hbf hnf f1
                        have I0 : W6.cell? ⟨gf' i, j * 2, none⟩ = some (.bool iq) := by rw [KB.out.cell (p := ⟨gf' i, j * 2, none⟩) hgi']; exact i0
                        have I1 : W6.cell? ⟨gf' i, j * 2 + 1, none⟩ = some (.slice iA il ic) := by rw [KB.out.cell (p := ⟨gf' i, j * 2 + 1, none⟩) hgi']; exact i1
                        clear cbi cbk i0 i1 k0 k1 l0 l1 p0 p1 f0 f1
                        (refine Ord.take' 0 rfl (by kernel_rfl) (fun _ _ _ _ h => h) K.out (by rfl) ?_; apply Exists.intro; refine ⟨fun p => ?_, ?_⟩; (focus (go_simp; (try (with_reducible rfl)); done)); (try simp only [Act.put, List.setIfInBounds_toArray, List.set_cons_zero, List.set_cons_succ]))
                        (refine Ord.take' 1 rfl (by kernel_rfl) (fun _ _ _ _ h => h) K.out (by rfl) ?_; apply Exists.intro; refine ⟨fun p => ?_, ?_⟩; (focus (go_simp; (try (with_reducible rfl)); done)); (try simp only [Act.put, List.setIfInBounds_toArray, List.set_cons_zero, List.set_cons_succ]))
                        (refine Ord.take' 2 rfl (by kernel_rfl) (fun _ _ _ _ h => h) K.out (by rfl) ?_; apply Exists.intro; refine ⟨fun p => ?_, ?_⟩; (focus (go_simp; (try (with_reducible rfl)); done)); (try simp only [Act.put, List.setIfInBounds_toArray, List.set_cons_zero, List.set_cons_succ]))
                        (refine Ord.take' 3 rfl (by kernel_rfl) (fun _ _ _ _ h => h) K.out (by rfl) ?_; apply Exists.intro; refine ⟨fun p => ?_, ?_⟩; (focus (go_simp; (try (with_reducible rfl)); done)); (try simp only [Act.put, List.setIfInBounds_toArray, List.set_cons_zero, List.set_cons_succ]))
                        (refine Ord.take' 4 rfl (by kernel_rfl) (fun _ _ _ _ h => h) K.out (by rfl) ?_; apply Exists.intro; refine ⟨fun p => ?_, ?_⟩; (focus (go_simp; (try (with_reducible rfl)); done)); (try simp only [Act.put, List.setIfInBounds_toArray, List.set_cons_zero, List.set_cons_succ]))
                        (refine Ord.take' 5 rfl (by kernel_rfl) (fun _ _ _ _ h => h) K.out (by rfl) ?_; apply Exists.intro; refine ⟨fun p => ?_, ?_⟩; (focus (go_simp; (try (with_reducible rfl)); done)); (try simp only [Act.put, List.setIfInBounds_toArray, List.set_cons_zero, List.set_cons_succ]))
                        (refine Ord.take' 6 rfl (by kernel_rfl) (fun _ _ _ _ h => h) K.out (by rfl) ?_; apply Exists.intro; refine ⟨fun p => ?_, ?_⟩; (focus (go_simp; (try (with_reducible rfl)); done)); (try simp only [Act.put, List.setIfInBounds_toArray, List.set_cons_zero, List.set_cons_succ]))
                        (refine Ord.take' 7 rfl (by kernel_rfl) (fun _ _ _ _ h => h) K.out (by rfl) ?_; apply Exists.intro; refine ⟨fun p => ?_, ?_⟩; (focus (go_simp; (try (with_reducible rfl)); done)); (try simp only [Act.put, List.setIfInBounds_toArray, List.set_cons_zero, List.set_cons_succ]))
                        (refine Ord.take' 8 rfl (by kernel_rfl) (fun _ _ _ _ h => h) K.out (by rfl) ?_; apply Exists.intro; refine ⟨fun p => ?_, ?_⟩; (focus (go_simp; (try (with_reducible rfl)); done)); (try simp only [Act.put, List.setIfInBounds_toArray, List.set_cons_zero, List.set_cons_succ]))
                        (refine Ord.take' 9 rfl (by kernel_rfl) (fun _ _ _ _ h => h) K.out (by rfl) ?_; apply Exists.intro; refine ⟨fun p => ?_, ?_⟩; (focus (go_simp; (try (with_reducible rfl)); done)); (try simp only [Act.put, List.setIfInBounds_toArray, List.set_cons_zero, List.set_cons_succ]))
                        (refine Ord.take' 10 rfl (by kernel_rfl) (fun _ _ _ _ h => h) K.out (by rfl) ?_; apply Exists.intro; refine ⟨fun p => ?_, ?_⟩; (focus (go_simp; (try (with_reducible rfl)); done)); (try simp only [Act.put, List.setIfInBounds_toArray, List.set_cons_zero, List.set_cons_succ]))
                        (refine Ord.take' 11 rfl (by kernel_rfl) (fun _ _ _ _ h => h) K.out (by rfl) ?_; apply Exists.intro; refine ⟨fun p => ?_, ?_⟩; (focus (go_simp; (try (with_reducible rfl)); done)); (try simp only [Act.put, List.setIfInBounds_toArray, List.set_cons_zero, List.set_cons_succ]))
                        (refine Ord.take' 14 rfl (by kernel_rfl) (fun _ _ _ _ h => h) K.out (by rfl) ?_; apply Exists.intro; refine ⟨fun p => ?_, ?_⟩; (focus (go_simp; (try (with_reducible rfl)); done)); (try simp only [Act.put, List.setIfInBounds_toArray, List.set_cons_zero, List.set_cons_succ]))
                        (refine Ord.take' 15 rfl (by kernel_rfl) (fun _ _ _ _ h => h) K.out (by rfl) ?_; apply Exists.intro; refine ⟨fun p => ?_, ?_⟩; (focus (go_simp; (try (with_reducible rfl)); done)); (try simp only [Act.put, List.setIfInBounds_toArray, List.set_cons_zero, List.set_cons_succ]))
                        (refine Ord.take' 16 rfl (by kernel_rfl) (fun _ _ _ _ h => h) K.out (by rfl) ?_; apply Exists.intro; refine ⟨fun p => ?_, ?_⟩; (focus (go_simp; (try (with_reducible rfl)); done)); (try simp only [Act.put, List.setIfInBounds_toArray, List.set_cons_zero, List.set_cons_succ]))
                        (refine Ord.take' 17 rfl (by kernel_rfl) (fun _ _ _ _ h => h) K.out (by rfl) ?_; apply Exists.intro; refine ⟨fun p => ?_, ?_⟩; (focus (go_simp; (try (with_reducible rfl)); done)); (try simp only [Act.put, List.setIfInBounds_toArray, List.set_cons_zero, List.set_cons_succ]))
                        (refine Ord.take' 18 rfl (by kernel_rfl) (fun _ _ _ _ h => h) K.out (by rfl) ?_; apply Exists.intro; refine ⟨fun p => ?_, ?_⟩; (focus (go_simp; (try (with_reducible rfl)); done)); (try simp only [Act.put, List.setIfInBounds_toArray, List.set_cons_zero, List.set_cons_succ]))
                        (refine Ord.take' 19 rfl (by kernel_rfl) (fun _ _ _ _ h => h) K.out (by rfl) ?_; apply Exists.intro; refine ⟨fun p => ?_, ?_⟩; (focus (go_simp; (try (with_reducible rfl)); done)); (try simp only [Act.put, List.setIfInBounds_toArray, List.set_cons_zero, List.set_cons_succ]))
                        (refine Ord.take' 20 rfl (by kernel_rfl) (fun _ _ _ _ h => h) K.out (by rfl) ?_; apply Exists.intro; refine ⟨fun p => ?_, ?_⟩; (focus (go_simp; (try (with_reducible rfl)); done)); (try simp only [Act.put, List.setIfInBounds_toArray, List.set_cons_zero, List.set_cons_succ]))
                        (refine Ord.take' 21 rfl (by kernel_rfl) (fun _ _ _ _ h => h) K.out (by rfl) ?_; apply Exists.intro; refine ⟨fun p => ?_, ?_⟩; (focus (go_simp; (try (with_reducible rfl)); done)); (try simp only [Act.put, List.setIfInBounds_toArray, List.set_cons_zero, List.set_cons_succ]))
                        (refine Ord.take' 24 rfl (by kernel_rfl) (fun _ _ _ _ h => h) K.out (by rfl) ?_; apply Exists.intro; refine ⟨fun p => ?_, ?_⟩; (focus (go_simp; (try (with_reducible rfl)); done)); (try simp only [Act.put, List.setIfInBounds_toArray, List.set_cons_zero, List.set_cons_succ]))
                        clear X1 X2 J0 J1 L0 L1 P0 P1 F0 F1
                        refine Ord.lay 12 (v := .agg #[.bool iq, .slice iA il ic]) (w' := W6) rfl (by kernel_rfl) (by rfl) (by go_simp; try (with_reducible rfl)) K.out ?_
                        simp only [Act.put, List.setIfInBounds_toArray, List.set_cons_zero, List.set_cons_succ]
                        clear I0 I1
                        (refine Ord.call 13 (g := 23) (args := (#[.agg #[.bool pq, .slice pA pl pc], .agg #[.bool iq, .slice iA il ic]])) rfl (by kernel_rfl) (by rfl) (by (go_simp; try (with_reducible rfl))) ?_)
                        refine (mul_nz (HL.out.1.2.below KB.out) (HI.out.below KB.out) (by omega) (by omega)).mono ?_
                        rintro e w7 ⟨q3, A3, l3, c3, rfl, hN3, hb⟩
                        refine ⟨_, rfl, K.out.trans (turn_of hb _), ?_⟩
                        replace K := Lib.hid (K.out.trans (turn_of hb (some (gf' i))))
                        replace KB := Lib.hid (Below.onto KB.out hb)
                        simp only [Act.put, List.setIfInBounds_toArray, List.set_cons_zero, List.set_cons_succ]
                        clear hb
                        (refine Ord.call 22 (g := 23) (args := (#[.agg #[.bool fq, .slice fA fl fc], .agg #[.bool kq, .slice kA kl kc]])) rfl (by kernel_rfl) (by rfl) (by (go_simp; try (with_reducible rfl))) ?_)
                        refine (mul_nz (HL.out.2.below KB.out) (HKN.out.below KB.out) (by omega) (by omega)).mono ?_
                        rintro e w8 ⟨q4, A4, l4, c4, rfl, hN4, hb⟩
                        refine ⟨_, rfl, K.out.trans (turn_of hb _), ?_⟩
                        replace K := Lib.hid (K.out.trans (turn_of hb (some (gf' i))))
                        replace KB := Lib.hid (Below.onto KB.out hb)
                        replace hN3 := hN3.below hb
                        simp only [Act.put, List.setIfInBounds_toArray, List.set_cons_zero, List.set_cons_succ]
                        clear hb
                        (refine Ord.call 23 (g := 59) (args := (#[.agg #[.bool q3, .slice A3 l3 c3], .agg #[.bool q4, .slice A4 l4 c4]])) rfl (by kernel_rfl) (by rfl) (by (go_simp; try (with_reducible rfl))) ?_)
                        refine (sub_nz hN3 hN4 (by omega) (by omega)).mono ?_
                        rintro e w9 ⟨q5, A5, l5, c5, rfl, hN5, hb⟩
                        refine ⟨_, rfl, K.out.trans (turn_of hb _), ?_⟩
                        replace K := Lib.hid (K.out.trans (turn_of hb (some (gf' i))))
                        replace KB := Lib.hid (Below.onto KB.out hb)
                        simp only [Act.put, List.setIfInBounds_toArray, List.set_cons_zero, List.set_cons_succ]
                        clear hb hN3 hN4
                        (refine Ord.call 25 (g := 80) (args := (#[.agg #[.bool q5, .slice A5 l5 c5], .agg #[.bool q, .slice LA ll lc]])) rfl (by kernel_rfl) (by rfl) (by (go_simp; try (with_reducible rfl))) ?_)
                        refine (quo_nz hN5 (HL.out.1.1.below KB.out) (by omega) (by omega)).mono ?_
                        rintro e w10 ⟨q6, A6, l6, c6, rn, RA6, rl6, rc6, e6, u6', rfl, hN6, -, hb⟩
                        refine ⟨_, rfl, K.out.trans (turn_of hb _), ?_⟩
                        replace K := Lib.hid (K.out.trans (turn_of hb (some (gf' i))))
                        replace KB := Lib.hid (Below.onto KB.out hb)
                        have HN := Lib.hid hN6
                        simp only [Act.put, List.setIfInBounds_toArray, List.set_cons_zero, List.set_cons_succ]
                        clear hb hN5 hN6
                        (refine Ord.take' 26 rfl (by kernel_rfl) (fun _ _ _ _ h => h) K.out (by rfl) ?_; apply Exists.intro; refine ⟨fun p => ?_, ?_⟩; (focus (go_simp; (try (with_reducible rfl)); done)); (try simp only [Act.put, List.setIfInBounds_toArray, List.set_cons_zero, List.set_cons_succ]))
                        (refine Ord.take' 27 rfl (by kernel_rfl) (fun _ _ _ _ h => h) K.out (by rfl) ?_; apply Exists.intro; refine ⟨fun p => ?_, ?_⟩; (focus (go_simp; (try (with_reducible rfl)); done)); (try simp only [Act.put, List.setIfInBounds_toArray, List.set_cons_zero, List.set_cons_succ]))
                        (refine Ord.take' 28 rfl (by kernel_rfl) (fun _ _ _ _ h => h) K.out (by rfl) ?_; apply Exists.intro; refine ⟨fun p => ?_, ?_⟩; (focus (go_simp; (try (with_reducible rfl)); done)); (try simp only [Act.put, List.setIfInBounds_toArray, List.set_cons_zero, List.set_cons_succ]))
                        (refine Ord.take' 29 rfl (by kernel_rfl) (fun _ _ _ _ h => h) K.out (by rfl) ?_; apply Exists.intro; refine ⟨fun p => ?_, ?_⟩; (focus (go_simp; (try (with_reducible rfl)); done)); (try simp only [Act.put, List.setIfInBounds_toArray, List.set_cons_zero, List.set_cons_succ]))
                        (refine Ord.take' 30 rfl (by kernel_rfl) (fun _ _ _ _ h => h) K.out (by rfl) ?_; apply Exists.intro; refine ⟨fun p => ?_, ?_⟩; (focus (go_simp; (try (with_reducible rfl)); done)); (try simp only [Act.put, List.setIfInBounds_toArray, List.set_cons_zero, List.set_cons_succ]))
                        replace HS := Lib.hid (HS.out.below KB.out)
                        replace HL := Lib.hid (And.intro (And.intro (HL.out.1.1.below KB.out) (HL.out.1.2.below KB.out)) (HL.out.2.below KB.out))
                        have K1 := Lib.hid (Keep.stays _ _ K0.out KB.out)
                        obtain ⟨iq, iA, il, ic, hgi', i0, i1, hzi⟩ := (HS.out.row i hi).at hj
                        have fwm := (HS.out.row i hi).warm
                        refine Ord.store 31 (w' := ((w10.setCell ⟨gf' i, j * 2, none⟩ (.bool q6)).setCell ⟨gf' i, j * 2 + 1, none⟩ (.slice A6 l6 c6))) rfl (by kernel_rfl) (by rfl) (by go_simp; try (with_reducible rfl)) (K.out.trans (Turn.put _ _ _ _ _ _)) ?_
                        clear i0 i1 fwm
                        (refine Ord.done (by kernel_rfl) ?_; simp only [List.drop_succ_cons, List.drop_zero, Act.put, List.setIfInBounds_toArray, List.set_cons_zero, List.set_cons_succ])
                        have hT := Turn.put w10 (gf' i) (j * 2) (j * 2 + 1) (.bool q6) (.slice A6 l6 c6)
                        have hne := (HS.out.row i hi).n32 (by omega)
                        replace HL := Lib.hid (And.intro (And.intro (HL.out.1.1.turn hT hne) (HL.out.1.2.turn hT hne)) (HL.out.2.turn hT hne))
                        have q1 := HSZ.out; have q2 := HSZ2.out; have q3 := hgp.out; have q4 := hgf.out; have q5 := hg2.out
                        have K2 := Lib.hid (K1.out.other hT rfl rfl rfl (by omega) (by intro x hx; simp only [List.mem_cons, List.not_mem_nil, or_false] at hx; rcases hx with rfl | rfl | rfl | rfl | rfl | rfl <;> dsimp only <;> omega))
                        replace HS := Lib.hid (HS.out.put hi hj ⟨q6, A6, l6, c6⟩ HN.out HS.out.nbm)
                        clear hT hne q1 q2 q3 q4 q5 K1 K HN hzi
                        go_wp2_with fail
                        go_roundg (n + 1 - (j + 1))
                        case measure => omega
                        case rel => exact ⟨j + 1, by omega, congrArg (Value.int .i64) (by omega), HS.out.more (fun r c _ _ => by split <;> split <;> (try split) <;> omega) (fun r c _ _ => by
                          by_cases e : r = i ∧ c = j
                          · obtain ⟨rfl, rfl⟩ := e
                            rw [if_pos ⟨rfl, rfl⟩, if_pos (by omega)]
                            unfold swStep
                            rw [if_neg hik]
                          · rw [if_neg e]
                            by_cases e2 : r < i ∨ (r = i ∧ c < j)
                            · rw [if_pos e2, if_pos (by omega)]
                            · rw [if_neg e2, if_neg (by omega)]), HL.out, K2.out⟩
                      · replace HS : Hid (Sw wr lo hz0 bm n (n + 1) gf' (fun r c => if r < i + 1 ∧ r ≠ k then 2 * pbd N k + 5 else pbd N k) (fun r c => if r < i + 1 then swStep k last M' r c else M' r c)) := Lib.hid (HS.out.more (fun r c _ _ => by split <;> split <;> omega) (fun r c _ _ => by
                          by_cases e : r < i + 1
                          · rw [if_pos (by omega), if_pos e]
                          · rw [if_neg (by omega), if_neg e]))
                        go_wp2_with fail
                        go_roundg (n - (i + 1))
                        case measure => omega
                        case rel => exact ⟨i + 1, by omega, congrArg (Value.int .i64) (by omega), HS.out, HL.out.1, K0.out.rest⟩
                · obtain rfl : i = n := by omega
                  obtain ⟨f1, c10, c11⟩ := K.out.nm (.head _)
                  obtain ⟨f2, c20, c21⟩ := K.out.nm (.tail _ (.head _))
                  have hT := Turn.put wr g8 0 1 (.bool pq) (.slice pA pl pc)
                  have hne : ∀ k, some g8 = some k → ∀ z, wr.cell? ⟨k, 0, none⟩ ≠ some (.int .u32 z) := by
                    intro k hk z
                    injection hk with hk
                    rw [← hk, c20]
                    intro e; cases e
                  have HS2 := Lib.hid (HS.out.turn hT (.inr HSZ2.out) hne)
                  have HL2 := Lib.hid (HL.out.2.put c20 (.bool pq) (.slice pA pl pc))
                  clear hT hne
                  go_wp2_with fail
                  clear f1 c10 c11 f2 c20 c21
                  go_roundg (i - (k + 1))
                  case measure => omega
                  case rel => exact ⟨k + 1, odd', gf', _, pq, pA, pl, pc, M' k k, by omega, rfl, congrArg (Value.int .i64) (by omega), rfl, HGO.out, HS2.out.more (fun r c _ _ => by show _ ≤ 2 * pbd N k + 5; split <;> omega) (fun r c hr _ => by rw [if_pos hr]), HL2.out.more (by show _ ≤ 2 * pbd N k + 5; omega), (K.out.putn_1 _ _).rest⟩
        · obtain rfl : p = n := by omega
          have HRES : Hid (sweepP p (aug p A b) = none) := Lib.hid (by rw [← HGO.out]; exact swGo_none hk (by rw [← HPV.out, Nat.sub_self]; rfl))
          go_wp2_with fail
          go_ret3
          exact ⟨.inl ⟨HRES.out, rfl⟩, K.out.B⟩
    · obtain rfl : k = n := by omega
      rw [Nat.sub_self] at HGO
      have HB := Lib.hid K.out.B
      go_wp2_with fail
      go_ret3
      exact ⟨.inr ⟨M, odd, bm, HGO.out.symm, rfl, HS.out.mv (fun _ _ _ _ => Nat.le_refl _)⟩, HB.out⟩
end Go.Proofs.YtmidifgnpjlgcaaGreat
/- A matrix of which a function tells each place (lin.made); the entries of Solve. -/
set_option linter.unusedVariables false
set_option linter.unusedSimpArgs false
namespace Go.Proofs.YtmidifgnpjlgcaaGreat
open Go.RowKit

set_option maxHeartbeats 4000000 in
set_option maxRecDepth 100000 in
theorem entry85_any (ga : Nat) (v : Value) (i j n m N : Nat) (f : Nat → Nat → Int) (w : World) (ha : Cap w ga v) (h1 : Mv w v n m N f) (li : i < n) (lj : j < m) :
    Calls Tryz.prog 85 #[.int .i64 i, .int .i64 j, .pointer (some ⟨ga, 0, none⟩)] w (Told1 w N (f i j)) := by
  obtain ⟨A, c, rfl, -, hm⟩ := h1
  obtain ⟨ba, B, d, rfl, hlt, c0, hL⟩ := hm i li
  obtain ⟨b1, n1, B1, l1, d1, rfl, hlt1, x0, x1, hn1⟩ := hL.at j lj
  have K := Lib.hid (Keep.begin1 w (Obj.num false (.slice none 0 0)))
  have HA := Lib.hid ha; have H1 := Lib.hid hn1
  have HC := Lib.hid (And.intro c0 (And.intro x0 x1))
  clear ha hm hL c0 x0 x1 hn1
  go_enter Tryz.func85, Tryz.ntmps85
  go_upto_region 1 with fail
  (refine out_keep K.out ?_; clear K; intro W K; replace K := Lib.hid K)
  have ca := kept_cell K.out HA.out.1 HA.out.2
  have cr := kept_cell K.out hlt HC.out.1
  have xx0 := kept_cell K.out hlt1 HC.out.2.1
  have xx1 := kept_cell K.out hlt1 HC.out.2.2
  obtain ⟨f1, c10, c11⟩ := K.out.nm (.head _)
  go_wp2_with fail
  refine ret_nm Tryz.results85 rfl ((K.out.putn_0 n1 (.slice B1 l1 d1)).nb (.head _)) ?_
  exact ⟨n1, B1, l1, d1, rfl, (H1.out.below K.out.B).put (K.out.nm (.head _)).2.1 _ _, (K.out.putn_0 n1 (.slice B1 l1 d1)).B⟩

set_option maxHeartbeats 4000000 in
set_option maxRecDepth 100000 in
theorem entry108_any (gf gi ga : Nat) (v : Value) (i j n m N : Nat) (f : Nat → Nat → Int) (w : World) (hf : Cap w gf (.func (.func 85) #[] #[.pointer (some ⟨ga, 0, none⟩)])) (hi : Cap w gi (.int .i64 i)) (ha : Cap w ga v) (h1 : Mv w v n m N f) (li : i < n) (lj : j < m) :
    Calls Tryz.prog 108 #[.int .i64 j, .pointer (some ⟨gf, 0, none⟩), .pointer (some ⟨gi, 0, none⟩)] w (Told1 w N (f i j)) := by
  have K := Lib.hid (Keep.begin1 w (Obj.num false (.slice none 0 0)))
  have HF := Lib.hid hf; have HI := Lib.hid hi; have HA := Lib.hid ha; have H1 := Lib.hid h1
  clear hf hi ha h1
  go_enter Tryz.func108, Tryz.ntmps108
  go_upto_region 1 with fail
  (refine out_keep K.out ?_; clear K; intro W K; replace K := Lib.hid K)
  have cf := kept_cell K.out HF.out.1 HF.out.2
  have ci := kept_cell K.out HI.out.1 HI.out.2
  go_wp2_with fail
  refine (entry85_any ga v i j n m N f _ (HA.out.below K.out.B) (H1.out.below K.out.B) li lj).mono ?_
  rintro e w2 ⟨n1, B1, l1, d1, rfl, hn1, hb⟩
  replace K := Lib.hid (Keep.stays _ _ K.out hb)
  have HN := Lib.hid hn1
  clear hb hn1 cf ci
  obtain ⟨f1, c10, c11⟩ := K.out.nm (.head _)
  go_wp2_with fail
  refine ret_nm Tryz.results108 rfl ((K.out.putn_0 n1 (.slice B1 l1 d1)).nb (.head _)) ?_
  exact ⟨n1, B1, l1, d1, rfl, HN.out.put (K.out.nm (.head _)).2.1 _ _, (K.out.putn_0 n1 (.slice B1 l1 d1)).B⟩

set_option maxHeartbeats 4000000 in
set_option maxRecDepth 100000 in
theorem list108_any (k1 k2 : Value) (n N : Nat) (f : Nat → Int) (w : World) (hF : ∀ k : Nat, k < n → ∀ w', Below w.heap.size w w' → Calls Tryz.prog 108 #[.int .i64 k, k1, k2] w' (Told1 w' N (f k))) (hn : n ≤ 1000000) :
    Calls Tryz.prog 87 #[.int .i64 n, .func (.func 108) #[] #[k1, k2]] w fun e w' => ∃ v, e = .returned v ∧ Lo w' w.heap.size v n N f ∧ Below w.heap.size w w' := by
  have K := Lib.hid (Keep.begin1 w (Obj.lst (List.replicate n Nm.zero)))
  have HF := Lib.hid hF
  have hmk := mk_lst n hn n rfl
  clear hF
  go_enter Tryz.func87, Tryz.ntmps87
  go_wp2_with fail
  go_loopg [11] n (fun gk iv wr => ∃ (i : Nat) (L : List Nm), gk + i = n ∧ iv = .int .i64 (i : Int) ∧ L.length = n ∧ Els wr L N (upto i f) ∧ Keep w [(w.heap.size, Obj.lst L)] wr)
  case atStart => exact ⟨0, _, by omega, rfl, by simp, (Els.zero _ _ _).more (Nat.le_refl _) (fun k _ => upto_zero f k), K.out⟩
  case round =>
    clear K hmk
    obtain ⟨i, L, hgi, rfl, hl, he, k'⟩ := hrel
    have K := Lib.hid k'
    have HL := Lib.hid hl
    have HE := Lib.hid he
    clear k' hl he
    by_cases hi : i < n
    · go_upto_region 5 with fail
      go_wp2_with fail
      refine (HF.out i hi _ K.out.B).mono ?_
      rintro e w2 ⟨n1, B1, l1, d1, rfl, hn1, hb⟩
      replace K := Lib.hid (Keep.stays _ _ K.out hb)
      replace HE := Lib.hid (HE.out.below hb)
      have H1 := Lib.hid hn1
      clear hb hn1
      obtain ⟨c0, c1⟩ := K.out.lstc (.head _) i (by rw [HL.out]; exact hi)
      have f1 := K.out.lstw (.head _)
      go_wp2_with fail
      clear c0 c1 f1
      go_roundg (gk - 1)
      case measure => omega
      case rel =>
        have c00 := (K.out.lstc (.head _) 0 (by rw [HL.out]; omega)).1
        exact ⟨i + 1, L.set i ⟨n1, B1, l1, d1⟩, by omega, congrArg (Value.int .i64) (by omega), by rw [List.length_set]; exact HL.out, (HE.out.putAt c00 _ _).fill _ (H1.out.putAt c00 _ _), K.out.setl_0 i ⟨n1, B1, l1, d1⟩⟩
    · replace HE := Lib.hid (HE.out.more (Nat.le_refl _) (fun k hk => upto_all f (show k < i by have := HL.out; omega)))
      go_wp2_with fail
      go_ret
      exact ⟨_, rfl, ⟨w.heap.size, L, rfl, Nat.le_refl _, K.out.box _ (.head _), HL.out, HE.out⟩, K.out.B⟩


set_option maxHeartbeats 4000000 in
set_option maxRecDepth 100000 in
theorem row107_any (gn gf ga : Nat) (v : Value) (i n m N k : Nat) (f : Nat → Nat → Int) (w : World) (hn : Cap w gn (.int .i64 k)) (hf : Cap w gf (.func (.func 85) #[] #[.pointer (some ⟨ga, 0, none⟩)])) (ha : Cap w ga v) (h1 : Mv w v n m N f) (li : i < n) (lk : k ≤ m) (hk : k ≤ 1000000) :
    Calls Tryz.prog 107 #[.int .i64 i, .pointer (some ⟨gn, 0, none⟩), .pointer (some ⟨gf, 0, none⟩)] w fun e w' => ∃ u, e = .returned u ∧ Lo w' w.heap.size u k N (f i) ∧ Below w.heap.size w w' := by
  have K := Lib.hid (Keep.begin1 w (.cells #[.int .i64 i] 3))
  have HN := Lib.hid hn; have HF := Lib.hid hf; have HA := Lib.hid ha; have H1 := Lib.hid h1
  clear hn hf ha h1
  go_enter Tryz.func107, Tryz.ntmps107
  go_upto_region 1 with fail
  (refine out_keep K.out ?_; clear K; intro W K; replace K := Lib.hid K)
  have cn := kept_cell K.out HN.out.1 HN.out.2
  have HI : Hid (Cap W w.heap.size (.int .i64 i)) := Lib.hid ⟨K.out.lt (.head _), K.out.cell (.head _) rfl⟩
  go_wp2_with fail
  refine (list108_any _ _ k N (f i) W (fun j hj w' hb => entry108_any gf w.heap.size ga v i j n m N f w' ((HF.out.below K.out.B).below hb) (HI.out.below hb) ((HA.out.below K.out.B).below hb) ((H1.out.below K.out.B).below hb) li (by omega)) hk).mono ?_
  rintro e w2 ⟨u, rfl, hL, hb⟩
  have KB := K.out.B.size
  replace K := Lib.hid (Keep.stays _ _ K.out hb)
  have HL := Lib.hid hL
  obtain ⟨g, L, rfl, hg, -⟩ := hL
  clear hb cn HI
  go_wp2_with fail
  go_ret
  obtain ⟨g', L', e', hg', hh⟩ := HL.out
  exact ⟨_, rfl, ⟨g', L', e', Nat.le_trans KB hg', hh⟩, K.out.B⟩

set_option maxHeartbeats 4000000 in
set_option maxRecDepth 100000 in
theorem rlist107_any (k1 k2 : Value) (n m N : Nat) (f : Nat → Nat → Int) (w : World) (hF : ∀ k : Nat, k < n → ∀ w', Below w.heap.size w w' → Calls Tryz.prog 107 #[.int .i64 k, k1, k2] w' fun e w'' => ∃ u, e = .returned u ∧ Lo w'' w'.heap.size u m N (f k) ∧ Below w'.heap.size w' w'') (hn : n ≤ 1000000) :
    Calls Tryz.prog 106 #[.int .i64 n, .func (.func 107) #[] #[k1, k2]] w fun e w' => ∃ bm gs, e = .returned (.slice (some ⟨bm, 0, none⟩) n n) ∧ gs.length = n ∧ Wm w' w.heap.size bm gs m N f ∧ gs.Nodup ∧ Below w.heap.size w w' := by
  have K := Lib.hid (Keep.begin1 w (.cells (List.replicate n (Value.slice none 0 0)).toArray 27))
  have HF := Lib.hid hF
  have hmk := mk0_sow 25 27 Tryz.underlying25 info27 n hn n n rfl (Nat.le_refl _) n rfl
  clear hF
  go_enter Tryz.func106, Tryz.ntmps106
  go_wp2_with fail
  go_loopg [11] n (fun gk iv wr => ∃ (gs : List Nat), gk + gs.length = n ∧ iv = .int .i64 (gs.length : Int) ∧ AllN gs (fun i g => Rowg wr w.heap.size g m N (f i)) ∧ (gs.Nodup ∧ ∀ g ∈ gs, g < wr.heap.size) ∧ Keep w [(w.heap.size, .cells (gs.map (rsl m) ++ List.replicate (n - gs.length) (Value.slice none 0 0)).toArray 27)] wr)
  case atStart => exact ⟨[], by simp, rfl, AllN.nil _, ⟨List.nodup_nil, fun g hg => (by cases hg)⟩, by simpa using K.out⟩
  case round =>
    clear K hmk
    obtain ⟨gs, hgi, rfl, hall, hnd, k'⟩ := hrel
    have HND := Lib.hid hnd
    have K := Lib.hid k'
    have HA := Lib.hid hall
    clear k' hall hnd
    by_cases hi : gs.length < n
    · go_upto_region 5 with fail
      go_wp2_with fail
      refine (HF.out gs.length hi _ K.out.B).mono ?_
      rintro e w2 ⟨u, rfl, ⟨g, L, rfl, hg, hh, hl, he⟩, hb⟩
      have HB := Lib.hid K.out.B.size
      have HNg : Hid ((gs ++ [g]).Nodup ∧ ∀ x ∈ gs ++ [g], x < w2.heap.size) := by
        refine Lib.hid ⟨List.nodup_append.2 ⟨HND.out.1, by simp, fun a ha b hb' => ?_⟩, fun x hx => ?_⟩
        · rw [List.mem_singleton.1 hb']; have := HND.out.2 a ha; omega
        · rcases List.mem_append.1 hx with h1 | h1
          · have := HND.out.2 x h1; have := hb.size; omega
          · rw [List.mem_singleton.1 h1]; exact (Array.getElem?_eq_some_iff.1 hh).1
      replace K := Lib.hid (Keep.stays _ _ K.out hb)
      replace HA := Lib.hid (HA.out.mono fun j x hx => hx.below hb)
      have H1 : Hid (Rowg w2 w.heap.size g m N (f gs.length)) := Lib.hid ⟨L, Nat.le_trans HB.out hg, hh, hl, he⟩
      clear hb hh hl he hg HB
      have hcell : (gs.map (rsl m) ++ List.replicate (n - gs.length) (Value.slice none 0 0)).toArray[gs.length]? = some (.slice none 0 0) := by
        rw [List.getElem?_toArray, List.getElem?_append_right (by simp), List.getElem?_replicate, if_pos (by rw [List.length_map]; omega)]
      have c0 := K.out.cell (.head _) hcell
      have f1 := fun o => K.out.warm (.head _) o
      clear hcell
      have hne32 := K.out.fill32 (.head _)
      have htag := K.out.tagg (.head _)
      go_wp2_with fail
      clear c0 f1
      go_roundg (gk - 1)
      case measure => omega
      case rel =>
        have hT := Turn.set w2 w.heap.size gs.length (rsl m g)
        refine ⟨gs ++ [g], by rw [List.length_append]; simp; omega, congrArg (Value.int .i64) (by rw [List.length_append]; simp), (HA.out.mono fun j x hx => hx.turn hT htag (by decide) hne32).snoc _ (H1.out.turn hT htag (by decide) hne32), ⟨HNg.out.1, fun x hx => by have := HNg.out.2 x hx; simpa [World.setCell] using this⟩, ?_⟩
        have k2 := Keep.set [] K.out gs.length (rsl m g)
        rw [set_fill _ _ _ _ hi] at k2
        exact k2
    · have hnn : gs.length = n := by omega
      have HK := Lib.hid (K.out.gb (.head _))
      go_wp2_with fail
      go_ret
      have e : gs.map (rsl m) ++ List.replicate (n - gs.length) (Value.slice none 0 0) = gs.map (rsl m) := by rw [hnn]; simp
      have h2 := HK.out
      rw [e] at h2
      exact ⟨_, gs, rfl, hnn, ⟨Nat.le_refl _, h2, HA.out⟩, HND.out.1, K.out.B⟩


theorem Wm.mv {w : World} {base bm n m N : Nat} {gs : List Nat} {f : Nat → Nat → Int} (h : Wm w base bm gs m N f) (hl : gs.length = n) : Mv w (.slice (some ⟨bm, 0, none⟩) n n) n m N f := by
  obtain ⟨h1, h2, h3⟩ := h
  refine ⟨_, n, rfl, (fun h => by cases h), fun j hj => ?_⟩
  obtain ⟨L, k1, k2, k3, k4⟩ := h3 j (by omega)
  have hc : w.cell? ⟨bm, j, none⟩ = some (.slice (some ⟨gs[j]'(by omega), 0, none⟩) m m) := by
    rw [cellOf h2, List.getElem?_toArray, List.getElem?_map, List.getElem?_eq_getElem (by omega)]
    rfl
  refine ⟨bm, _, m, rfl, (Array.getElem?_eq_some_iff.1 h2).1, hc, _, m, rfl, (fun h => by cases h), fun c hc => ?_⟩
  have hcl : c < L.length := by omega
  exact ⟨_, L[c].n, L[c].A, L[c].l, L[c].c, rfl, (Array.getElem?_eq_some_iff.1 k2).1, by rw [cellOf k2, List.getElem?_toArray]; exact flat_get0 L c hcl, by rw [cellOf k2, List.getElem?_toArray]; exact flat_get1 L c hcl, k4 c hcl⟩

set_option maxHeartbeats 4000000 in
set_option maxRecDepth 100000 in
theorem made84_any (ga : Nat) (v : Value) (n m N k : Nat) (f : Nat → Nat → Int) (w : World) (ha : Cap w ga v) (h1 : Mv w v n m N f) (ln : k ≤ n) (lm : k ≤ m) (hk : k ≤ 1000000) :
    Calls Tryz.prog 84 #[.int .i64 k, .func (.func 85) #[] #[.pointer (some ⟨ga, 0, none⟩)]] w fun e w' => ∃ bm, e = .returned (.slice (some ⟨bm, 0, none⟩) k k) ∧ Mv w' (.slice (some ⟨bm, 0, none⟩) k k) k k N f ∧ Below w.heap.size w w' := by
  have K := Lib.hid (Keep.begin2 w (.cells #[.int .i64 k] 3) (.cells #[.func (.func 85) #[] #[.pointer (some ⟨ga, 0, none⟩)]] 75))
  have HA := Lib.hid ha; have H1 := Lib.hid h1
  clear ha h1
  go_enter Tryz.func84, Tryz.ntmps84
  go_upto_region 1 with fail
  (refine out_keep K.out ?_; clear K; intro W K; replace K := Lib.hid K)
  have cn := K.out.cell (k := 0) (.tail _ (.head _)) rfl
  have HN : Hid (Cap W w.heap.size (.int .i64 k)) := Lib.hid ⟨K.out.lt (.tail _ (.head _)), K.out.cell (.tail _ (.head _)) rfl⟩
  have HF : Hid (Cap W (w.heap.size + 1) (.func (.func 85) #[] #[.pointer (some ⟨ga, 0, none⟩)])) := Lib.hid ⟨K.out.lt (.head _), K.out.cell (.head _) rfl⟩
  go_wp2_with fail
  refine (rlist107_any _ _ k k N f W (fun i hi w' hb => row107_any w.heap.size (w.heap.size + 1) ga v i n m N k f w' (HN.out.below hb) (HF.out.below hb) ((HA.out.below K.out.B).below hb) ((H1.out.below K.out.B).below hb) (by omega) lm hk) hk).mono ?_
  rintro e w2 ⟨bm, gs, rfl, hgl, hW, -, hb⟩
  replace K := Lib.hid (Keep.stays _ _ K.out hb)
  have HM := Lib.hid (hW.mv hgl)
  clear hb hW cn HN HF
  go_wp2_with fail
  go_ret
  exact ⟨bm, rfl, HM.out, K.out.B⟩

set_option maxHeartbeats 4000000 in
set_option maxRecDepth 100000 in
theorem entry88_any (gm ga go : Nat) (v : Value) (bm i n N : Nat) (odd : Bool) (f : Nat → Nat → Int) (VA : Option Addr) (vc : Nat) (w : World) (hm : Cap w gm v) (ha : Cap w ga (.slice VA n vc)) (ho : Cap w go (.bool odd)) (h1 : Mv w v n (n + 1) N f) (li : i < n) (hn : n ≤ 1000000) (hN : N ≤ 900000) :
    Calls Tryz.prog 88 #[.int .i64 i, .pointer (some ⟨gm, 0, none⟩), .pointer (some ⟨ga, 0, none⟩), .pointer (some ⟨go, 0, none⟩)] w (Told1 w N (if odd then -f i n else f i n)) := by
  obtain ⟨z, hz⟩ : ∃ z, z = (if odd then -f i n else f i n) := ⟨_, rfl⟩
  rw [← hz]
  have HZ := Lib.hid hz
  clear hz
  obtain ⟨A, c, rfl, -, hmm⟩ := h1
  obtain ⟨ba, B, d, rfl, hlt, c0, hL⟩ := hmm i li
  obtain ⟨b1, n1, B1, l1, d1, rfl, hlt1, x0, x1, hn1⟩ := hL.at n (by omega)
  have K := Lib.hid (Keep.begin1 w (Obj.num false (.slice none 0 0)))
  have HM := Lib.hid hm; have HA := Lib.hid ha; have HO := Lib.hid ho; have H1 := Lib.hid hn1
  have HC := Lib.hid (And.intro c0 (And.intro x0 x1))
  clear hm ha ho hmm hL c0 x0 x1 hn1
  go_enter Tryz.func88, Tryz.ntmps88
  go_upto_region 1 with fail
  (refine out_keep K.out ?_; clear K; intro W K; replace K := Lib.hid K)
  (refine region_ord _ 10 (by kernel_rfl) (by kernel_rfl) K.out.drew ?_; clear K; intro W K hbw; replace K := Lib.hid K)
  clear hbw
  have hnn : (n : Int) < (n : Int) + 1 := by omega
  have cm := Keep.far K HM.out.1 HM.out.2
  have ca := Keep.far K HA.out.1 HA.out.2
  have co := Keep.far K HO.out.1 HO.out.2
  have cr := Keep.far K hlt HC.out.1
  have xx0 := Keep.far K hlt1 HC.out.2.1
  have xx1 := Keep.far K hlt1 HC.out.2.2
  (refine Ord.take' 0 rfl (by kernel_rfl) (fun _ _ _ _ h => h) K.out (by rfl) ?_; apply Exists.intro; refine ⟨fun p => ?_, ?_⟩; (focus (go_simp; (try (with_reducible rfl)); done)); (try simp only [Act.put, List.setIfInBounds_toArray, List.set_cons_zero, List.set_cons_succ]))
  (refine Ord.take' 1 rfl (by kernel_rfl) (fun _ _ _ _ h => h) K.out (by rfl) ?_; apply Exists.intro; refine ⟨fun p => ?_, ?_⟩; (focus (go_simp; (try (with_reducible rfl)); done)); (try simp only [Act.put, List.setIfInBounds_toArray, List.set_cons_zero, List.set_cons_succ]))
  (refine Ord.take' 2 rfl (by kernel_rfl) (fun _ _ _ _ h => h) K.out (by rfl) ?_; apply Exists.intro; refine ⟨fun p => ?_, ?_⟩; (focus (go_simp; (try (with_reducible rfl)); done)); (try simp only [Act.put, List.setIfInBounds_toArray, List.set_cons_zero, List.set_cons_succ]))
  (refine Ord.take' 3 rfl (by kernel_rfl) (fun _ _ _ _ h => h) K.out (by rfl) ?_; apply Exists.intro; refine ⟨fun p => ?_, ?_⟩; (focus (go_simp; (try (with_reducible rfl)); done)); (try simp only [Act.put, List.setIfInBounds_toArray, List.set_cons_zero, List.set_cons_succ]))
  (refine Ord.take' 4 rfl (by kernel_rfl) (fun _ _ _ _ h => h) K.out (by rfl) ?_; apply Exists.intro; refine ⟨fun p => ?_, ?_⟩; (focus (go_simp; (try (with_reducible rfl)); done)); (try simp only [Act.put, List.setIfInBounds_toArray, List.set_cons_zero, List.set_cons_succ]))
  (refine Ord.take' 5 rfl (by kernel_rfl) (fun _ _ _ _ h => h) K.out (by rfl) ?_; apply Exists.intro; refine ⟨fun p => ?_, ?_⟩; (focus (go_simp; (try (with_reducible rfl)); done)); (try simp only [Act.put, List.setIfInBounds_toArray, List.set_cons_zero, List.set_cons_succ]))
  (refine Ord.take' 6 rfl (by kernel_rfl) (fun _ _ _ _ h => h) K.out (by rfl) ?_; apply Exists.intro; refine ⟨fun p => ?_, ?_⟩; (focus (go_simp; (try (with_reducible rfl)); done)); (try simp only [Act.put, List.setIfInBounds_toArray, List.set_cons_zero, List.set_cons_succ]))
  (refine Ord.take' 7 rfl (by kernel_rfl) (fun _ _ _ _ h => h) K.out (by rfl) ?_; apply Exists.intro; refine ⟨fun p => ?_, ?_⟩; (focus (go_simp; (try (with_reducible rfl)); done)); (try simp only [Act.put, List.setIfInBounds_toArray, List.set_cons_zero, List.set_cons_succ]))
  (refine Ord.take' 8 rfl (by kernel_rfl) (fun _ _ _ _ h => h) K.out (by rfl) ?_; apply Exists.intro; refine ⟨fun p => ?_, ?_⟩; (focus (go_simp; (try (with_reducible rfl)); done)); (try simp only [Act.put, List.setIfInBounds_toArray, List.set_cons_zero, List.set_cons_succ]))
  clear cm ca co cr xx0 xx1 hnn
  (refine Ord.call 9 (g := 89) (args := (#[.agg #[.bool n1, .slice B1 l1 d1], .bool odd])) rfl (by kernel_rfl) (by rfl) (by (go_simp; try (with_reducible rfl))) ?_)
  refine (turned_any n1 odd _ _ N _ (H1.out.below K.out.B) hN).mono ?_
  rintro e w2 ⟨n2, B2, l2, d2, rfl, hn2, hb⟩
  (refine ⟨_, rfl, Keep.stays _ _ K.out hb, ?_⟩; replace K := Lib.hid (Keep.stays _ _ K.out hb); simp only [Act.put, List.setIfInBounds_toArray, List.set_cons_zero, List.set_cons_succ])
  have HN := Lib.hid (hn2.val HZ.out.symm)
  clear hb hn2
  (refine Ord.done (by kernel_rfl) ?_; simp only [List.drop_succ_cons, List.drop_zero, Act.put, List.setIfInBounds_toArray, List.set_cons_zero, List.set_cons_succ])
  obtain ⟨f1, c10, c11⟩ := K.out.nm (.head _)
  go_wp2_with fail
  refine ret_nm Tryz.results88 rfl ((K.out.putn_0 n2 (.slice B2 l2 d2)).nb (.head _)) ?_
  exact ⟨n2, B2, l2, d2, rfl, HN.out.put (K.out.nm (.head _)).2.1 _ _, (K.out.putn_0 n2 (.slice B2 l2 d2)).B⟩

set_option maxHeartbeats 4000000 in
set_option maxRecDepth 100000 in
theorem list88_any (k1 k2 k3 : Value) (n N : Nat) (f : Nat → Int) (w : World) (hF : ∀ k : Nat, k < n → ∀ w', Below w.heap.size w w' → Calls Tryz.prog 88 #[.int .i64 k, k1, k2, k3] w' (Told1 w' N (f k))) (hn : n ≤ 1000000) :
    Calls Tryz.prog 87 #[.int .i64 n, .func (.func 88) #[] #[k1, k2, k3]] w fun e w' => ∃ v, e = .returned v ∧ Lo w' w.heap.size v n N f ∧ Below w.heap.size w w' := by
  have K := Lib.hid (Keep.begin1 w (Obj.lst (List.replicate n Nm.zero)))
  have HF := Lib.hid hF
  have hmk := mk_lst n hn n rfl
  clear hF
  go_enter Tryz.func87, Tryz.ntmps87
  go_wp2_with fail
  go_loopg [11] n (fun gk iv wr => ∃ (i : Nat) (L : List Nm), gk + i = n ∧ iv = .int .i64 (i : Int) ∧ L.length = n ∧ Els wr L N (upto i f) ∧ Keep w [(w.heap.size, Obj.lst L)] wr)
  case atStart => exact ⟨0, _, by omega, rfl, by simp, (Els.zero _ _ _).more (Nat.le_refl _) (fun k _ => upto_zero f k), K.out⟩
  case round =>
    clear K hmk
    obtain ⟨i, L, hgi, rfl, hl, he, k'⟩ := hrel
    have K := Lib.hid k'
    have HL := Lib.hid hl
    have HE := Lib.hid he
    clear k' hl he
    by_cases hi : i < n
    · go_upto_region 5 with fail
      go_wp2_with fail
      refine (HF.out i hi _ K.out.B).mono ?_
      rintro e w2 ⟨n1, B1, l1, d1, rfl, hn1, hb⟩
      replace K := Lib.hid (Keep.stays _ _ K.out hb)
      replace HE := Lib.hid (HE.out.below hb)
      have H1 := Lib.hid hn1
      clear hb hn1
      obtain ⟨c0, c1⟩ := K.out.lstc (.head _) i (by rw [HL.out]; exact hi)
      have f1 := K.out.lstw (.head _)
      go_wp2_with fail
      clear c0 c1 f1
      go_roundg (gk - 1)
      case measure => omega
      case rel =>
        have c00 := (K.out.lstc (.head _) 0 (by rw [HL.out]; omega)).1
        exact ⟨i + 1, L.set i ⟨n1, B1, l1, d1⟩, by omega, congrArg (Value.int .i64) (by omega), by rw [List.length_set]; exact HL.out, (HE.out.putAt c00 _ _).fill _ (H1.out.putAt c00 _ _), K.out.setl_0 i ⟨n1, B1, l1, d1⟩⟩
    · replace HE := Lib.hid (HE.out.more (Nat.le_refl _) (fun k hk => upto_all f (show k < i by have := HL.out; omega)))
      go_wp2_with fail
      go_ret
      exact ⟨_, rfl, ⟨w.heap.size, L, rfl, Nat.le_refl _, K.out.box _ (.head _), HL.out, HE.out⟩, K.out.B⟩


end Go.Proofs.YtmidifgnpjlgcaaGreat
