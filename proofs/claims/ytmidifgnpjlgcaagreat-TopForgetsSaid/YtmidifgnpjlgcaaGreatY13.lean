/- The texts Rg, Sa, Sb of the walk of the law and of all that it calls, in one file. No condition. -/
import Derived.Test.YtmidifgnpjlgcaaGreatY12
/- The walks of Det, Solve (equations), Definite. -/
set_option linter.unusedVariables false
set_option linter.unusedSimpArgs false
namespace Go.Proofs.YtmidifgnpjlgcaaGreat
open Go.RowKit

/-- The determinant. -/
def detP (n : Nat) (A : Nat → Nat → Int) : Int :=
  match sweepP n (aug n A (fun _ => 0)) with
  | none => 0
  | some (M, odd) => if n = 0 then 1 else if odd then -M (n - 1) (n - 1) else M (n - 1) (n - 1)
/-- The solution of equations, times the determinant. -/
def numP (n : Nat) (M : Nat → Nat → Int) (odd : Bool) (i : Nat) : Int := if odd then -M i n else M i n

theorem Mv.at {w : World} {A : Option Addr} {n l m c N : Nat} {f : Nat → Nat → Int} (h : Mv w (.slice A l c) n m N f) : ∀ j, j < n → ∃ b B d, A = some ⟨b, 0, none⟩ ∧ b < w.heap.size ∧ w.cell? ⟨b, j, none⟩ = some (.slice B m d) ∧ Lv w (.slice B m d) m N (f j) := by
  obtain ⟨A', c', hv, -, h⟩ := h
  cases hv
  exact h

theorem Lo.turn {w w' : World} {base o : Nat} {v : Value} {m N : Nat} {f : Nat → Int} (h : Lo w base v m N f) (hT : Turn (some o) w w') (ho : o < base) (hc : ∀ k, some o = some k → ∀ z, w.cell? ⟨k, 0, none⟩ ≠ some (.int .u32 z)) : Lo w' base v m N f := by
  obtain ⟨g, L, hv, hg, hh, hl, he⟩ := h
  exact ⟨g, L, hv, hg, by rw [hT.2 g (Array.getElem?_eq_some_iff.1 hh).1 (fun e => by injection e; omega)]; exact hh, hl, he.turn (fun _ _ _ _ hN => hN.turn hT hc)⟩

variable {w0 w : World} {l l2 : List (Nat × Obj)}
set_option maxHeartbeats 4000000 in
set_option maxRecDepth 100000 in
theorem det_any (v : Value) (n N : Nat) (A : Nat → Nat → Int) (w : World) (h1 : Mv w v n n N A) (hn : n ≤ 11) (hN : 2 ≤ N) (hP : pbd N n ≤ 600000) :
    Calls Tryz.prog 78 #[v] w (Told1 w (pbd N n) (detP n A)) := by
  have HP1 := Lib.hid (Nat.le_trans hN (pbd_ge N n))
  have HD : Hid (detP n A = match sweepP n (aug n A (fun _ => 0)) with | none => 0 | some (M, odd) => if n = 0 then 1 else if odd then -M (n - 1) (n - 1) else M (n - 1) (n - 1)) := rfl
  generalize detP n A = dt at *
  have K := Lib.hid (Keep.begin1 w (Obj.num false (.slice none 0 0)))
  have H1 := Lib.hid h1
  obtain ⟨VA, vc, rfl, -⟩ := h1
  go_enter Tryz.func78, Tryz.ntmps78
  go_upto_region 1 with fail
  (refine out_keep K.out ?_; clear K; intro W K; replace K := Lib.hid K)
  go_wp2_with fail
  refine (zeros_any n W (by omega)).mono ?_
  rintro e w2 ⟨u, rfl, hL, hb⟩
  replace K := Lib.hid (Keep.stays _ _ K.out hb)
  have HL := Lib.hid hL
  obtain ⟨g, L, rfl, -⟩ := hL
  clear hb
  go_wp2_with fail
  refine (swept_any _ _ n N A (fun _ => 0) w2 (H1.out.below K.out.B) (HL.out.lv.more (Nat.zero_le _) (fun _ _ => rfl)) hn hN hP).mono ?_
  rintro e w3 ⟨hr, hb⟩
  replace K := Lib.hid (Keep.stays _ _ K.out hb)
  clear hb HL
  rcases hr with ⟨hs, rfl⟩ | ⟨M, odd, bm, hs, rfl, hM⟩
  · have HD2 : Hid (dt = 0) := by show _ = _; rw [HD.out, hs]
    obtain ⟨f1, c10, c11⟩ := K.out.nm (.head _)
    clear hs HD
    go_wp2_with fail
    refine ret_nm Tryz.results78 rfl ((K.out.putn_0 false (.slice none 0 0)).nb (.head _)) ?_
    exact ⟨false, none, 0, 0, rfl, ((Nz.nil _).more (Nat.zero_le _)).val HD2.out.symm, (K.out.putn_0 false (.slice none 0 0)).B⟩
  · have HM := Lib.hid hM
    by_cases h0 : n = 0
    · subst h0
      have HD2 : Hid (dt = 1) := by show _ = _; rw [HD.out, hs]; rfl
      clear hs HD hM
      go_wp2_with fail
      refine (int_nz 1 _ (by omega) (by omega)).mono ?_
      rintro e w4 ⟨q, A4, l4, c4, rfl, hN4, hb⟩
      replace K := Lib.hid (Keep.stays _ _ K.out hb)
      have HN := Lib.hid hN4
      clear hb hN4
      obtain ⟨f1, c10, c11⟩ := K.out.nm (.head _)
      go_wp2_with fail
      refine ret_nm Tryz.results78 rfl ((K.out.putn_0 q (.slice A4 l4 c4)).nb (.head _)) ?_
      exact ⟨q, A4, l4, c4, rfl, ((HN.out.put (K.out.nm (.head _)).2.1 _ _).more HP1.out).val HD2.out.symm, (K.out.putn_0 q (.slice A4 l4 c4)).B⟩
    · have HD2 : Hid (dt = if odd then -M (n - 1) (n - 1) else M (n - 1) (n - 1)) := by show _ = _; rw [HD.out, hs]; exact if_neg h0
      obtain ⟨ba, B, d, e0, hlt, c0, hLr⟩ := hM.at (n - 1) (by omega)
      cases e0
      obtain ⟨b1, n1, B1, l1, d1, rfl, hlt1, x0, x1, hn1⟩ := hLr.at (n - 1) (by omega)
      have H2 := Lib.hid hn1
      have hnn : ((n : Nat) : Int) - 1 = ((n - 1 : Nat) : Int) := by omega
      clear hs HD hM hLr hn1
      go_wp2_with fail
      refine (turned_any n1 odd _ _ (pbd N n) _ H2.out (by omega)).mono ?_
      rintro e w4 ⟨q, A4, l4, c4, rfl, hN4, hb⟩
      replace K := Lib.hid (Keep.stays _ _ K.out hb)
      have HN := Lib.hid hN4
      clear hb hN4 c0 x0 x1 hnn
      obtain ⟨f1, c10, c11⟩ := K.out.nm (.head _)
      go_wp2_with fail
      refine ret_nm Tryz.results78 rfl ((K.out.putn_0 q (.slice A4 l4 c4)).nb (.head _)) ?_
      exact ⟨q, A4, l4, c4, rfl, (HN.out.put (K.out.nm (.head _)).2.1 _ _).val HD2.out.symm, (K.out.putn_0 q (.slice A4 l4 c4)).B⟩

theorem ret_cnm {fn : Func} {p u v g : Nat} {tmps : Array Value} {w : World} {n : Bool} {s : Value} {R : Ending → World → Prop} (h : fn.results = #[.tmp u, .cell p 30, .tmp v]) (hp : tmps.getD p undef = .pointer (some ⟨g, 0, none⟩)) (hb : w.heap[g]? = some (Obj.num n s)) (hR : R (.returned (.tuple #[tmps.getD u undef, .agg #[.bool n, s], tmps.getD v undef])) w) : bodyPost Tryz.prog fn R .ret { tmps := tmps, defers := [] } w := by
  refine bodyPost_ret ?_ rfl hR
  have hp' : tmps[p]?.getD undef = .pointer (some ⟨g, 0, none⟩) := by simpa using hp
  have e1 := run_loadVar_row (P := Tryz.prog) w g 30 30 _ _ _ hb Tryz.underlying30 rfl (by kernel_rfl)
  simp [results, h, hp', asAddr, e1]

/-- What Solve tells. -/
def LsR (n N : Nat) (A : Nat → Nat → Int) (b : Nat → Int) (e : Ending) (w' : World) : Prop :=
  (sweepP n (aug n A b) = none ∧ e = .returned (.tuple #[.slice none 0 0, .agg #[.bool false, .slice none 0 0], .int .i64 11])) ∨ ∃ M odd u q DA dl dc, sweepP n (aug n A b) = some (M, odd) ∧ e = .returned (.tuple #[u, .agg #[.bool q, .slice DA dl dc], .int .i64 0]) ∧ Lv w' u n (pbd N n) (numP n M odd) ∧ Nz w' q (.slice DA dl dc) (detP n A) (pbd N n)

set_option maxHeartbeats 8000000 in
set_option maxRecDepth 100000 in
theorem lsolve_any (v t : Value) (n N : Nat) (A : Nat → Nat → Int) (b : Nat → Int) (w : World) (h1 : Mv w v n n N A) (h2 : Lv w t n N b) (hn : n ≤ 11) (hN : 2 ≤ N) (hP : pbd N n ≤ 600000) :
    Calls Tryz.prog 58 #[v, t] w fun e w' => LsR n N A b e w' ∧ Below w.heap.size w w' := by
  have K := Lib.hid (Keep.begin2 w (.cells #[v] 26) (Obj.num false (.slice none 0 0)))
  have H1 := Lib.hid h1; have H2 := Lib.hid h2
  obtain ⟨VA, vc, rfl, -⟩ := h1
  obtain ⟨TA, tc, rfl, -⟩ := h2
  go_enter Tryz.func58, Tryz.ntmps58
  go_upto_region 1 with fail
  (refine out_keep K.out ?_; clear K; intro W K; replace K := Lib.hid K)
  have ca := K.out.cell (k := 0) (.tail _ (.head _)) rfl
  go_wp2_with fail
  refine (swept_any _ _ n N A b W (H1.out.below K.out.B) (H2.out.below K.out.B) hn hN hP).mono ?_
  rintro e w3 ⟨hr, hb⟩
  replace K := Lib.hid (Keep.stays _ _ K.out hb)
  clear hb ca
  rcases hr with ⟨hs, rfl⟩ | ⟨M, odd, bm, hs, rfl, hM⟩
  · have HS := Lib.hid hs
    clear hs
    go_upto_region 4 with fail
    replace K := Lib.hid (K.out.alloc2 (.cells #[.slice none 0 0] 25) (.cells #[.bool false] 4)).rest.rest
    refine out_keep K.out ?_
    clear K
    intro W4 K
    replace K := Lib.hid K
    obtain ⟨f1, c10, c11⟩ := K.out.nm (.head _)
    go_wp2_with fail
    refine ret_cnm Tryz.results58 rfl ((K.out.putn_0 false (.slice none 0 0)).nb (.head _)) ?_
    exact ⟨.inl ⟨HS.out, rfl⟩, (K.out.putn_0 false (.slice none 0 0)).B⟩
  · have HS := Lib.hid hs
    have HM := Lib.hid hM
    clear hs hM
    go_upto_region 4 with fail
    replace K := Lib.hid (K.out.alloc2 (.cells #[.slice (some ⟨bm, 0, none⟩) n n] 25) (.cells #[.bool odd] 4))
    replace HM := Lib.hid (HM.out.below (below_two w3 (.cells #[.slice (some ⟨bm, 0, none⟩) n n] 25) (.cells #[.bool odd] 4)))
    generalize w3.heap.size = g7 at *
    refine out_with (B := fun W => Mv W (.slice (some ⟨bm, 0, none⟩) n n) n (n + 1) (pbd N n) M) K.out HM.out ?_
    clear K HM w3
    intro W4 K HM
    replace K := Lib.hid K
    replace HM := Lib.hid HM
    go_upto_region 6 with fail
    (refine region_ord _ 7 (by kernel_rfl) (by kernel_rfl) K.out.drew ?_; clear K; intro W K hbw; replace K := Lib.hid K)
    replace HM := Lib.hid (HM.out.below hbw)
    clear hbw
    have x0 := Keep.acell (k := 0) K (.tail _ (.tail _ (.tail _ (.head _)))) rfl
    (refine Ord.take' 0 rfl (by kernel_rfl) (fun _ _ _ _ h => h) K.out (by rfl) ?_; apply Exists.intro; refine ⟨fun p => ?_, ?_⟩; (focus (go_simp; (try (with_reducible rfl)); done)); (try simp only [Act.put, List.setIfInBounds_toArray, List.set_cons_zero, List.set_cons_succ]))
    (refine Ord.take' 1 rfl (by kernel_rfl) (fun _ _ _ _ h => h) K.out (by rfl) ?_; apply Exists.intro; refine ⟨fun p => ?_, ?_⟩; (focus (go_simp; (try (with_reducible rfl)); done)); (try simp only [Act.put, List.setIfInBounds_toArray, List.set_cons_zero, List.set_cons_succ]))
    (refine Ord.take' 2 rfl (by kernel_rfl) (fun _ _ _ _ h => h) K.out (by rfl) ?_; apply Exists.intro; refine ⟨fun p => ?_, ?_⟩; (focus (go_simp; (try (with_reducible rfl)); done)); (try simp only [Act.put, List.setIfInBounds_toArray, List.set_cons_zero, List.set_cons_succ]))
    (refine Ord.take' 4 rfl (by kernel_rfl) (fun _ _ _ _ h => h) K.out (by rfl) ?_; apply Exists.intro; refine ⟨fun p => ?_, ?_⟩; (focus (go_simp; (try (with_reducible rfl)); done)); (try simp only [Act.put, List.setIfInBounds_toArray, List.set_cons_zero, List.set_cons_succ]))
    clear x0
    (refine Ord.call 3 (g := 87) (args := (#[.int .i64 n, .func (.func 88) #[] #[.pointer (some ⟨g7, 0, none⟩), .pointer (some ⟨w.heap.size, 0, none⟩), .pointer (some ⟨g7 + 1, 0, none⟩)]])) rfl (by kernel_rfl) (by rfl) (by (go_simp; try (with_reducible rfl))) ?_)
    have HCm : Hid (Cap W g7 (.slice (some ⟨bm, 0, none⟩) n n)) := Lib.hid ⟨K.out.lt (.tail _ (.head _)), K.out.cell (k := 0) (.tail _ (.head _)) rfl⟩
    have HCo : Hid (Cap W (g7 + 1) (.bool odd)) := Lib.hid ⟨K.out.lt (.head _), K.out.cell (k := 0) (.head _) rfl⟩
    have HCa : Hid (Cap W w.heap.size (.slice VA n vc)) := Lib.hid ⟨K.out.lt (.tail _ (.tail _ (.tail _ (.head _)))), K.out.cell (k := 0) (.tail _ (.tail _ (.tail _ (.head _)))) rfl⟩
    refine (list88_any _ _ _ n (pbd N n) (numP n M odd) W (fun k hk w' hb => entry88_any g7 w.heap.size (g7 + 1) _ bm k n (pbd N n) odd M VA vc w' (HCm.out.below hb) (HCa.out.below hb) (HCo.out.below hb) (HM.out.below hb) hk (by omega) (by omega)) (by omega)).mono ?_
    rintro e w5 ⟨u, rfl, hL, hb⟩
    have K0 := K
    (refine ⟨_, rfl, Keep.stays _ _ K.out hb, ?_⟩; replace K := Lib.hid (Keep.stays _ _ K.out hb); simp only [Act.put, List.setIfInBounds_toArray, List.set_cons_zero, List.set_cons_succ])
    have HL := Lib.hid hL
    have HLB := Lib.hid (K0.out.lt (.tail _ (.tail _ (.head _))))
    obtain ⟨g, L, rfl, -⟩ := hL
    clear hb HCm HCo HCa
    (refine Ord.call 5 (g := 78) (args := (#[.slice VA n vc])) rfl (by kernel_rfl) (by rfl) (by (go_simp; try (with_reducible rfl))) ?_)
    refine (det_any _ n N A _ (H1.out.below K.out.B) hn hN hP).mono ?_
    rintro e w6 ⟨q, DA, dl, dc, rfl, hN6, hb⟩
    (refine ⟨_, rfl, Keep.stays _ _ K.out hb, ?_⟩; replace K := Lib.hid (Keep.stays _ _ K.out hb); simp only [Act.put, List.setIfInBounds_toArray, List.set_cons_zero, List.set_cons_succ])
    replace HL := Lib.hid (HL.out.below hb)
    have HN := Lib.hid hN6
    clear hb hN6
    (refine Ord.take' 6 rfl (by kernel_rfl) (fun _ _ _ _ h => h) K.out (by rfl) ?_; apply Exists.intro; refine ⟨fun p => ?_, ?_⟩; (focus (go_simp; (try (with_reducible rfl)); done)); (try simp only [Act.put, List.setIfInBounds_toArray, List.set_cons_zero, List.set_cons_succ]))
    (refine Ord.done (by kernel_rfl) ?_; simp only [List.drop_succ_cons, List.drop_zero, Act.put, List.setIfInBounds_toArray, List.set_cons_zero, List.set_cons_succ])
    obtain ⟨f1, c10, c11⟩ := K.out.nm (.tail _ (.tail _ (.head _)))
    go_wp2_with fail
    have K2 := Lib.hid (K.out.putn [_, _] q (.slice DA dl dc))
    refine ret_cnm Tryz.results58 rfl (K2.out.nb (.tail _ (.tail _ (.head _)))) ?_
    have hT := Turn.put w6 (w.heap.size + 1) 0 1 (.bool q) (.slice DA dl dc)
    exact ⟨.inr ⟨M, odd, _, q, DA, dl, dc, HS.out, rfl, (HL.out.turn hT HLB.out (fun k hk z => by injection hk with hk; rw [← hk, c10]; intro e; cases e)).lv, HN.out.put c10 _ _⟩, K2.out.B⟩

/-- Is a matrix above 0? -/
def defP (n : Nat) (A : Nat → Nat → Int) : Bool := decide (∀ i, i < n → (∀ j, j < i → A i j = A j i) ∧ 0 < detP (i + 1) A)
theorem defP_no {n i : Nat} {A : Nat → Nat → Int} (hi : i < n) (h : ¬ ((∀ j, j < i → A i j = A j i) ∧ 0 < detP (i + 1) A)) : defP n A = false := decide_eq_false (fun k => h (k i hi))

set_option maxHeartbeats 8000000 in
set_option maxRecDepth 100000 in
theorem definite_any (v : Value) (n N : Nat) (A : Nat → Nat → Int) (w : World) (h1 : Mv w v n n N A) (hn : n ≤ 11) (hN : 2 ≤ N) (hP : pbd N n ≤ 600000) :
    Calls Tryz.prog 57 #[v] w fun e w' => e = .returned (.bool (defP n A)) ∧ Below w.heap.size w w' := by
  have HDF : Hid (defP n A = decide (∀ i, i < n → (∀ j, j < i → A i j = A j i) ∧ 0 < detP (i + 1) A)) := rfl
  have HNO := Lib.hid (fun i hi h => defP_no (n := n) (A := A) (i := i) hi h)
  generalize defP n A = df at *
  have K := Lib.hid (Keep.begin1 w (.cells #[v] 26))
  have H1 := Lib.hid h1
  obtain ⟨VA, vc, rfl, -⟩ := h1
  have HNN := Lib.hid (Nat.le_trans hN (pbd_ge N n))
  have hN60 : N ≤ 600000 := Nat.le_trans (pbd_ge N n) hP
  go_enter Tryz.func57, Tryz.ntmps57
  go_upto_region 1 with fail
  (refine out_keep K.out ?_; clear K; intro W K; replace K := Lib.hid K)
  have ca := K.out.cell (k := 0) (.head _) rfl
  go_wp2_with fail
  clear ca
  go_loopg [8] n (fun gk iv wr => ∃ i : Nat, gk + i = n ∧ iv = .int .i64 (i : Int) ∧ (∀ r, r < i → (∀ j, j < r → A r j = A j r) ∧ 0 < detP (r + 1) A) ∧ Keep w [(w.heap.size, .cells #[.slice VA n vc] 26)] wr)
  case atStart => exact ⟨0, by omega, rfl, fun r hr => absurd hr (by omega), K.out⟩
  case round =>
    clear K
    obtain ⟨i, hgi, rfl, hall, k'⟩ := hrel
    have K := Lib.hid k'; have HALL := Lib.hid hall
    clear k' hall
    obtain rfl : gk = n - i := by omega
    by_cases hi : i < n
    · go_wp2_with fail
      go_loopg [12] i (fun g2 jv wr2 => ∃ j : Nat, g2 + j = i ∧ jv = .int .i64 (j : Int) ∧ (∀ c, c < j → A i c = A c i) ∧ Keep w [(w.heap.size, .cells #[.slice VA n vc] 26)] wr2)
      case atStart => exact ⟨0, by omega, rfl, fun c hc => absurd hc (by omega), K.out⟩
      case round =>
        clear K
        obtain ⟨j, hgj, rfl, hsy, k'⟩ := hrel
        have K := Lib.hid k'; have HSY := Lib.hid hsy
        clear k' hsy
        by_cases hj : j < i
        · obtain ⟨A', c', hv, -, hrows⟩ := H1.out
          cases hv
          obtain ⟨ba, B1, d1, rfl, hlt, r0, hL1⟩ := hrows i hi
          obtain ⟨bb, B2, d2, e2, hlt2, r1, hL2⟩ := hrows j (by omega)
          cases e2
          obtain ⟨b1, n1, C1, l1, k1, rfl, hb1, x0, x1, hz1⟩ := hL1.at j (by omega)
          obtain ⟨b2, n2, C2, l2, k2, rfl, hb2, y0, y1, hz2⟩ := hL2.at i hi
          have HZ := Lib.hid (And.intro hz1 hz2)
          have hjn : j < n := by omega
          clear hrows hL1 hL2 hz1 hz2
          go_upto_region 7 with fail
          (refine region_ord _ 16 (by kernel_rfl) (by kernel_rfl) K.out.drew ?_; clear K; intro W K hbw; replace K := Lib.hid K)
          clear hbw
          have X := Keep.acell (k := 0) K (.head _) rfl
          have R0 := Keep.far K hlt r0
          have R1 := Keep.far K hlt2 r1
          have X0 := Keep.far K hb1 x0
          have X1 := Keep.far K hb1 x1
          have Y0 := Keep.far K hb2 y0
          have Y1 := Keep.far K hb2 y1
          clear r0 r1 x0 x1 y0 y1
          (refine Ord.take' 0 rfl (by kernel_rfl) (fun _ _ _ _ h => h) K.out (by rfl) ?_; apply Exists.intro; refine ⟨fun p => ?_, ?_⟩; (focus (go_simp; (try (with_reducible rfl)); done)); (try simp only [Act.put, List.setIfInBounds_toArray, List.set_cons_zero, List.set_cons_succ]))
          (refine Ord.take' 1 rfl (by kernel_rfl) (fun _ _ _ _ h => h) K.out (by rfl) ?_; apply Exists.intro; refine ⟨fun p => ?_, ?_⟩; (focus (go_simp; (try (with_reducible rfl)); done)); (try simp only [Act.put, List.setIfInBounds_toArray, List.set_cons_zero, List.set_cons_succ]))
          (refine Ord.take' 2 rfl (by kernel_rfl) (fun _ _ _ _ h => h) K.out (by rfl) ?_; apply Exists.intro; refine ⟨fun p => ?_, ?_⟩; (focus (go_simp; (try (with_reducible rfl)); done)); (try simp only [Act.put, List.setIfInBounds_toArray, List.set_cons_zero, List.set_cons_succ]))
          (refine Ord.take' 3 rfl (by kernel_rfl) (fun _ _ _ _ h => h) K.out (by rfl) ?_; apply Exists.intro; refine ⟨fun p => ?_, ?_⟩; (focus (go_simp; (try (with_reducible rfl)); done)); (try simp only [Act.put, List.setIfInBounds_toArray, List.set_cons_zero, List.set_cons_succ]))
          (refine Ord.take' 4 rfl (by kernel_rfl) (fun _ _ _ _ h => h) K.out (by rfl) ?_; apply Exists.intro; refine ⟨fun p => ?_, ?_⟩; (focus (go_simp; (try (with_reducible rfl)); done)); (try simp only [Act.put, List.setIfInBounds_toArray, List.set_cons_zero, List.set_cons_succ]))
          (refine Ord.take' 5 rfl (by kernel_rfl) (fun _ _ _ _ h => h) K.out (by rfl) ?_; apply Exists.intro; refine ⟨fun p => ?_, ?_⟩; (focus (go_simp; (try (with_reducible rfl)); done)); (try simp only [Act.put, List.setIfInBounds_toArray, List.set_cons_zero, List.set_cons_succ]))
          (refine Ord.take' 6 rfl (by kernel_rfl) (fun _ _ _ _ h => h) K.out (by rfl) ?_; apply Exists.intro; refine ⟨fun p => ?_, ?_⟩; (focus (go_simp; (try (with_reducible rfl)); done)); (try simp only [Act.put, List.setIfInBounds_toArray, List.set_cons_zero, List.set_cons_succ]))
          (refine Ord.take' 7 rfl (by kernel_rfl) (fun _ _ _ _ h => h) K.out (by rfl) ?_; apply Exists.intro; refine ⟨fun p => ?_, ?_⟩; (focus (go_simp; (try (with_reducible rfl)); done)); (try simp only [Act.put, List.setIfInBounds_toArray, List.set_cons_zero, List.set_cons_succ]))
          (refine Ord.take' 8 rfl (by kernel_rfl) (fun _ _ _ _ h => h) K.out (by rfl) ?_; apply Exists.intro; refine ⟨fun p => ?_, ?_⟩; (focus (go_simp; (try (with_reducible rfl)); done)); (try simp only [Act.put, List.setIfInBounds_toArray, List.set_cons_zero, List.set_cons_succ]))
          (refine Ord.take' 9 rfl (by kernel_rfl) (fun _ _ _ _ h => h) K.out (by rfl) ?_; apply Exists.intro; refine ⟨fun p => ?_, ?_⟩; (focus (go_simp; (try (with_reducible rfl)); done)); (try simp only [Act.put, List.setIfInBounds_toArray, List.set_cons_zero, List.set_cons_succ]))
          (refine Ord.take' 10 rfl (by kernel_rfl) (fun _ _ _ _ h => h) K.out (by rfl) ?_; apply Exists.intro; refine ⟨fun p => ?_, ?_⟩; (focus (go_simp; (try (with_reducible rfl)); done)); (try simp only [Act.put, List.setIfInBounds_toArray, List.set_cons_zero, List.set_cons_succ]))
          (refine Ord.take' 11 rfl (by kernel_rfl) (fun _ _ _ _ h => h) K.out (by rfl) ?_; apply Exists.intro; refine ⟨fun p => ?_, ?_⟩; (focus (go_simp; (try (with_reducible rfl)); done)); (try simp only [Act.put, List.setIfInBounds_toArray, List.set_cons_zero, List.set_cons_succ]))
          (refine Ord.take' 12 rfl (by kernel_rfl) (fun _ _ _ _ h => h) K.out (by rfl) ?_; apply Exists.intro; refine ⟨fun p => ?_, ?_⟩; (focus (go_simp; (try (with_reducible rfl)); done)); (try simp only [Act.put, List.setIfInBounds_toArray, List.set_cons_zero, List.set_cons_succ]))
          (refine Ord.take' 13 rfl (by kernel_rfl) (fun _ _ _ _ h => h) K.out (by rfl) ?_; apply Exists.intro; refine ⟨fun p => ?_, ?_⟩; (focus (go_simp; (try (with_reducible rfl)); done)); (try simp only [Act.put, List.setIfInBounds_toArray, List.set_cons_zero, List.set_cons_succ]))
          clear X R0 R1 X0 X1 Y0 Y1
          (refine Ord.call 14 (g := 24) (args := (#[.agg #[.bool n1, .slice C1 l1 k1], .agg #[.bool n2, .slice C2 l2 k2]])) rfl (by kernel_rfl) (by rfl) (by (go_simp; try (with_reducible rfl))) ?_)
          refine (icmp_nz (HZ.out.1.below K.out.B) (HZ.out.2.below K.out.B) (by omega) (by omega)).mono ?_
          rintro e w6 ⟨rfl, hb⟩
          (refine ⟨_, rfl, Keep.stays _ _ K.out hb, ?_⟩; replace K := Lib.hid (Keep.stays _ _ K.out hb); simp only [Act.put, List.setIfInBounds_toArray, List.set_cons_zero, List.set_cons_succ])
          clear hb HZ
          generalize hsg : sgn (A i j - A j i) = sg
          have HSG := Lib.hid hsg
          clear hsg
          (refine Ord.take' 15 rfl (by kernel_rfl) (fun _ _ _ _ h => h) K.out (by rfl) ?_; apply Exists.intro; refine ⟨fun p => ?_, ?_⟩; (focus (go_simp; (try (with_reducible rfl)); done)); (try simp only [Act.put, List.setIfInBounds_toArray, List.set_cons_zero, List.set_cons_succ]))
          (refine Ord.done (by kernel_rfl) ?_; simp only [List.drop_succ_cons, List.drop_zero, Act.put, List.setIfInBounds_toArray, List.set_cons_zero, List.set_cons_succ])
          by_cases hs0 : sg = 0
          · subst hs0
            have HEQ : Hid (A i j = A j i) := by have := sgn_zero.1 HSG.out; show _ = _; omega
            go_wp2_with fail
            go_roundg (i - (j + 1))
            case measure => omega
            case rel =>
              refine ⟨j + 1, by omega, congrArg (Value.int .i64) (by omega), fun c hc => ?_, K.out⟩
              by_cases e : c = j
              · rw [e]; exact HEQ.out
              · exact HSY.out c (by omega)
          · have HF := Lib.hid (HNO.out i hi (fun h => hs0 (by rw [← HSG.out, h.1 j hj, Int.sub_self]; rfl)))
            go_wp2_with fail
            go_ret
            exact ⟨ret_bool HF.out.symm, K.out.B⟩
        · have ca := K.out.cell (k := 0) (.head _) rfl
          have HC : Hid (Cap wr w.heap.size (.slice VA n vc)) := Lib.hid ⟨K.out.lt (.head _), K.out.cell (k := 0) (.head _) rfl⟩
          have HPI : Hid (pbd N (i + 1) ≤ 600000) := Nat.le_trans (pbd_mono N (show i + 1 ≤ n from hi)) hP
          go_wp2_with fail
          rw [show ((i : Nat) : Int) + 1 = ((i + 1 : Nat) : Int) by omega]
          refine (made84_any w.heap.size _ n n N (i + 1) A _ HC.out (H1.out.below K.out.B) (by omega) (by omega) (by omega)).mono ?_
          rintro e w5 ⟨bm, rfl, hM, hb⟩
          replace K := Lib.hid (Keep.stays _ _ K.out hb)
          have HM := Lib.hid hM
          clear hb hM ca HC
          go_wp2_with fail
          refine (det_any _ (i + 1) N A _ HM.out (by omega) hN HPI.out).mono ?_
          rintro e w6 ⟨q, DA, dl, dc, rfl, hN6, hb⟩
          replace K := Lib.hid (Keep.stays _ _ K.out hb)
          have HN := Lib.hid hN6
          clear hb hN6 HM
          go_wp2_with fail
          refine (sign_nz HN.out).mono ?_
          rintro e w7 ⟨rfl, hb⟩
          replace K := Lib.hid (Keep.stays _ _ K.out hb)
          clear hb HN
          generalize hsg : sgn (detP (i + 1) A) = sg
          have HSG := Lib.hid hsg
          clear hsg
          by_cases hs0 : sg ≤ 0
          · have HF := Lib.hid (HNO.out i hi (fun h => by have := sgn_pos'.2 h.2; rw [HSG.out] at this; omega))
            go_wp2_with fail
            go_ret
            exact ⟨ret_bool HF.out.symm, K.out.B⟩
          · have HPO : Hid (0 < detP (i + 1) A) := sgn_pos'.1 (by rw [HSG.out]; omega)
            go_wp2_with fail
            go_roundg (n - (i + 1))
            case measure => omega
            case rel =>
              refine ⟨i + 1, by omega, congrArg (Value.int .i64) (by omega), fun r hr => ?_, K.out⟩
              by_cases e : r = i
              · rw [e]; exact ⟨fun c hc => HSY.out c (by omega), HPO.out⟩
              · exact HALL.out r (by omega)
    · have HF : Hid (df = true) := by show _ = _; rw [HDF.out]; exact decide_eq_true (fun r hr => HALL.out r (by omega))
      go_wp2_with fail
      go_ret
      exact ⟨ret_bool HF.out.symm, K.out.B⟩
end Go.Proofs.YtmidifgnpjlgcaaGreat
/- The walks of damping, nearest, Clone of numbers, damped. -/
set_option linter.unusedVariables false
set_option linter.unusedSimpArgs false
namespace Go.Proofs.YtmidifgnpjlgcaaGreat
open Go.RowKit

/-- A raise's damping. -/
def dampP (r : Nat) : Int := if r = 0 then 0 else 2 ^ (2 * (r - 1))
theorem dampP_in {r : Nat} (h : r ≤ 12) : 0 ≤ dampP r ∧ dampP r ≤ 4194304 := by
  unfold dampP
  rcases (show r = 0 ∨ r = 1 ∨ r = 2 ∨ r = 3 ∨ r = 4 ∨ r = 5 ∨ r = 6 ∨ r = 7 ∨ r = 8 ∨ r = 9 ∨ r = 10 ∨ r = 11 ∨ r = 12 by omega) with rfl | rfl | rfl | rfl | rfl | rfl | rfl | rfl | rfl | rfl | rfl | rfl | rfl <;> decide

variable {w0 w : World} {l l2 : List (Nat × Obj)}
set_option maxHeartbeats 4000000 in
set_option maxRecDepth 100000 in
theorem damping_any (rv pv qv cs ds : Value) (cn dn : Bool) (n : Nat) (rs : List Rw) (r : Nat) (w : World) (h : Gz w rv pv qv cn cs dn ds n rs) (hr : r ≤ 12) :
    Calls Tryz.prog 70 #[.agg #[.int .i64 n, rv, pv, qv, .bool cn, cs, .bool dn, ds], .int .i64 r] w (Told1 w 5 (dampP r)) := by
  obtain ⟨CA, cl, cc, rfl⟩ := h.2.2.1.2.2.sl
  obtain ⟨DA, dl, dc, rfl⟩ := h.2.2.2.1.sl
  have HG := Lib.hid h
  obtain ⟨RA, rc, rfl, -⟩ := h.1
  obtain ⟨PA, pc, rfl, -⟩ := h.2.2.1.1
  obtain ⟨QA, qc, rfl, -⟩ := h.2.2.1.2.1
  have HDP : Hid (dampP r = if r = 0 then 0 else 2 ^ (2 * (r - 1))) := rfl
  have HDI := Lib.hid (dampP_in hr)
  generalize dampP r = dp at *
  have K := Lib.hid (Keep.begin2 w (.cells #[.int .i64 n, .slice RA rs.length rc, .slice PA n pc, .slice QA n qc, .bool cn, .slice CA cl cc, .bool dn, .slice DA dl dc] 34) (Obj.num false (.slice none 0 0)))
  clear h
  go_enter Tryz.func70, Tryz.ntmps70
  go_upto_region 1 with fail
  (refine out_keep K.out ?_; clear K; intro W K; replace K := Lib.hid K)
  by_cases h0 : r = 0
  · subst h0
    obtain ⟨f1, c10, c11⟩ := K.out.nm (.head _)
    go_wp2_with fail
    refine ret_nm Tryz.results70 rfl ((K.out.putn_0 _ _).nb (.head _)) ?_
    exact ⟨false, none, 0, 0, rfl, ((Nz.nil _).more (by omega)).val HDP.out.symm, (K.out.putn_0 _ _).B⟩
  · obtain ⟨j, hj, hj2⟩ : ∃ j : Nat, 2 * ((r : Int) - 1) = (j : Int) ∧ j = 2 * (r - 1) := ⟨2 * (r - 1), by omega, rfl⟩
    have hr0 : ((r : Nat) : Int) ≠ 0 := by omega
    have hj22 : j ≤ 22 := by omega
    have HV : Hid (dp = 2 ^ j) := by show _ = _; rw [HDP.out, if_neg h0, hj2]
    have hpw : IntKind.i64.wrap (2 ^ j) = dp := by
      have := HDI.out
      rw [← HV.out]
      exact IntWalk.i64_in _ (by omega)
    have hw1 : IntKind.i64.wrap ((r : Int) - 1) = (r : Int) - 1 := IntWalk.i64_in _ (by omega)
    have hw2 : IntKind.i64.wrap (2 * ((r : Int) - 1)) = (j : Int) := by rw [hj]; exact IntWalk.i64_in _ (by omega)
    clear hj2 HDP hj
    go_upto_region 3 with fail
    (refine region_ord _ 8 (by kernel_rfl) (by kernel_rfl) K.out.drew ?_; clear K; intro W K hbw; replace K := Lib.hid K)
    clear hbw
    have x6 := Keep.acell (k := 6) K (.tail _ (.head _)) rfl
    have x7 := Keep.acell (k := 7) K (.tail _ (.head _)) rfl
    (refine Ord.take' 0 rfl (by kernel_rfl) (fun _ _ _ _ h => h) K.out (by rfl) ?_; apply Exists.intro; refine ⟨fun p => ?_, ?_⟩; (focus (go_simp; (try (with_reducible rfl)); done)); (try simp only [Act.put, List.setIfInBounds_toArray, List.set_cons_zero, List.set_cons_succ]))
    (refine Ord.take' 1 rfl (by kernel_rfl) (fun _ _ _ _ h => h) K.out (by rfl) ?_; apply Exists.intro; refine ⟨fun p => ?_, ?_⟩; (focus (go_simp; (try (with_reducible rfl)); done)); (try simp only [Act.put, List.setIfInBounds_toArray, List.set_cons_zero, List.set_cons_succ]))
    (refine Ord.take' 2 rfl (by kernel_rfl) (fun _ _ _ _ h => h) K.out (by rfl) ?_; apply Exists.intro; refine ⟨fun p => ?_, ?_⟩; (focus (go_simp; (try (with_reducible rfl)); done)); (try simp only [Act.put, List.setIfInBounds_toArray, List.set_cons_zero, List.set_cons_succ]))
    (refine Ord.take' 3 rfl (by kernel_rfl) (fun _ _ _ _ h => h) K.out (by rfl) ?_; apply Exists.intro; refine ⟨fun p => ?_, ?_⟩; (focus (go_simp; (try (with_reducible rfl)); done)); (try simp only [Act.put, List.setIfInBounds_toArray, List.set_cons_zero, List.set_cons_succ]))
    (refine Ord.take' 4 rfl (by kernel_rfl) (fun _ _ _ _ h => h) K.out (by rfl) ?_; apply Exists.intro; refine ⟨fun p => ?_, ?_⟩; (focus (go_simp; (try (with_reducible rfl)); done)); (try simp only [Act.put, List.setIfInBounds_toArray, List.set_cons_zero, List.set_cons_succ]))
    (refine Ord.take' 5 rfl (by kernel_rfl) (fun _ _ _ _ h => h) K.out (by rfl) ?_; apply Exists.intro; refine ⟨fun p => ?_, ?_⟩; (focus (go_simp; (try (with_reducible rfl)); done)); (try simp only [Act.put, List.setIfInBounds_toArray, List.set_cons_zero, List.set_cons_succ]))
    clear x6 x7 hw1 hw2 hpw hr0
    obtain ⟨d1, d2⟩ := HDI.out
    (refine Ord.call 6 (g := 19) (args := (#[.int .i64 dp])) rfl (by kernel_rfl) (by rfl) (by (go_simp; try (with_reducible rfl))) ?_)
    refine (int_nz dp _ (by omega) (by omega)).mono ?_
    rintro e w3 ⟨q3, A3, l3, k3, rfl, hN3, hb⟩
    (refine ⟨_, rfl, Keep.stays _ _ K.out hb, ?_⟩; replace K := Lib.hid (Keep.stays _ _ K.out hb); simp only [Act.put, List.setIfInBounds_toArray, List.set_cons_zero, List.set_cons_succ])
    clear hb
    (refine Ord.call 7 (g := 23) (args := (#[.agg #[.bool dn, .slice DA dl dc], .agg #[.bool q3, .slice A3 l3 k3]])) rfl (by kernel_rfl) (by rfl) (by (go_simp; try (with_reducible rfl))) ?_)
    refine (mul_nz (HG.out.2.2.2.1.below K.out.B) hN3 (by omega) (by omega)).mono ?_
    rintro e w4 ⟨q4, A4, l4, k4, rfl, hN4, hb⟩
    (refine ⟨_, rfl, Keep.stays _ _ K.out hb, ?_⟩; replace K := Lib.hid (Keep.stays _ _ K.out hb); simp only [Act.put, List.setIfInBounds_toArray, List.set_cons_zero, List.set_cons_succ])
    have H4 := Lib.hid (hN4.val (Int.one_mul dp))
    clear hb hN3 hN4
    (refine Ord.done (by kernel_rfl) ?_; simp only [List.drop_succ_cons, List.drop_zero, Act.put, List.setIfInBounds_toArray, List.set_cons_zero, List.set_cons_succ])
    obtain ⟨f1, c10, c11⟩ := K.out.nm (.head _)
    go_wp2_with fail
    refine ret_nm Tryz.results70 rfl ((K.out.putn_0 _ _).nb (.head _)) ?_
    exact ⟨q4, A4, l4, k4, rfl, H4.out.put (K.out.nm (.head _)).2.1 _ _, (K.out.putn_0 q4 (.slice A4 l4 k4)).B⟩

/-- The whole number that is nearest to a quotient, cut. -/
def nearP (num den : Int) : Int := max (-10000000) (min (Int.fdiv (num * 2 + den) (den * 2)) 10000000)
theorem near_small {z : Int} (h : smallB z = true) : max (-10000000) (min (smallV z) 10000000) = max (-10000000) (min z 10000000) := by
  have h2 := of_decide_eq_true h
  rw [(small_yes h2).1]
theorem near_big {z : Int} (h : smallB z = false) : max (-10000000) (min (10000000 * sgn z) 10000000) = max (-10000000) (min z 10000000) := by
  have h2 := of_decide_eq_false h
  unfold sgn
  split <;> (try split) <;> omega

set_option maxHeartbeats 4000000 in
set_option maxRecDepth 100000 in
theorem nearest_any {q p : Bool} {s t : Value} {num den : Int} {a b : Nat} (w : World) (h1 : Nz w q s num a) (h2 : Nz w p t den b) (l1 : a ≤ 300000) (l2 : b ≤ 300000) :
    Calls Tryz.prog 71 #[.agg #[.bool q, s], .agg #[.bool p, t]] w fun e w' => e = .returned (.int .i64 (nearP num den)) ∧ Below w.heap.size w w' := by
  obtain ⟨A, al, ac, rfl⟩ := h1.sl
  obtain ⟨B, bl, bc, rfl⟩ := h2.sl
  have HNP : Hid (nearP num den = max (-10000000) (min (Int.fdiv (num * 2 + den) (den * 2)) 10000000)) := rfl
  generalize nearP num den = np at *
  have K := Lib.hid (Keep.begin2 w (Obj.num q (.slice A al ac)) (Obj.num p (.slice B bl bc)))
  have H1 := Lib.hid h1; have H2 := Lib.hid h2
  clear h1 h2
  go_enter Tryz.func71, Tryz.ntmps71
  go_upto_region 1 with fail
  (refine out_keep K.out ?_; clear K; intro W K; replace K := Lib.hid K)
  (refine region_float2 _ 15 ⟨13, 5, Obj.num false (.slice none 0 0)⟩ ⟨14, 6, Obj.num false (.slice none 0 0)⟩ ([(0, 0), (0, 3), (0, 5), (2, 1), (2, 2), (2, 4), (2, 6), (2, 7), (2, 8), (1, 9), (1, 10), (1, 11), (1, 12)]) (by kernel_rfl) (by kernel_rfl) ⟨_, rfl, rfl, rfl, fun a w => rfl, fun md e he => by simp at he⟩ ⟨_, rfl, rfl, rfl, fun a w => rfl, fun md e he => by simp at he⟩ (by decide) (fun _ _ d _ _ => by cases d <;> exact Iff.rfl) Keep.stays K.out.drew ?_; clear K; intro W K hbw; replace K := Lib.hid K; have K0 := K)
  clear hbw
  obtain ⟨e10, e11⟩ := Keep.anm K (.tail _ (.head _))
  obtain ⟨e20, e21⟩ := Keep.anm K (.head _)
  (refine Ph.read rfl (by rfl) ?_; apply Exists.intro; refine ⟨fun p => ?_, ?_⟩; (focus (go_simp; (try (with_reducible rfl)); done)); (try simp only [Act.put, List.setIfInBounds_toArray, List.set_cons_zero, List.set_cons_succ]))
  (refine Ph.read rfl (by rfl) ?_; apply Exists.intro; refine ⟨fun p => ?_, ?_⟩; (focus (go_simp; (try (with_reducible rfl)); done)); (try simp only [Act.put, List.setIfInBounds_toArray, List.set_cons_zero, List.set_cons_succ]))
  (refine Ph.read rfl (by rfl) ?_; apply Exists.intro; refine ⟨fun p => ?_, ?_⟩; (focus (go_simp; (try (with_reducible rfl)); done)); (try simp only [Act.put, List.setIfInBounds_toArray, List.set_cons_zero, List.set_cons_succ]))
  clear e10 e11 e20 e21
  (refine Ph.call (f := 19) (args := (#[.int .i64 2])) rfl (by rfl) (by (intro w2; go_simp; try (with_reducible rfl))) ?_; intro w2 hb; replace K := Lib.hid (Keep.stays _ _ K.out hb))
  clear hb
  refine (int_nz 2 _ (by omega) (by omega)).mono ?_
  rintro e w3 ⟨q3, A3, l3, c3, rfl, hN3, hb⟩
  (refine ⟨_, rfl, hb, ?_⟩; replace K := Lib.hid (Keep.stays _ _ K.out hb); (try simp only [Act.put, List.setIfInBounds_toArray, List.set_cons_zero, List.set_cons_succ]))
  clear hb
  have HN3 := Lib.hid hN3
  clear hN3
  (refine Ph.call (f := 23) (args := (#[.agg #[.bool q, .slice A al ac], .agg #[.bool q3, .slice A3 l3 c3]])) rfl (by rfl) (by (intro w2; go_simp; try (with_reducible rfl))) ?_; intro w2 hb; replace K := Lib.hid (Keep.stays _ _ K.out hb))
  refine (mul_nz (H1.out.below K.out.B) (HN3.out.below hb) (by omega) (by omega)).mono ?_
  clear hb HN3
  rintro e w4 ⟨q4, A4, l4, c4, rfl, hN4, hb⟩
  (refine ⟨_, rfl, hb, ?_⟩; replace K := Lib.hid (Keep.stays _ _ K.out hb); (try simp only [Act.put, List.setIfInBounds_toArray, List.set_cons_zero, List.set_cons_succ]))
  have HN4 := Lib.hid hN4
  clear hb hN4
  (refine Ph.call (f := 43) (args := (#[.agg #[.bool q4, .slice A4 l4 c4], .agg #[.bool p, .slice B bl bc]])) rfl (by rfl) (by (intro w2; go_simp; try (with_reducible rfl))) ?_; intro w2 hb; replace K := Lib.hid (Keep.stays _ _ K.out hb))
  refine (add_nz (HN4.out.below hb) (H2.out.below K.out.B) (by omega) (by omega)).mono ?_
  clear hb HN4
  rintro e w5 ⟨q5, A5, l5, c5, rfl, hN5, hb⟩
  (refine ⟨_, rfl, hb, ?_⟩; replace K := Lib.hid (Keep.stays _ _ K.out hb); (try simp only [Act.put, List.setIfInBounds_toArray, List.set_cons_zero, List.set_cons_succ]))
  have HN5 := Lib.hid hN5
  clear hb hN5
  (refine Ph.call (f := 19) (args := (#[.int .i64 2])) rfl (by rfl) (by (intro w2; go_simp; try (with_reducible rfl))) ?_; intro w2 hb; replace K := Lib.hid (Keep.stays _ _ K.out hb))
  replace HN5 := Lib.hid (HN5.out.below hb)
  clear hb
  refine (int_nz 2 _ (by omega) (by omega)).mono ?_
  rintro e w6 ⟨q6, A6, l6, c6, rfl, hN6, hb⟩
  (refine ⟨_, rfl, hb, ?_⟩; replace K := Lib.hid (Keep.stays _ _ K.out hb); (try simp only [Act.put, List.setIfInBounds_toArray, List.set_cons_zero, List.set_cons_succ]))
  replace HN5 := Lib.hid (HN5.out.below hb)
  have HN6 := Lib.hid hN6
  clear hb hN6
  (refine Ph.call (f := 23) (args := (#[.agg #[.bool p, .slice B bl bc], .agg #[.bool q6, .slice A6 l6 c6]])) rfl (by rfl) (by (intro w2; go_simp; try (with_reducible rfl))) ?_; intro w2 hb; replace K := Lib.hid (Keep.stays _ _ K.out hb))
  replace HN5 := Lib.hid (HN5.out.below hb)
  refine (mul_nz (H2.out.below K.out.B) (HN6.out.below hb) (by omega) (by omega)).mono ?_
  clear hb HN6
  rintro e w7 ⟨q7, A7, l7, c7, rfl, hN7, hb⟩
  (refine ⟨_, rfl, hb, ?_⟩; replace K := Lib.hid (Keep.stays _ _ K.out hb); (try simp only [Act.put, List.setIfInBounds_toArray, List.set_cons_zero, List.set_cons_succ]))
  replace HN5 := Lib.hid (HN5.out.below hb)
  have HN7 := Lib.hid hN7
  clear hb hN7
  (refine Ph.call (f := 80) (args := (#[.agg #[.bool q5, .slice A5 l5 c5], .agg #[.bool q7, .slice A7 l7 c7]])) rfl (by rfl) (by (intro w2; go_simp; try (with_reducible rfl))) ?_; intro w2 hb; replace K := Lib.hid (Keep.stays _ _ K.out hb))
  refine (quo_nz (HN5.out.below hb) (HN7.out.below hb) (by omega) (by omega)).mono ?_
  clear hb HN5 HN7
  rintro e w8 ⟨q8, A8, l8, c8, rn, RA, rl, rcc, e8, u8, rfl, hN8, -, hb⟩
  (refine ⟨_, rfl, hb, ?_⟩; replace K := Lib.hid (Keep.stays _ _ K.out hb); (try simp only [Act.put, List.setIfInBounds_toArray, List.set_cons_zero, List.set_cons_succ]))
  have HN := Lib.hid hN8
  clear hb hN8
  (refine Ph.pure rfl (by rfl) ?_; apply Exists.intro; refine ⟨fun w => ?_, ?_⟩; (focus (go_simp; (try (with_reducible rfl)); done)); (try simp only [Act.put, List.setIfInBounds_toArray, List.set_cons_zero, List.set_cons_succ]))
  (refine Ph.pure rfl (by rfl) ?_; apply Exists.intro; refine ⟨fun w => ?_, ?_⟩; (focus (go_simp; (try (with_reducible rfl)); done)); (try simp only [Act.put, List.setIfInBounds_toArray, List.set_cons_zero, List.set_cons_succ]))
  (refine Ph.pure rfl (by rfl) ?_; apply Exists.intro; refine ⟨fun w => ?_, ?_⟩; (focus (go_simp; (try (with_reducible rfl)); done)); (try simp only [Act.put, List.setIfInBounds_toArray, List.set_cons_zero, List.set_cons_succ]))
  (refine Ph.pure rfl (by rfl) ?_; apply Exists.intro; refine ⟨fun w => ?_, ?_⟩; (focus (go_simp; (try (with_reducible rfl)); done)); (try simp only [Act.put, List.setIfInBounds_toArray, List.set_cons_zero, List.set_cons_succ]))
  (intro w2 hb g5 g6 hg hk hge hke hgk; replace K := Lib.hid (K0.out.held2 (Keep.stays _ _ K.out hb) hg hk hge hke hgk); clear hg hk hge hke K0; have hkg := Ne.symm hgk; simp only [ptr, List.drop_succ_cons, List.drop_zero, Act.put, List.setIfInBounds_toArray, List.set_cons_zero, List.set_cons_succ])
  replace HN := Lib.hid (HN.out.below hb)
  clear hb
  obtain ⟨f1, c10, c11⟩ := K.out.nm (.head _)
  obtain ⟨f2, c20, c21⟩ := K.out.nm (.tail _ (.head _))
  go_upto_region 2 with fail
  refine out_with (B := fun W => Nz W q8 (.slice A8 l8 c8) ((num * 2 + den).fdiv (den * 2)) (max (a + 2 + 1) b + 1 + 3)) ((K.out.putn_1 q8 (.slice A8 l8 c8)).putn_0 rn (.slice RA rl rcc)) ((HN.out.put (K.out.nm (.tail _ (.head _))).2.1 _ _).put ((K.out.putn_1 q8 (.slice A8 l8 c8)).nm (.head _)).2.1 _ _) ?_
  clear K HN f1 c10 c11 f2 c20 c21
  intro W2 K HN
  replace K := Lib.hid K
  replace HN := Lib.hid HN
  obtain ⟨f1, c10, c11⟩ := K.out.nm (.tail _ (.head _))
  generalize Int.fdiv (num * 2 + den) (den * 2) = z at *
  go_wp2_with fail
  refine (small_nz HN.out (by omega)).mono ?_
  rintro e w9 ⟨rfl, hb⟩
  replace K := Lib.hid (Keep.stays _ _ K.out hb)
  replace HN := Lib.hid (HN.out.below hb)
  clear hb f1 c10 c11
  cases hs : smallB z
  · have HBG : Hid (np = max (-10000000) (min (10000000 * sgn z) 10000000)) := by show _ = _; rw [HNP.out, near_big hs]
    clear hs
    obtain ⟨f1, c10, c11⟩ := K.out.nm (.tail _ (.head _))
    go_wp2_with fail
    refine (sign_nz HN.out).mono ?_
    rintro e w10 ⟨rfl, hb⟩
    replace K := Lib.hid (Keep.stays _ _ K.out hb)
    clear hb f1 c10 c11
    have hsg : -1 ≤ sgn z ∧ sgn z ≤ 1 := by unfold sgn; split <;> (try split) <;> omega
    obtain ⟨sg1, sg2⟩ := hsg
    generalize sgn z = sg at *
    have hw : IntKind.i64.wrap (10000000 * sg) = 10000000 * sg := IntWalk.i64_in _ (by omega)
    go_wp2_with fail
    go_ret
    exact ⟨ret_int HBG.out.symm, K.out.B⟩
  · have HBG : Hid (np = max (-10000000) (min (smallV z) 10000000)) := by show _ = _; rw [HNP.out, near_small hs]
    clear hs
    obtain ⟨v1, v2⟩ := smallV_in z
    generalize smallV z = sv at *
    go_wp2_with fail
    go_ret
    exact ⟨ret_int HBG.out.symm, K.out.B⟩
end Go.Proofs.YtmidifgnpjlgcaaGreat
/- The walks of Clone of numbers, damped. -/
set_option linter.unusedVariables false
set_option linter.unusedSimpArgs false
namespace Go.Proofs.YtmidifgnpjlgcaaGreat
open Go.RowKit

theorem Lv.list {w : World} {v : Value} {m N : Nat} {f : Nat → Int} (h : Lv w v m N f) : ∃ A c L, v = .slice A m c ∧ (A = none → c = 0) ∧ L.length = m ∧ Els w L N f ∧ ∀ j (hj : j < L.length), ∃ b, A = some ⟨b, 0, none⟩ ∧ b < w.heap.size ∧ w.cell? ⟨b, j * 2, none⟩ = some (.bool L[j].n) ∧ w.cell? ⟨b, j * 2 + 1, none⟩ = some (.slice L[j].A L[j].l L[j].c) := by
  obtain ⟨A, c, rfl, h0, hat⟩ := h
  have key : ∀ i, i ≤ m → ∃ L : List Nm, L.length = i ∧ Els w L N f ∧ ∀ j (hj : j < L.length), ∃ b, A = some ⟨b, 0, none⟩ ∧ b < w.heap.size ∧ w.cell? ⟨b, j * 2, none⟩ = some (.bool L[j].n) ∧ w.cell? ⟨b, j * 2 + 1, none⟩ = some (.slice L[j].A L[j].l L[j].c) := by
    intro i
    induction i with
    | zero => intro _; exact ⟨[], rfl, Els.nil _ _ _, fun j hj => absurd hj (by simp)⟩
    | succ i ih =>
      intro hi
      obtain ⟨L, hl, he, hc⟩ := ih (by omega)
      obtain ⟨b, n, B, l, d, hA, hlt, c0, c1, hN⟩ := hat i (by omega)
      refine ⟨L ++ [⟨n, B, l, d⟩], by simp [hl], he.snoc _ (by rw [hl]; exact hN), fun j hj => ?_⟩
      by_cases e : j < L.length
      · have e2 : (L ++ [(⟨n, B, l, d⟩ : Nm)])[j]'hj = L[j] := List.getElem_append_left e
        rw [e2]
        exact hc j e
      · have e3 : j = L.length := by simp at hj; omega
        subst e3
        have e2 : (L ++ [(⟨n, B, l, d⟩ : Nm)])[L.length]'hj = ⟨n, B, l, d⟩ := by simp
        rw [e2, hl]
        exact ⟨b, hA, hlt, c0, c1⟩
  obtain ⟨L, hl, he, hc⟩ := key m (Nat.le_refl _)
  exact ⟨A, c, L, rfl, h0, hl, he, hc⟩
theorem flat_cells {L : List Nm} {w : World} {b : Nat} (h : ∀ j (hj : j < L.length), w.cell? ⟨b, j * 2, none⟩ = some (.bool L[j].n) ∧ w.cell? ⟨b, j * 2 + 1, none⟩ = some (.slice L[j].A L[j].l L[j].c)) : ∀ k, k < L.length * 2 → w.cell? ⟨b, k, none⟩ = (flat L)[k]? := by
  intro k hk
  obtain ⟨j, hj⟩ : ∃ j, k = j * 2 ∨ k = j * 2 + 1 := ⟨k / 2, by omega⟩
  have hj2 : j < L.length := by omega
  rcases hj with rfl | rfl
  · rw [(h j hj2).1, flat_get0 L j hj2]
  · rw [(h j hj2).2, flat_get1 L j hj2]

theorem flat_one : ∀ (L : List Nm) (u : Value), u ∈ flat L → u.oneCell' = true
  | [], u, h => by cases h
  | x :: L, u, h => by
    rcases List.mem_cons.1 h with rfl | h
    · rfl
    · rcases List.mem_cons.1 h with rfl | h
      · rfl
      · exact flat_one L u h

/-- A copy of numbers. -/
theorem app3l {ops : Array Oper} {rest : List Oper} {o : Oper} {a : Act} {Q : Exit → Act → World → Prop} {w : World} (hgd : o.guard = none) (s x : Operand)
    (ho : o.op = .call { callee := .builtin .append, args := #[s, x], argTypes := #[27, 27] }) (r : Value) (m N : Nat) (f : Nat → Int) (hs : a.eval s = .slice (some ⟨w.heap.size, 0, none⟩) 0 0) (hx : a.eval x = r) (hr : Lv w r m N f) (hlen : m ≤ 1000000) (h0 : 0 < m)
    (h : ∀ v' w' L, Lwn w' w.heap.size v' L → L.length = m → Els w' L N f → Below w.heap.size w w' → wpList Tryz.prog ops Q rest (a.put o.dst v') w') :
    wpList Tryz.prog ops Q (o :: rest) a (w.alloc (.cells #[] 30)) := by
  obtain ⟨i0, hi, hx0⟩ := Option.map_eq_some_iff.1 info30
  simp only [Prod.mk.injEq] at hx0
  obtain ⟨hz0, hz1, hz2⟩ := hx0
  have hown : (w.alloc (.cells #[] 30)).ownsRow w.heap.size 30 2 (.slice (some ⟨w.heap.size, 0, none⟩) 0 0) 0 [] :=
    ⟨rfl, .inr ⟨w.heap.size, 0, #[], rfl, Nat.le_refl _, by show (w.heap.push _)[w.heap.size]? = _; exact Array.getElem?_push_size, Nat.le_refl _, by unfold maxLen; omega, rfl, rfl⟩⟩
  have hnew : (w.alloc (.cells #[] 30)).heap[w.heap.size]? = some (.cells #[] 30) := by show (w.heap.push _)[w.heap.size]? = _; exact Array.getElem?_push_size
  obtain ⟨P, c, L, rfl, hnone, hl, he, hcell⟩ := hr.list
  have hbe := below_one w (.cells #[] 30)
  have hm : 0 < L.length := by omega
  obtain ⟨b, rfl, hlt, -⟩ := hcell 0 hm
  have hcells : ∀ k, k < L.length * 2 → w.cell? ⟨b, k, none⟩ = (flat L)[k]? := flat_cells (fun j hj => by
    obtain ⟨b', hb', -, h1, h2⟩ := hcell j hj
    injection hb' with hb'
    injection hb' with hb'
    rw [hb']
    exact ⟨h1, h2⟩)
  refine wpList_append_own _ hgd s x 27 ho w.heap.size 30 i0 (.agg #[.bool false, .slice none 0 0]) 2 32 Tryz.underlying27 hi hz0 hz1 hz2 (by rfl) (by decide) _ 0 _ hs hown ⟨b, 0, none⟩ m c (flat L) hx (by rw [flat_length, hl]) ?_ ?_ (by unfold maxLen; omega) (by omega) (by simp) ?_
  · intro j u hu
    have hj : j < L.length * 2 := by
      rw [← flat_length]
      exact (List.getElem?_eq_some_iff.1 hu).1
    have e : ((⟨b, 0, none⟩ : Addr).add j) = ⟨b, j, none⟩ := by unfold Addr.add; split <;> simp_all
    rw [e, hbe.cell (p := ⟨b, j, none⟩) hlt, hcells j hj]
    exact hu
  · intro u hu
    exact flat_one L u hu
  · intro v' w' hown' hgrow _
    have hg : ∀ k, k < w.heap.size → w'.heap[k]? = (w.alloc (.cells #[] 30)).heap[k]? := fun k hk => hgrow.block k (by simp; omega) (fun e => by simp [Value.ownBlock] at e; omega)
    have hb2 : Below w.heap.size w w' := ⟨hgrow.os, hgrow.tape, hgrow.output, Nat.le_trans hbe.size hgrow.size, fun k hk => (hg k hk).trans (hbe.block k hk)⟩
    rw [Nat.zero_add] at hown'
    refine h v' w' L ⟨by rw [hl]; exact hown', fun k hk z => ?_⟩ hl (he.below hb2) hb2
    rcases hown'.2 with ⟨rfl, _⟩ | ⟨g, cap, cur, rfl, hb, hh, hn, _, hcur, htake⟩
    · simp [Value.ownBlock] at hk
    · have hgk : g = k := by simpa [Value.ownBlock] using hk
      subst hgk
      have hc : w'.cell? ⟨g, 0, none⟩ = (flat L)[0]? := by
        have e2 : (cur.toList.take (m * 2))[0]? = (flat L)[0]? := by rw [htake]; rfl
        rw [List.getElem?_take, if_pos (by omega), Array.getElem?_toList] at e2
        rw [cellOf hh, e2]
      rw [hc, show (0 : Nat) = 0 * 2 by rfl, flat_get0 L 0 hm]
      intro e; cases e
theorem some27 (p : Addr) (n c : Nat) : ∀ w : World, Sem.run Tryz.prog (binOp BinOp.eql 27 (Value.slice (some p) n c) (Value.slice none 0 0)) w = .ok (.bool false) w := fun _ => by kernel_rfl
attribute [go_sem] some27

set_option maxHeartbeats 1000000 in
set_option maxRecDepth 100000 in
theorem clone98_any (v : Value) (m N : Nat) (f : Nat → Int) (w : World) (h : Lv w v m N f) (h0 : 0 < m) (hm : m ≤ 1000000) :
    Calls Tryz.prog 98 #[v] w fun e w' => ∃ u L, e = .returned u ∧ Lwn w' w.heap.size u L ∧ L.length = m ∧ Els w' L N f ∧ Below w.heap.size w w' := by
  have H := Lib.hid h
  have HB := Lib.hid (Below.refl w.heap.size w)
  obtain ⟨A, c, rfl, -, hat⟩ := h
  obtain ⟨b, -, -, -, -, rfl, -⟩ := hat 0 h0
  clear hat
  go_enter Tryz.func98, Tryz.ntmps98
  go_wp2_with (at_builtin; refine app3l rfl (.tmp 5) (.tmp 6) rfl _ m N f rfl rfl H.out hm h0 ?_; intro v' w' L hown' hl' he' hb')
  have Y := Lib.hid (And.intro hown' (And.intro hl' (And.intro he' hb')))
  clear hown' hl' he' hb'
  go_wp2_with fail
  go_ret
  exact ⟨_, L, rfl, Y.out.1, Y.out.2.1, Y.out.2.2.1, Y.out.2.2.2⟩

/-- Numbers in a block, and what lies behind. -/
def Obj.lstt (L : List Nm) (rest : List Value) : Obj := .cells (flat L ++ rest).toArray 30
theorem Lwn.row {w : World} {base : Nat} {v : Value} {L : List Nm} (h : Lwn w base v L) : (v = .slice none 0 0 ∧ L = []) ∨ ∃ g c rest, v = .slice (some ⟨g, 0, none⟩) L.length c ∧ base ≤ g ∧ w.heap[g]? = some (Obj.lstt L rest) ∧ L.length ≤ c ∧ c ≤ maxLen ∧ (flat L ++ rest).length = c * 2 := by
  rcases h.1.2 with ⟨rfl, h0⟩ | ⟨g, cap, cur, rfl, hb, hh, hn, hm, hcur, htake⟩
  · exact .inl ⟨rfl, List.length_eq_zero_iff.1 h0⟩
  · refine .inr ⟨g, cap, cur.toList.drop (L.length * 2), rfl, hb, ?_, hn, hm, ?_⟩
    · rw [hh]
      unfold Obj.lstt
      rw [← htake, List.take_append_drop]
    · rw [← htake, List.take_append_drop, Array.length_toList, hcur]
theorem Lwn.of {w : World} {base g c : Nat} {L : List Nm} {rest : List Value} (hb : base ≤ g) (hh : w.heap[g]? = some (Obj.lstt L rest)) (hn : L.length ≤ c) (hm : c ≤ maxLen) (hcur : (flat L ++ rest).length = c * 2) (h0 : 0 < L.length) : Lwn w base (.slice (some ⟨g, 0, none⟩) L.length c) L := by
  refine ⟨⟨by rw [flat_length], .inr ⟨g, c, _, rfl, hb, hh, hn, hm, by simpa using hcur, ?_⟩⟩, fun k hk z => ?_⟩
  · rw [List.take_left' (by rw [flat_length])]
  · have : g = k := by simpa [Value.ownBlock] using hk
    subst this
    rw [cellOf hh, List.getElem?_toArray, List.getElem?_append_left (by rw [flat_length]; omega), show (0 : Nat) = 0 * 2 by rfl, flat_get0 L 0 h0]
    intro e; cases e
theorem Keep.lttc {w0 w : World} {l : List (Nat × Obj)} {b : Nat} {L : List Nm} {rest : List Value} (K : Keep w0 l w) (m : (b, Obj.lstt L rest) ∈ l) (j : Nat) (hj : j < L.length) : w.cell? ⟨b, j * 2, none⟩ = some (.bool L[j].n) ∧ w.cell? ⟨b, j * 2 + 1, none⟩ = some (.slice L[j].A L[j].l L[j].c) :=
  ⟨K.cell m (by rw [List.getElem?_toArray, List.getElem?_append_left (by rw [flat_length]; omega)]; exact flat_get0 L j hj), K.cell m (by rw [List.getElem?_toArray, List.getElem?_append_left (by rw [flat_length]; omega)]; exact flat_get1 L j hj)⟩
theorem Keep.setlt {w0 w : World} {l2 : List (Nat × Obj)} {b : Nat} {L : List Nm} {rest : List Value} (l1 : List (Nat × Obj)) (K : Keep w0 (l1 ++ (b, Obj.lstt L rest) :: l2) w) (j : Nat) (hj : j < L.length) (x : Nm) : Keep w0 (l1 ++ (b, Obj.lstt (L.set j x) rest) :: l2) ((w.setCell ⟨b, j * 2, none⟩ (.bool x.n)).setCell ⟨b, j * 2 + 1, none⟩ (.slice x.A x.l x.c)) := by
  have := (K.set l1 (j * 2) (.bool x.n)).set l1 (j * 2 + 1) (.slice x.A x.l x.c)
  have e : ((flat L ++ rest).toArray.setIfInBounds (j * 2) (.bool x.n)).setIfInBounds (j * 2 + 1) (.slice x.A x.l x.c) = (flat (L.set j x) ++ rest).toArray := by
    rw [List.setIfInBounds_toArray, List.setIfInBounds_toArray, List.set_append, if_pos (by rw [flat_length]; omega), List.set_append, if_pos (by rw [List.length_set, flat_length]; omega), flat_set]
  rw [e] at this
  exact this
theorem below_put {B : Nat} {w w' : World} (h : Below B w w') {g : Nat} (hg : B ≤ g) (i j : Nat) (u v : Value) : Below B w ((w'.setCell ⟨g, i, none⟩ u).setCell ⟨g, j, none⟩ v) := by
  have hT := Turn.put w' g i j u v
  refine ⟨h.os, h.tape, h.output, Nat.le_trans h.size hT.1, fun k hk => ?_⟩
  by_cases hlt : k < w'.heap.size
  · rw [hT.2 k hlt (fun e => by injection e; omega)]; exact h.block k hk
  · rw [← h.block k hk]
    have e1 : w'.heap[k]? = none := by rw [Array.getElem?_eq_none (by omega)]
    rw [e1, Array.getElem?_eq_none (by simp [World.setCell]; omega)]

variable {w0 w : World} {l l2 : List (Nat × Obj)}
/-- A matrix with more on its diagonal. -/
def damF (more : Int) (f : Nat → Nat → Int) (i j : Nat) : Int := if j = i then f i i + more else f i j

set_option maxHeartbeats 8000000 in
set_option maxRecDepth 100000 in
theorem damped_any (v : Value) (n N M : Nat) (f : Nat → Nat → Int) (q : Bool) (s : Value) (more : Int) (w : World) (h : Mv w v n n N f) (hm : Nz w q s more M) (hn : n ≤ 11) (hN : N ≤ 900000) (hM : M ≤ 900000) :
    Calls Tryz.prog 68 #[v, .agg #[.bool q, s]] w fun e w' => ∃ u, e = .returned u ∧ Mo27 w' u n (max N M + 1) (damF more f) ∧ Below w.heap.size w w' := by
  obtain ⟨SA, sl, sc, rfl⟩ := hm.sl
  have K := Lib.hid (Keep.begin1 w (Obj.num q (.slice SA sl sc)))
  have H := Lib.hid h; have HM := Lib.hid hm
  obtain ⟨VA, vc, rfl, -, hrows⟩ := h
  have HR := Lib.hid hrows
  have hsz := Lib.hid (Nat.succ_le_of_lt (K.out.lt (.head _)))
  clear hm hrows
  go_enter Tryz.func68, Tryz.ntmps68
  go_upto_region 2 with fail
  go_wp2_with fail
  go_loopg [5, 10] n (fun gk ov iv wr => ∃ (i : Nat) (vs : List Value), gk + i = n ∧ iv = .int .i64 (i : Int) ∧ Swn wr (w.heap.size + 1) 27 ov vs ∧ vs.length = i ∧ All vs (fun i x => Lr wr x n (max N M + 1) (damF more f i)) ∧ Keep w [(w.heap.size, Obj.num q (.slice SA sl sc))] wr ∧ w.heap.size + 1 ≤ wr.heap.size)
  case atStart => exact ⟨0, [], by omega, rfl, Swn.nil _ _ _, rfl, All.nil _, K.out, hsz.out⟩
  case round =>
    clear K hsz
    rename World => wo
    obtain ⟨i, vs, hgi, rfl, hown, hvl, hall, k', hsz'⟩ := hrel
    have HO := Lib.hid (And.intro hown (And.intro hvl hall))
    have K := Lib.hid k'
    have hsz := Lib.hid hsz'
    clear hown hvl hall k' hsz'
    by_cases hi : i < n
    · obtain ⟨b, B, d, rfl, hlt, r0, hL⟩ := HR.out i hi
      have R0 := kept_cell K.out hlt r0
      have HL := Lib.hid hL
      clear r0 hL
      go_wp2_with fail
      refine (clone98_any _ n N (f i) _ (HL.out.below K.out.B) (by omega) (by omega)).mono ?_
      rintro e w2 ⟨u, L, rfl, hw, hll, he, hb⟩
      rcases hw.row with ⟨rfl, rfl⟩ | ⟨g, c, rest, rfl, hg, hrow, k1, k2, k3⟩
      · simp at hll; omega
      · have K0 := K
        have HBB := Lib.hid hb
        replace K := Lib.hid (Keep.held K0.out (Keep.stays _ _ K.out hb) hrow hg)
        have HC := Lib.hid (And.intro k1 (And.intro k2 k3))
        have HE := Lib.hid he
        have HG := Lib.hid hg
        rw [hll] at k1 ⊢
        have HLL := Lib.hid hll
        have hiL : i < L.length := by omega
        clear hb hw hrow hg k1 k2 k3 he hll R0 K0
        have HNI := Lib.hid (HE.out i hiL)
        go_upto_region 6 with fail
        (refine region_ord _ 8 (by kernel_rfl) (by kernel_rfl) K.out.drew ?_; clear K; intro W K hbw; replace K := Lib.hid K)
        replace HBB := Lib.hid (Below.onto HBB.out hbw)
        replace HE := Lib.hid (HE.out.below hbw)
        replace HNI := Lib.hid (HNI.out.below hbw)
        clear hbw
        obtain ⟨x0, x1⟩ := Keep.anm K (.tail _ (.head _))
        have y0 : ∀ p : At (Keep w [(g, Obj.lstt L rest), (w.heap.size, Obj.num q (.slice SA sl sc))]), p.w.cell? ⟨g, i * 2, none⟩ = some (.bool L[i].n) := fun p => (p.h.lttc (.head _) i hiL).1
        have y1 : ∀ p : At (Keep w [(g, Obj.lstt L rest), (w.heap.size, Obj.num q (.slice SA sl sc))]), p.w.cell? ⟨g, i * 2 + 1, none⟩ = some (.slice L[i].A L[i].l L[i].c) := fun p => (p.h.lttc (.head _) i hiL).2
        generalize L[i].n = n1 at *
        generalize L[i].A = A1 at *
        generalize L[i].l = l1 at *
        generalize L[i].c = c1 at *
        (refine Ord.take' 0 rfl (by kernel_rfl) (fun _ _ _ _ h => h) K.out (by rfl) ?_; apply Exists.intro; refine ⟨fun p => ?_, ?_⟩; (focus (go_simp; (try (with_reducible rfl)); done)); (try simp only [Act.put, List.setIfInBounds_toArray, List.set_cons_zero, List.set_cons_succ]))
        (refine Ord.take' 1 rfl (by kernel_rfl) (fun _ _ _ _ h => h) K.out (by rfl) ?_; apply Exists.intro; refine ⟨fun p => ?_, ?_⟩; (focus (go_simp; (try (with_reducible rfl)); done)); (try simp only [Act.put, List.setIfInBounds_toArray, List.set_cons_zero, List.set_cons_succ]))
        (refine Ord.take' 2 rfl (by kernel_rfl) (fun _ _ _ _ h => h) K.out (by rfl) ?_; apply Exists.intro; refine ⟨fun p => ?_, ?_⟩; (focus (go_simp; (try (with_reducible rfl)); done)); (try simp only [Act.put, List.setIfInBounds_toArray, List.set_cons_zero, List.set_cons_succ]))
        (refine Ord.take' 3 rfl (by kernel_rfl) (fun _ _ _ _ h => h) K.out (by rfl) ?_; apply Exists.intro; refine ⟨fun p => ?_, ?_⟩; (focus (go_simp; (try (with_reducible rfl)); done)); (try simp only [Act.put, List.setIfInBounds_toArray, List.set_cons_zero, List.set_cons_succ]))
        (refine Ord.take' 4 rfl (by kernel_rfl) (fun _ _ _ _ h => h) K.out (by rfl) ?_; apply Exists.intro; refine ⟨fun p => ?_, ?_⟩; (focus (go_simp; (try (with_reducible rfl)); done)); (try simp only [Act.put, List.setIfInBounds_toArray, List.set_cons_zero, List.set_cons_succ]))
        (refine Ord.take' 5 rfl (by kernel_rfl) (fun _ _ _ _ h => h) K.out (by rfl) ?_; apply Exists.intro; refine ⟨fun p => ?_, ?_⟩; (focus (go_simp; (try (with_reducible rfl)); done)); (try simp only [Act.put, List.setIfInBounds_toArray, List.set_cons_zero, List.set_cons_succ]))
        (refine Ord.take' 6 rfl (by kernel_rfl) (fun _ _ _ _ h => h) K.out (by rfl) ?_; apply Exists.intro; refine ⟨fun p => ?_, ?_⟩; (focus (go_simp; (try (with_reducible rfl)); done)); (try simp only [Act.put, List.setIfInBounds_toArray, List.set_cons_zero, List.set_cons_succ]))
        clear x0 x1 y0 y1
        (refine Ord.call 7 (g := 43) (args := (#[.agg #[.bool n1, .slice A1 l1 c1], .agg #[.bool q, .slice SA sl sc]])) rfl (by kernel_rfl) (by rfl) (by (go_simp; try (with_reducible rfl))) ?_)
        refine (add_nz HNI.out (HM.out.below K.out.B) hN hM).mono ?_
        rintro e w5 ⟨q5, A5, l5, c5, rfl, hN5, hb⟩
        (refine ⟨_, rfl, Keep.stays _ _ K.out hb, ?_⟩; replace K := Lib.hid (Keep.stays _ _ K.out hb); simp only [Act.put, List.setIfInBounds_toArray, List.set_cons_zero, List.set_cons_succ])
        replace HBB := Lib.hid (Below.onto HBB.out hb)
        replace HE := Lib.hid (HE.out.below hb)
        have H5 := Lib.hid hN5
        clear hb hN5 HNI
        (refine Ord.done (by kernel_rfl) ?_; simp only [List.drop_succ_cons, List.drop_zero, Act.put, List.setIfInBounds_toArray, List.set_cons_zero, List.set_cons_succ])
        obtain ⟨z0, z1⟩ := K.out.lttc (.head _) i hiL
        have c00 := (K.out.lttc (.head _) 0 (by omega)).1
        have f1 := fun o => K.out.warm (.head _) o
        go_upto_region 7 with fail
        clear z0 z1 f1
        have HB2 := Lib.hid (below_put HBB.out HG.out (i * 2) (i * 2 + 1) (.bool q5) (.slice A5 l5 c5))
        have K2 := Lib.hid (K.out.setlt [] i hiL ⟨q5, A5, l5, c5⟩)
        have HE2 := Lib.hid (((HE.out.putAt (i := i * 2) (j := i * 2 + 1) c00 (.bool q5) (.slice A5 l5 c5)).more (N' := max N M + 1) (by omega) (fun _ _ => rfl)).set i ⟨q5, A5, l5, c5⟩ (H5.out.putAt (i := i * 2) (j := i * 2 + 1) c00 _ _))
        have hlen : (L.set i ⟨q5, A5, l5, c5⟩).length = n := by rw [List.length_set]; exact HLL.out
        have HRr : Hid (Lr ((w5.setCell ⟨g, i * 2, none⟩ (.bool q5)).setCell ⟨g, i * 2 + 1, none⟩ (.slice A5 l5 c5)) (.slice (some ⟨g, 0, none⟩) n c) n (max N M + 1) (damF more f i)) := by
          refine Lib.hid ⟨L.set i ⟨q5, A5, l5, c5⟩, ?_, hlen, HE2.out.more (Nat.le_refl _) (fun k _ => rfl)⟩
          have := Lwn.of (base := 0) (Nat.zero_le g) (K2.out.gb (.head _)) (c := c) (by rw [List.length_set]; exact HC.out.1) HC.out.2.1 (by have := HC.out.2.2; rw [List.length_append, flat_length] at this ⊢; rw [List.length_set]; exact this) (by rw [hlen]; omega)
          rwa [hlen] at this
        replace HO := Lib.hid (And.intro (HO.out.1.below HB2.out) (And.intro HO.out.2.1 (HO.out.2.2.mono fun j x _ hx => hx.below HB2.out)))
        replace hsz := Lib.hid (Nat.le_trans hsz.out HB2.out.size)
        replace K := Lib.hid K2.out.rest
        clear HB2 K2 HE2 hlen c00 H5 HE HBB
        refine out_with (B := fun W => (Swn W (w.heap.size + 1) 27 u5 vs ∧ vs.length = i ∧ All vs (fun i x => Lr W x n (max N M + 1) (damF more f i))) ∧ Lr W (.slice (some ⟨g, 0, none⟩) n c) n (max N M + 1) (damF more f i) ∧ w.heap.size + 1 ≤ W.heap.size) K.out ⟨HO.out, HRr.out, hsz.out⟩ ?_
        clear K HO HRr hsz
        intro W6 K HO
        replace K := Lib.hid K
        replace HO := Lib.hid HO
        go_wp2_with (at_builtin; refine app1s 26 27 Tryz.underlying26 info27 rfl (.tmp 26) (.tmp 28) rfl (w.heap.size + 1) u5 vs (some ⟨g, 0, none⟩) n c rfl HO.out.1.1 rfl (by rw [HO.out.1.2.1]; omega) HO.out.2.2 ?_; intro v' w' hown' hturn' hkeep')
        have hcell := HO.out.1.1.2.1
        have Y := Lib.hid (And.intro hown' (And.intro (hkeep' _ _ K.out (by simp) (Nat.le_succ _)) (And.intro (HO.out.1.2.2.mono fun j x _ hx => hx.turn hturn' HO.out.1.1.tag hcell) (HO.out.2.1.turn hturn' HO.out.1.1.tag hcell))))
        have HYL : Hid ((vs ++ [Value.slice (some ⟨g, 0, none⟩) n c]).length = i + 1) := by show _ = _; rw [List.length_append, HO.out.1.2.1]; rfl
        clear hown' hkeep' hturn' HO K hcell
        go_roundg (n - (i + 1))
        case measure => omega
        case rel =>
          have hll : vs.length = i := by have := HYL.out; simp at this; omega
          exact ⟨i + 1, _, by omega, congrArg (Value.int .i64) (by omega), Y.out.1, HYL.out, Y.out.2.2.1.snoc _ (by rw [hll]; exact Y.out.2.2.2), Y.out.2.1, Y.out.2.1.lt (.head _)⟩
    · have HI : Hid (vs.length = n) := by have := HO.out.2.1; show _ = _; omega
      obtain ⟨OA, oc, rfl, -⟩ := HO.out.1.at
      go_wp2_with fail
      go_ret
      exact ⟨_, rfl, ⟨vs, ⟨owns_mono HO.out.1.1 (Nat.zero_le _), HO.out.1.2⟩, HI.out, HO.out.2.2⟩, K.out.B⟩
end Go.Proofs.YtmidifgnpjlgcaaGreat
