/- The texts Op, Oq, Ra, Rb, Rc, Rd of the walk of the law and of all that it calls, in one file. No condition. -/
import Derived.Test.YtmidifgnpjlgcaaGreatY9
/- The walks of Curve. -/
set_option linter.unusedVariables false
set_option linter.unusedSimpArgs false
namespace Go.Proofs.YtmidifgnpjlgcaaGreat
open Go.RowKit

/-- A graph's own box. -/
def GCap (w : World) (g : Nat) (vs : Array Value) : Prop := w.heap[g]? = some (.cells vs 34)
theorem GCap.below {w w' : World} {g : Nat} {vs : Array Value} (h : GCap w g vs) (hb : Below w.heap.size w w') : GCap w' g vs := by
  unfold GCap at *
  rw [hb.block g (Array.getElem?_eq_some_iff.1 h).1]; exact h
theorem GCap.lt {w : World} {g : Nat} {vs : Array Value} (h : GCap w g vs) : g < w.heap.size := (Array.getElem?_eq_some_iff.1 h).1
theorem GCap.c {w : World} {g k : Nat} {vs : Array Value} {v : Value} (h : GCap w g vs) (hv : vs[k]? = some v) : w.cell? ⟨g, k, none⟩ = some v := (cellOf h).trans hv
theorem Keep.fara {w0 w : World} {p : Addr} {j : Nat} {v : Value} {l : List (Nat × Obj)} (K : Hid (Keep w0 l w)) (hlt : p.block < w0.heap.size) (h : w0.cell? (p.add j) = some v) (q : At (Keep w0 l)) : q.w.cell? (p.add j) = some v := by
  rw [q.h.B.cell (p := p.add j) (by rw [add_block]; exact hlt)]; exact h
theorem Iv.atv {w : World} {A : Option Addr} {m c : Nat} {xs : List Int} (h : Iv w (.slice A m c) xs) : ∀ j, j < xs.length → i64 (xs.getD j 0) ∧ ∃ p, A = some p ∧ p.block < w.heap.size ∧ w.cell? (p.add j) = some (.int .i64 (xs.getD j 0)) := by
  obtain ⟨A', c', hv, -, h⟩ := h
  cases hv
  exact h
/-- What each row's share is. -/
def Shr (w : World) (v : Value) (hs : List Int) (m : Nat) : Prop := Iv w v hs ∧ hs.length = m ∧ ∀ j, j < m → 0 ≤ hs.getD j 0 ∧ hs.getD j 0 ≤ 3355443200
theorem Shr.below {w w' : World} {t : Value} {xs : List Int} {n : Nat} (h : Shr w t xs n) (hb : Below w.heap.size w w') : Shr w' t xs n := ⟨h.1.below hb, h.2⟩
theorem mul_in {a b A B : Int} (h1 : -A ≤ a) (h2 : a ≤ A) (h3 : -B ≤ b) (h4 : b ≤ B) : -(A * B) ≤ a * b ∧ a * b ≤ A * B := by
  have k : (a * b).natAbs ≤ A.natAbs * B.natAbs := by
    rw [Int.natAbs_mul]
    exact Nat.mul_le_mul (by omega) (by omega)
  have e : ((A.natAbs * B.natAbs : Nat) : Int) = A * B := by
    rw [Int.natCast_mul, Int.natAbs_of_nonneg (by omega), Int.natAbs_of_nonneg (by omega)]
  omega

/-- How the cost bends, of shares. -/
def curveS (rs : List Rw) (hs : List Int) (i j : Nat) : Int := sumTo (fun k => hs.getD k 0 * (rs.getD k Rw.zero).coef.getD i 0 * (rs.getD k Rw.zero).coef.getD j 0) rs.length
theorem curve_last (x : Int) : x * 1 + 0 * 1024 = x := by omega

variable {w0 w : World} {l l2 : List (Nat × Obj)}
set_option maxHeartbeats 8000000 in
set_option maxRecDepth 100000 in
theorem curve99_any (gg gh : Nat) (rv pv qv cs ds sv : Value) (cn dn : Bool) (n : Nat) (rs : List Rw) (hs : List Int) (i j : Nat) (w : World) (h : Gz w rv pv qv cn cs dn ds n rs) (hg : GCap w gg #[.int .i64 n, rv, pv, qv, .bool cn, cs, .bool dn, ds]) (hc : Cap w gh sv) (hh : Shr w sv hs rs.length) (hi : i < n) (hj : j < n) :
    Calls Tryz.prog 99 #[.int .i64 i, .int .i64 j, .pointer (some ⟨gg, 0, none⟩), .pointer (some ⟨gh, 0, none⟩)] w (Told1 w 100 (curveS rs hs i j)) := by
  obtain ⟨CA, cl, cc, rfl⟩ := h.2.2.1.2.2.sl
  obtain ⟨DA, dl, dc, rfl⟩ := h.2.2.2.1.sl
  have HG := Lib.hid h; have HGC := Lib.hid hg; have HC := Lib.hid hc; have HH := Lib.hid hh
  obtain ⟨hl60, hn11⟩ := h.2.2.2.2
  obtain ⟨RA, rc, rfl, -, hra⟩ := h.1
  have HRA := Lib.hid hra
  obtain ⟨PA, pc, rfl, -, hpa⟩ := h.2.2.1.1
  have HPA := Lib.hid (hpa i hi)
  obtain ⟨QA, qc, rfl, -⟩ := h.2.2.1.2.1
  obtain ⟨SA, sc, rfl, -⟩ := hh.1
  have K := Lib.hid (Keep.begin2 w (Obj.num false (.slice none 0 0)) (Obj.num false (.slice none 0 0)))
  clear h hg hc hh hra hpa
  go_enter Tryz.func99, Tryz.ntmps99
  go_upto_region 2 with fail
  (refine out_keep K.out ?_; clear K; intro W K; replace K := Lib.hid K)
  have g1 := kept_cell K.out HGC.out.lt (HGC.out.c (k := 1) rfl)
  go_wp2_with fail
  clear g1
  go_loopg [13] rs.length (fun gk iv wr => ∃ (k : Nat) (q : Bool) (C : Option Addr) (l c : Nat), gk + k = rs.length ∧ iv = .int .i64 (k : Int) ∧ Nz wr q (.slice C l c) (sumTo (fun k => hs.getD k 0 * (rs.getD k Rw.zero).coef.getD i 0 * (rs.getD k Rw.zero).coef.getD j 0) k) (2 + k) ∧ Keep w [(w.heap.size + 1, Obj.num q (.slice C l c)), (w.heap.size, Obj.num false (.slice none 0 0))] wr)
  case atStart => exact ⟨0, false, none, 0, 0, by omega, rfl, (Nz.nil _).more (by omega), K.out⟩
  case round =>
    clear K
    obtain ⟨k, q, C, ll, lc, hgk, rfl, hN, k'⟩ := hrel
    have K := Lib.hid k'
    have HN := Lib.hid hN
    clear k' hN
    by_cases hk : k < rs.length
    · have HM := Lib.hid (HG.out.2.1 _ (mem_of_lt hk))
      have HHk := Lib.hid (HH.out.2.2 k hk)
      obtain ⟨b, off, B, d, rfl, hlt, hI, x0, x1, x2, x3⟩ := HRA.out k hk
      have X0 := kept_cell K.out hlt x0; have X1 := kept_cell K.out hlt x1; have X2 := kept_cell K.out hlt x2; have X3 := kept_cell K.out hlt x3
      have HI := Lib.hid hI
      clear hI x0 x1 x2 x3
      have HSM : Hid (sumTo (fun k => hs.getD k 0 * (rs.getD k Rw.zero).coef.getD i 0 * (rs.getD k Rw.zero).coef.getD j 0) (k + 1) = sumTo (fun k => hs.getD k 0 * (rs.getD k Rw.zero).coef.getD i 0 * (rs.getD k Rw.zero).coef.getD j 0) k + hs.getD k 0 * (rs.getD k Rw.zero).coef.getD i 0 * (rs.getD k Rw.zero).coef.getD j 0) := rfl
      generalize rs.getD k Rw.zero = r at *
      go_upto_region 5 with fail
      clear X0 X1 X2 X3
      replace HN := Lib.hid (HN.out.below (below_one wr (Obj.rw (.slice B r.coef.length d) r)))
      replace K := Lib.hid (K.out.alloc (Obj.rw (.slice B r.coef.length d) r))
      generalize wr.heap.size = gr at *
      (refine region_ord _ 19 (by kernel_rfl) (by kernel_rfl) K.out.drew ?_; clear K; intro W K hbw; replace K := Lib.hid K)
      replace HN := Lib.hid (HN.out.below hbw)
      clear hbw
      obtain ⟨e10, e11⟩ := Keep.anm K (.tail _ (.head _))
      have x0 := Keep.acell (k := 0) K (.head _) rfl
      have s0 := Keep.far K HC.out.1 HC.out.2
      obtain ⟨-, p1, rfl, hb1, hc1⟩ := HH.out.1.atv k (by rw [HH.out.2.1]; exact hk)
      obtain ⟨-, p2, rfl, hb2, hc2⟩ := HI.out.atv i (by rw [HM.out.1]; exact hi)
      obtain ⟨-, p3, e3, hb3, hc3⟩ := HI.out.atv j (by rw [HM.out.1]; exact hj)
      cases e3
      have c1 := Keep.fara K hb1 hc1
      have c2 := Keep.fara K hb2 hc2
      have c3 := Keep.fara K hb3 hc3
      obtain ⟨u1, u2⟩ := HHk.out
      obtain ⟨v1, v2⟩ := HM.out.2.2.1 i hi
      obtain ⟨t1, t2⟩ := HM.out.2.2.1 j hj
      have hlen1 : i < r.coef.length := by rw [HM.out.1]; exact hi
      have hlen2 : j < r.coef.length := by rw [HM.out.1]; exact hj
      have hlen3 : k < hs.length := by rw [HH.out.2.1]; exact hk
      generalize hs.getD k 0 = s1 at *
      generalize r.coef.getD i 0 = s2 at *
      generalize r.coef.getD j 0 = s3 at *
      obtain ⟨m1, m2⟩ := mul_in (show -3355443200 ≤ s1 by omega) u2 v1 v2
      obtain ⟨s4, hs4⟩ : ∃ z, z = s1 * s2 := ⟨_, rfl⟩
      have hw1 : IntKind.i64.wrap (s1 * s2) = s4 := by rw [hs4]; exact IntWalk.i64_in _ (by omega)
      rw [← hs4] at m1 m2 HSM
      clear hs4
      obtain ⟨m3, m4⟩ := mul_in m1 m2 t1 t2
      obtain ⟨s5, hs5⟩ : ∃ z, z = s4 * s3 := ⟨_, rfl⟩
      have hw2 : IntKind.i64.wrap (s4 * s3) = s5 := by rw [hs5]; exact IntWalk.i64_in _ (by omega)
      rw [← hs5] at m3 m4 HSM
      clear hs5
      (refine Ord.take' 0 rfl (by kernel_rfl) (fun _ _ _ _ h => h) K.out (by rfl) ?_; apply Exists.intro; refine ⟨fun p => ?_, ?_⟩; (focus (go_simp; (try (with_reducible rfl)); done)); (try simp only [Act.put, List.setIfInBounds_toArray, List.set_cons_zero, List.set_cons_succ]))
      (refine Ord.take' 1 rfl (by kernel_rfl) (fun _ _ _ _ h => h) K.out (by rfl) ?_; apply Exists.intro; refine ⟨fun p => ?_, ?_⟩; (focus (go_simp; (try (with_reducible rfl)); done)); (try simp only [Act.put, List.setIfInBounds_toArray, List.set_cons_zero, List.set_cons_succ]))
      (refine Ord.take' 2 rfl (by kernel_rfl) (fun _ _ _ _ h => h) K.out (by rfl) ?_; apply Exists.intro; refine ⟨fun p => ?_, ?_⟩; (focus (go_simp; (try (with_reducible rfl)); done)); (try simp only [Act.put, List.setIfInBounds_toArray, List.set_cons_zero, List.set_cons_succ]))
      (refine Ord.take' 3 rfl (by kernel_rfl) (fun _ _ _ _ h => h) K.out (by rfl) ?_; apply Exists.intro; refine ⟨fun p => ?_, ?_⟩; (focus (go_simp; (try (with_reducible rfl)); done)); (try simp only [Act.put, List.setIfInBounds_toArray, List.set_cons_zero, List.set_cons_succ]))
      (refine Ord.take' 4 rfl (by kernel_rfl) (fun _ _ _ _ h => h) K.out (by rfl) ?_; apply Exists.intro; refine ⟨fun p => ?_, ?_⟩; (focus (go_simp; (try (with_reducible rfl)); done)); (try simp only [Act.put, List.setIfInBounds_toArray, List.set_cons_zero, List.set_cons_succ]))
      (refine Ord.take' 5 rfl (by kernel_rfl) (fun _ _ _ _ h => h) K.out (by rfl) ?_; apply Exists.intro; refine ⟨fun p => ?_, ?_⟩; (focus (go_simp; (try (with_reducible rfl)); done)); (try simp only [Act.put, List.setIfInBounds_toArray, List.set_cons_zero, List.set_cons_succ]))
      (refine Ord.take' 6 rfl (by kernel_rfl) (fun _ _ _ _ h => h) K.out (by rfl) ?_; apply Exists.intro; refine ⟨fun p => ?_, ?_⟩; (focus (go_simp; (try (with_reducible rfl)); done)); (try simp only [Act.put, List.setIfInBounds_toArray, List.set_cons_zero, List.set_cons_succ]))
      (refine Ord.take' 7 rfl (by kernel_rfl) (fun _ _ _ _ h => h) K.out (by rfl) ?_; apply Exists.intro; refine ⟨fun p => ?_, ?_⟩; (focus (go_simp; (try (with_reducible rfl)); done)); (try simp only [Act.put, List.setIfInBounds_toArray, List.set_cons_zero, List.set_cons_succ]))
      (refine Ord.take' 8 rfl (by kernel_rfl) (fun _ _ _ _ h => h) K.out (by rfl) ?_; apply Exists.intro; refine ⟨fun p => ?_, ?_⟩; (focus (go_simp; (try (with_reducible rfl)); done)); (try simp only [Act.put, List.setIfInBounds_toArray, List.set_cons_zero, List.set_cons_succ]))
      (refine Ord.take' 9 rfl (by kernel_rfl) (fun _ _ _ _ h => h) K.out (by rfl) ?_; apply Exists.intro; refine ⟨fun p => ?_, ?_⟩; (focus (go_simp; (try (with_reducible rfl)); done)); (try simp only [Act.put, List.setIfInBounds_toArray, List.set_cons_zero, List.set_cons_succ]))
      (refine Ord.take' 10 rfl (by kernel_rfl) (fun _ _ _ _ h => h) K.out (by rfl) ?_; apply Exists.intro; refine ⟨fun p => ?_, ?_⟩; (focus (go_simp; (try (with_reducible rfl)); done)); (try simp only [Act.put, List.setIfInBounds_toArray, List.set_cons_zero, List.set_cons_succ]))
      (refine Ord.take' 11 rfl (by kernel_rfl) (fun _ _ _ _ h => h) K.out (by rfl) ?_; apply Exists.intro; refine ⟨fun p => ?_, ?_⟩; (focus (go_simp; (try (with_reducible rfl)); done)); (try simp only [Act.put, List.setIfInBounds_toArray, List.set_cons_zero, List.set_cons_succ]))
      (refine Ord.take' 12 rfl (by kernel_rfl) (fun _ _ _ _ h => h) K.out (by rfl) ?_; apply Exists.intro; refine ⟨fun p => ?_, ?_⟩; (focus (go_simp; (try (with_reducible rfl)); done)); (try simp only [Act.put, List.setIfInBounds_toArray, List.set_cons_zero, List.set_cons_succ]))
      (refine Ord.take' 13 rfl (by kernel_rfl) (fun _ _ _ _ h => h) K.out (by rfl) ?_; apply Exists.intro; refine ⟨fun p => ?_, ?_⟩; (focus (go_simp; (try (with_reducible rfl)); done)); (try simp only [Act.put, List.setIfInBounds_toArray, List.set_cons_zero, List.set_cons_succ]))
      (refine Ord.take' 14 rfl (by kernel_rfl) (fun _ _ _ _ h => h) K.out (by rfl) ?_; apply Exists.intro; refine ⟨fun p => ?_, ?_⟩; (focus (go_simp; (try (with_reducible rfl)); done)); (try simp only [Act.put, List.setIfInBounds_toArray, List.set_cons_zero, List.set_cons_succ]))
      (refine Ord.take' 15 rfl (by kernel_rfl) (fun _ _ _ _ h => h) K.out (by rfl) ?_; apply Exists.intro; refine ⟨fun p => ?_, ?_⟩; (focus (go_simp; (try (with_reducible rfl)); done)); (try simp only [Act.put, List.setIfInBounds_toArray, List.set_cons_zero, List.set_cons_succ]))
      (refine Ord.take' 16 rfl (by kernel_rfl) (fun _ _ _ _ h => h) K.out (by rfl) ?_; apply Exists.intro; refine ⟨fun p => ?_, ?_⟩; (focus (go_simp; (try (with_reducible rfl)); done)); (try simp only [Act.put, List.setIfInBounds_toArray, List.set_cons_zero, List.set_cons_succ]))
      clear e10 e11 x0 s0 c1 c2 c3 hw1 hw2
      (refine Ord.call 17 (g := 19) (args := (#[.int .i64 s5])) rfl (by kernel_rfl) (by rfl) (by (go_simp; try (with_reducible rfl))) ?_)
      refine (int_nz s5 _ (by omega) (by omega)).mono ?_
      rintro e w6 ⟨q3, A3, l3, k3, rfl, hN3, hb⟩
      (refine ⟨_, rfl, Keep.stays _ _ K.out hb, ?_⟩; replace K := Lib.hid (Keep.stays _ _ K.out hb); simp only [Act.put, List.setIfInBounds_toArray, List.set_cons_zero, List.set_cons_succ])
      replace HN := Lib.hid (HN.out.below hb)
      clear hb
      (refine Ord.call 18 (g := 43) (args := (#[.agg #[.bool q, .slice C ll lc], .agg #[.bool q3, .slice A3 l3 k3]])) rfl (by kernel_rfl) (by rfl) (by (go_simp; try (with_reducible rfl))) ?_)
      refine (add_nz HN.out hN3 (by omega) (by omega)).mono ?_
      rintro e w7 ⟨q4, A4, l4, k4, rfl, hN4, hb⟩
      (refine ⟨_, rfl, Keep.stays _ _ K.out hb, ?_⟩; replace K := Lib.hid (Keep.stays _ _ K.out hb); simp only [Act.put, List.setIfInBounds_toArray, List.set_cons_zero, List.set_cons_succ])
      have H4 := Lib.hid hN4
      clear hb hN3 hN4 HN
      (refine Ord.done (by kernel_rfl) ?_; simp only [List.drop_succ_cons, List.drop_zero, Act.put, List.setIfInBounds_toArray, List.set_cons_zero, List.set_cons_succ])
      replace K := Lib.hid K.out.rest
      obtain ⟨f1, c10, c11⟩ := K.out.nm (.head _)
      go_wp2_with fail
      clear f1 c10 c11
      go_roundg (gk - 1)
      case measure => omega
      case rel => exact ⟨k + 1, q4, A4, l4, k4, by omega, congrArg (Value.int .i64) (by omega), ((H4.out.put (K.out.nm (.head _)).2.1 _ _).more (by omega)).val HSM.out.symm, K.out.putn_0 _ _⟩
    · obtain ⟨bp, BP, dp, rfl, hpl, hpc, hPL⟩ := HPA.out
      obtain ⟨b0, n0, B0, l0, d0, rfl, hlt0, y0, y1, hn0⟩ := hPL.at j hj
      have H0 := Lib.hid hn0
      clear hn0 hPL
      go_upto_region 7 with fail
      (refine region_ord _ 16 (by kernel_rfl) (by kernel_rfl) K.out.drew ?_; clear K; intro W K hbw; replace K := Lib.hid K)
      replace HN := Lib.hid (HN.out.below hbw)
      clear hbw
      obtain ⟨e10, e11⟩ := Keep.anm K (.head _)
      have g2 := Keep.far K HGC.out.lt (HGC.out.c (k := 2) rfl)
      have g6 := Keep.far K HGC.out.lt (HGC.out.c (k := 6) rfl)
      have g7 := Keep.far K HGC.out.lt (HGC.out.c (k := 7) rfl)
      have p0 := Keep.far K hpl hpc
      have y0' := Keep.far K hlt0 y0
      have y1' := Keep.far K hlt0 y1
      (refine Ord.take' 0 rfl (by kernel_rfl) (fun _ _ _ _ h => h) K.out (by rfl) ?_; apply Exists.intro; refine ⟨fun p => ?_, ?_⟩; (focus (go_simp; (try (with_reducible rfl)); done)); (try simp only [Act.put, List.setIfInBounds_toArray, List.set_cons_zero, List.set_cons_succ]))
      (refine Ord.take' 1 rfl (by kernel_rfl) (fun _ _ _ _ h => h) K.out (by rfl) ?_; apply Exists.intro; refine ⟨fun p => ?_, ?_⟩; (focus (go_simp; (try (with_reducible rfl)); done)); (try simp only [Act.put, List.setIfInBounds_toArray, List.set_cons_zero, List.set_cons_succ]))
      (refine Ord.take' 2 rfl (by kernel_rfl) (fun _ _ _ _ h => h) K.out (by rfl) ?_; apply Exists.intro; refine ⟨fun p => ?_, ?_⟩; (focus (go_simp; (try (with_reducible rfl)); done)); (try simp only [Act.put, List.setIfInBounds_toArray, List.set_cons_zero, List.set_cons_succ]))
      (refine Ord.take' 4 rfl (by kernel_rfl) (fun _ _ _ _ h => h) K.out (by rfl) ?_; apply Exists.intro; refine ⟨fun p => ?_, ?_⟩; (focus (go_simp; (try (with_reducible rfl)); done)); (try simp only [Act.put, List.setIfInBounds_toArray, List.set_cons_zero, List.set_cons_succ]))
      (refine Ord.take' 5 rfl (by kernel_rfl) (fun _ _ _ _ h => h) K.out (by rfl) ?_; apply Exists.intro; refine ⟨fun p => ?_, ?_⟩; (focus (go_simp; (try (with_reducible rfl)); done)); (try simp only [Act.put, List.setIfInBounds_toArray, List.set_cons_zero, List.set_cons_succ]))
      (refine Ord.take' 6 rfl (by kernel_rfl) (fun _ _ _ _ h => h) K.out (by rfl) ?_; apply Exists.intro; refine ⟨fun p => ?_, ?_⟩; (focus (go_simp; (try (with_reducible rfl)); done)); (try simp only [Act.put, List.setIfInBounds_toArray, List.set_cons_zero, List.set_cons_succ]))
      (refine Ord.take' 7 rfl (by kernel_rfl) (fun _ _ _ _ h => h) K.out (by rfl) ?_; apply Exists.intro; refine ⟨fun p => ?_, ?_⟩; (focus (go_simp; (try (with_reducible rfl)); done)); (try simp only [Act.put, List.setIfInBounds_toArray, List.set_cons_zero, List.set_cons_succ]))
      (refine Ord.take' 8 rfl (by kernel_rfl) (fun _ _ _ _ h => h) K.out (by rfl) ?_; apply Exists.intro; refine ⟨fun p => ?_, ?_⟩; (focus (go_simp; (try (with_reducible rfl)); done)); (try simp only [Act.put, List.setIfInBounds_toArray, List.set_cons_zero, List.set_cons_succ]))
      (refine Ord.take' 9 rfl (by kernel_rfl) (fun _ _ _ _ h => h) K.out (by rfl) ?_; apply Exists.intro; refine ⟨fun p => ?_, ?_⟩; (focus (go_simp; (try (with_reducible rfl)); done)); (try simp only [Act.put, List.setIfInBounds_toArray, List.set_cons_zero, List.set_cons_succ]))
      (refine Ord.take' 10 rfl (by kernel_rfl) (fun _ _ _ _ h => h) K.out (by rfl) ?_; apply Exists.intro; refine ⟨fun p => ?_, ?_⟩; (focus (go_simp; (try (with_reducible rfl)); done)); (try simp only [Act.put, List.setIfInBounds_toArray, List.set_cons_zero, List.set_cons_succ]))
      (refine Ord.take' 11 rfl (by kernel_rfl) (fun _ _ _ _ h => h) K.out (by rfl) ?_; apply Exists.intro; refine ⟨fun p => ?_, ?_⟩; (focus (go_simp; (try (with_reducible rfl)); done)); (try simp only [Act.put, List.setIfInBounds_toArray, List.set_cons_zero, List.set_cons_succ]))
      (refine Ord.take' 12 rfl (by kernel_rfl) (fun _ _ _ _ h => h) K.out (by rfl) ?_; apply Exists.intro; refine ⟨fun p => ?_, ?_⟩; (focus (go_simp; (try (with_reducible rfl)); done)); (try simp only [Act.put, List.setIfInBounds_toArray, List.set_cons_zero, List.set_cons_succ]))
      clear e10 e11 g2 g6 g7 p0 y0' y1'
      (refine Ord.call 3 (g := 23) (args := (#[.agg #[.bool q, .slice C ll lc], .agg #[.bool dn, .slice DA dl dc]])) rfl (by kernel_rfl) (by rfl) (by (go_simp; try (with_reducible rfl))) ?_)
      refine (mul_nz HN.out (HG.out.2.2.2.1.below K.out.B) (by omega) (by omega)).mono ?_
      rintro e w6 ⟨q3, A3, l3, k3, rfl, hN3, hb⟩
      (refine ⟨_, rfl, Keep.stays _ _ K.out hb, ?_⟩; replace K := Lib.hid (Keep.stays _ _ K.out hb); simp only [Act.put, List.setIfInBounds_toArray, List.set_cons_zero, List.set_cons_succ])
      clear hb HN
      (refine Ord.call 13 (g := 19) (args := (#[.int .i64 1024])) rfl (by kernel_rfl) (by rfl) (by (go_simp; try (with_reducible rfl))) ?_)
      refine (int_nz 1024 _ (by omega) (by omega)).mono ?_
      rintro e w7 ⟨q4, A4, l4, k4, rfl, hN4, hb⟩
      (refine ⟨_, rfl, Keep.stays _ _ K.out hb, ?_⟩; replace K := Lib.hid (Keep.stays _ _ K.out hb); simp only [Act.put, List.setIfInBounds_toArray, List.set_cons_zero, List.set_cons_succ])
      replace hN3 := hN3.below hb
      clear hb
      (refine Ord.call 14 (g := 23) (args := (#[.agg #[.bool n0, .slice B0 l0 d0], .agg #[.bool q4, .slice A4 l4 k4]])) rfl (by kernel_rfl) (by rfl) (by (go_simp; try (with_reducible rfl))) ?_)
      refine (mul_nz (H0.out.below K.out.B) hN4 (by omega) (by omega)).mono ?_
      rintro e w8 ⟨q5, A5, l5, k5, rfl, hN5, hb⟩
      (refine ⟨_, rfl, Keep.stays _ _ K.out hb, ?_⟩; replace K := Lib.hid (Keep.stays _ _ K.out hb); simp only [Act.put, List.setIfInBounds_toArray, List.set_cons_zero, List.set_cons_succ])
      replace hN3 := hN3.below hb
      clear hb hN4
      (refine Ord.call 15 (g := 43) (args := (#[.agg #[.bool q3, .slice A3 l3 k3], .agg #[.bool q5, .slice A5 l5 k5]])) rfl (by kernel_rfl) (by rfl) (by (go_simp; try (with_reducible rfl))) ?_)
      refine (add_nz hN3 hN5 (by omega) (by omega)).mono ?_
      rintro e w9 ⟨q6, A6, l6, k6, rfl, hN6, hb⟩
      (refine ⟨_, rfl, Keep.stays _ _ K.out hb, ?_⟩; replace K := Lib.hid (Keep.stays _ _ K.out hb); simp only [Act.put, List.setIfInBounds_toArray, List.set_cons_zero, List.set_cons_succ])
      have H6 := Lib.hid hN6
      clear hb hN3 hN5 hN6
      (refine Ord.done (by kernel_rfl) ?_; simp only [List.drop_succ_cons, List.drop_zero, Act.put, List.setIfInBounds_toArray, List.set_cons_zero, List.set_cons_succ])
      obtain ⟨f1, c10, c11⟩ := K.out.nm (.tail _ (.head _))
      go_wp2_with fail
      refine ret_nm Tryz.results99 rfl ((K.out.putn_1 q6 (.slice A6 l6 k6)).nb (.tail _ (.head _))) ?_
      exact ⟨q6, _, _, _, rfl, ((H6.out.put (K.out.nm (.tail _ (.head _))).2.1 _ _).more (by omega)).val ((curve_last _).trans (by rw [show k = rs.length by omega]; rfl)), (K.out.putn_1 q6 (.slice A6 l6 k6)).B⟩
end Go.Proofs.YtmidifgnpjlgcaaGreat
/- The walk of Curve. -/
set_option linter.unusedVariables false
set_option linter.unusedSimpArgs false
namespace Go.Proofs.YtmidifgnpjlgcaaGreat
open Go.RowKit

theorem Keep.set1 {w0 w : World} {l2 : List (Nat × Obj)} {b : Nat} {a0 : Value} {t : TypeId} (K : Keep w0 ((b, .cells #[a0] t) :: l2) w) (u : Value) : Keep w0 ((b, .cells #[u] t) :: l2) (w.setCell ⟨b, 0, none⟩ u) := by
  have := K.set [] 0 u
  simp only [List.setIfInBounds_toArray, List.set_cons_zero, List.nil_append] at this
  exact this
theorem Ord.lay {P : Program} {md : Region.Mode} {ops : Array Oper} {Q : Exit → Act → World → Prop} {S : World → Prop} {n f : Nat} {b : Array Bool} {a : Act} {w w' : World} (i : Nat) {o : Oper} {v : Value} (hi : ops.toList[i]? = some o) (hc : (decide (i < n) && decide (Region.ready md ops b = [i])) = true)
    (hw : Region.wanted o (yielded ops a.tmps) = true) (hrun : (execOp a.eval o).run P w = .ok (.value v) w') (hS : S w') (h : Ord P md ops Q S n f (b.setIfInBounds i true) (a.put o.dst v) w') : Ord P md ops Q S n (f + 1) b a w := by
  refine Ord.step i hi hc hw ?_
  unfold Oper.wp
  rw [hrun]
  exact ⟨hS, h⟩

/-- The shares of rows. -/
def shs (rs : List Rw) (xs : List Int) : List Int := rs.map (fun r => r.weight * share r xs)
/-- How the cost bends. -/
def curveF (rs : List Rw) (xs : List Int) (i j : Nat) : Int := curveS rs (shs rs xs) i j
theorem shs_snoc {rs : List Rw} {xs : List Int} {k : Nat} (hk : k < rs.length) : (rs.take (k + 1)).map (fun r => r.weight * share r xs) = (rs.take k).map (fun r => r.weight * share r xs) ++ [(rs.getD k Rw.zero).weight * share (rs.getD k Rw.zero) xs] := by
  have e : rs.take (k + 1) = rs.take k ++ [rs.getD k Rw.zero] := by
    rw [List.take_add_one, List.getElem?_eq_getElem hk, List.getD_eq_getElem?_getD, List.getElem?_eq_getElem hk]; rfl
  rw [e, List.map_append]
  rfl

set_option maxHeartbeats 8000000 in
set_option maxRecDepth 100000 in
theorem made99_any (gA gP gQ gR k1 k2 : Value) (cn dn : Bool) (gC gD : Value) (n N : Nat) (f : Nat → Nat → Int) (w : World) (hF : ∀ i j : Nat, i < n → j < n → ∀ w', Below w.heap.size w w' → Calls Tryz.prog 99 #[.int .i64 i, .int .i64 j, k1, k2] w' (Told1 w' N (f i j))) (hn : n ≤ 1000000) (hs : (∃ A l c, gR = .slice A l c) ∧ (∃ A l c, gP = .slice A l c) ∧ (∃ A l c, gQ = .slice A l c) ∧ (∃ A l c, gC = .slice A l c) ∧ (∃ A l c, gD = .slice A l c)) :
    Calls Tryz.prog 28 #[.agg #[.int .i64 n, gR, gP, gQ, .bool cn, gC, .bool dn, gD], .func (.func 99) #[] #[k1, k2]] w fun e w' => ∃ v, e = .returned v ∧ Mo27 w' v n N f ∧ Below w.heap.size w w' := by
  obtain ⟨⟨A1, l1, c1, rfl⟩, ⟨A2, l2, c2, rfl⟩, ⟨A3, l3, c3, rfl⟩, ⟨A4, l4, c4, rfl⟩, ⟨A5, l5, c5, rfl⟩⟩ := hs
  have K := Lib.hid (Keep.begin1 w (.cells #[.int .i64 n, .slice A1 l1 c1, .slice A2 l2 c2, .slice A3 l3 c3, .bool cn, .slice A4 l4 c4, .bool dn, .slice A5 l5 c5] 34))
  have HF := Lib.hid hF
  have hsz := Lib.hid (Nat.succ_le_of_lt (K.out.lt (.head _)))
  clear hF
  go_enter Tryz.func28, Tryz.ntmps28
  have x0 := K.out.cell (k := 0) (.head _) rfl
  go_wp2_with fail
  clear x0
  go_loopg [5, 11] n (fun gk ov iv wr => ∃ (i : Nat) (vs : List Value), gk + i = n ∧ iv = .int .i64 (i : Int) ∧ Swn wr (w.heap.size + 1) 27 ov vs ∧ vs.length = i ∧ All vs (fun i x => Lr wr x n N (f i)) ∧ Keep w [(w.heap.size, .cells #[.int .i64 n, .slice A1 l1 c1, .slice A2 l2 c2, .slice A3 l3 c3, .bool cn, .slice A4 l4 c4, .bool dn, .slice A5 l5 c5] 34)] wr ∧ w.heap.size + 1 ≤ wr.heap.size)
  case atStart => exact ⟨0, [], by omega, rfl, Swn.nil _ _ _, rfl, All.nil _, K.out, hsz.out⟩
  case round =>
    clear K hsz
    rename World => wo
    obtain ⟨i, vs, hgi, rfl, hown, hvl, hall, k', hsz'⟩ := hrel
    have HO := Lib.hid (And.intro hown (And.intro hvl hall))
    have K := Lib.hid k'
    have hsz := Lib.hid hsz'
    clear hown hvl hall k' hsz'
    by_cases hi : i < n
    · have x0 := K.out.cell (k := 0) (.head _) rfl
      go_wp2_with fail
      clear x0
      have KI := Lib.hid (Below.refl wo.heap.size wo)
      go_loopg [7, 16] n (fun g2 rv jv wr2 => ∃ (j : Nat) (L : List Nm), g2 + j = n ∧ jv = .int .i64 (j : Int) ∧ Lwn wr2 wo.heap.size rv L ∧ L.length = j ∧ Els wr2 L N (f i) ∧ Below wo.heap.size wo wr2)
      case atStart => exact ⟨0, [], by omega, rfl, Lwn.nil _ _, rfl, Els.nil _ _ _, KI.out⟩
      case round =>
        clear KI
        obtain ⟨j, L, hgj, rfl, hown, hl, he, hb2⟩ := hrel
        have HR := Lib.hid (And.intro hown (And.intro hl he))
        have KI := Lib.hid (Keep.of hb2)
        clear hown hl he hb2
        by_cases hj : j < n
        · go_wp2_with fail
          refine (HF.out i j hi hj _ (K.out.B.trans (KI.out.B.mono K.out.B.size))).mono ?_
          rintro e w2 ⟨q, A, ll, lc, rfl, hN, hb⟩
          replace HR := Lib.hid (And.intro (HR.out.1.below hb) (And.intro HR.out.2.1 (HR.out.2.2.below hb)))
          replace KI := Lib.hid (Keep.stays _ _ KI.out hb)
          have HN := Lib.hid hN
          clear hb hN
          go_wp2_with (at_builtin; refine app1l rfl (.tmp 19) (.tmp 24) rfl wo.heap.size u7 L q A ll lc rfl HR.out.1 rfl (by rw [HR.out.2.1]; omega) KI.out.B.size ?_; intro v' w' hown' hnz' hkeep')
          have Y := Lib.hid (And.intro hown' (And.intro (hkeep' _ _ KI.out (by simp) (Nat.le_refl _)).B (And.intro (HR.out.2.2.turn hnz') (hnz' _ _ _ _ HN.out))))
          have HYL : Hid ((L ++ [(⟨q, A, ll, lc⟩ : Nm)]).length = j + 1) := by show _ = _; rw [List.length_append, HR.out.2.1]; rfl
          clear hown' hkeep' hnz' HR KI HN
          go_roundg (n - (j + 1))
          case measure => omega
          case rel =>
            have hll : L.length = j := by have := HYL.out; simp at this; omega
            exact ⟨j + 1, _, by omega, congrArg (Value.int .i64) (by omega), Y.out.1, HYL.out, Y.out.2.2.1.snoc _ (by rw [hll]; exact Y.out.2.2.2), Y.out.2.1⟩
        · have HLn : Hid (L.length = n) := by have := HR.out.2.1; show _ = _; omega
          obtain ⟨RA, rcp, rfl⟩ := HR.out.1.sl
          have HRr : Hid (Lr _ (.slice RA L.length rcp) n N (f i)) := Lib.hid ⟨L, ⟨owns_mono HR.out.1.1 (Nat.zero_le _), HR.out.1.2⟩, HLn.out, HR.out.2.2⟩
          replace K := Lib.hid (Keep.stays _ _ K.out KI.out.B)
          replace HO := Lib.hid (And.intro (HO.out.1.below KI.out.B) (And.intro HO.out.2.1 (HO.out.2.2.mono fun j x _ hx => hx.below KI.out.B)))
          replace hsz := Lib.hid (Nat.le_trans hsz.out KI.out.B.size)
          clear HR KI
          rw [HLn.out] at HRr
          rw [HLn.out]
          go_wp2_with (at_builtin; refine app1s 26 27 Tryz.underlying26 info27 rfl (.tmp 27) (.tmp 29) rfl (w.heap.size + 1) u5 vs RA n rcp rfl HO.out.1 rfl (by rw [HO.out.2.1]; omega) hsz.out ?_; intro v' w' hown' hturn' hkeep')
          have hcell := HO.out.1.2.1
          have Y := Lib.hid (And.intro hown' (And.intro (hkeep' _ _ K.out (by simp) (Nat.le_succ _)) (And.intro (HO.out.2.2.mono fun j x _ hx => hx.turn hturn' HO.out.1.tag hcell) (HRr.out.turn hturn' HO.out.1.tag hcell))))
          have HYL : Hid ((vs ++ [Value.slice RA n rcp]).length = i + 1) := by show _ = _; rw [List.length_append, HO.out.2.1]; rfl
          clear hown' hkeep' hturn' HO K hcell HRr
          go_roundg (n - (i + 1))
          case measure => omega
          case rel =>
            have hll : vs.length = i := by have := HYL.out; simp at this; omega
            exact ⟨i + 1, _, by omega, congrArg (Value.int .i64) (by omega), Y.out.1, HYL.out, Y.out.2.2.1.snoc _ (by rw [hll]; exact Y.out.2.2.2), Y.out.2.1, Y.out.2.1.lt (.head _)⟩
    · have HI : Hid (vs.length = n) := by have := HO.out.2.1; show _ = _; omega
      obtain ⟨OA, oc, rfl, -⟩ := HO.out.1.at
      go_wp2_with fail
      go_ret
      exact ⟨_, rfl, ⟨vs, ⟨owns_mono HO.out.1.1 (Nat.zero_le _), HO.out.1.2⟩, HI.out, HO.out.2.2⟩, K.out.B⟩


set_option maxHeartbeats 8000000 in
set_option maxRecDepth 100000 in
theorem curve_any (rv pv qv cs ds t : Value) (cn dn : Bool) (n : Nat) (rs : List Rw) (xs : List Int) (w : World) (h : Gz w rv pv qv cn cs dn ds n rs) (hx : Sta w t xs n) :
    Calls Tryz.prog 69 #[.agg #[.int .i64 n, rv, pv, qv, .bool cn, cs, .bool dn, ds], t] w fun e w' => ∃ v, e = .returned v ∧ Mo27 w' v n 100 (curveF rs xs) ∧ Below w.heap.size w w' := by
  obtain ⟨CA, cl, cc, rfl⟩ := h.2.2.1.2.2.sl
  obtain ⟨DA, dl, dc, rfl⟩ := h.2.2.2.1.sl
  have HG := Lib.hid h; have HX := Lib.hid hx
  obtain ⟨hl60, hn11⟩ := h.2.2.2.2
  obtain ⟨RA, rc, rfl, -, hra⟩ := h.1
  have HRA := Lib.hid hra
  obtain ⟨PA, pc, rfl, -⟩ := h.2.2.1.1
  obtain ⟨QA, qc, rfl, -⟩ := h.2.2.1.2.1
  obtain ⟨B0, d0, rfl, -⟩ := hx.1
  have K := Lib.hid (Keep.begin2 w (.cells #[.int .i64 n, .slice RA rs.length rc, .slice PA n pc, .slice QA n qc, .bool cn, .slice CA cl cc, .bool dn, .slice DA dl dc] 34) (.cells #[.slice none 0 0] 23))
  have hsz := Lib.hid (Nat.succ_le_of_lt (K.out.lt (.head _)))
  clear h hx hra
  go_enter Tryz.func69, Tryz.ntmps69
  have x1 := K.out.cell (k := 1) (.tail _ (.head _)) rfl
  go_wp2_with fail
  clear x1
  go_loopg [11] rs.length (fun gk iv wr => ∃ (k : Nat) (SA : Option Addr) (sc : Nat) (hs : List Int), gk + k = rs.length ∧ iv = .int .i64 (k : Int) ∧ hs.length = k ∧ Qwn wr (w.heap.size + 1 + 1) (.slice SA k sc) hs ∧ ((∀ j, j < k → 0 ≤ hs.getD j 0 ∧ hs.getD j 0 ≤ 3355443200) ∧ hs = (rs.take k).map (fun r => r.weight * share r xs)) ∧ Keep w [(w.heap.size + 1, .cells #[.slice SA k sc] 23), (w.heap.size, .cells #[.int .i64 n, .slice RA rs.length rc, .slice PA n pc, .slice QA n qc, .bool cn, .slice CA cl cc, .bool dn, .slice DA dl dc] 34)] wr ∧ w.heap.size + 1 + 1 ≤ wr.heap.size)
  case atStart => exact ⟨0, none, 0, [], by omega, rfl, rfl, Qwn.nil _ _, ⟨fun j hj => absurd hj (by omega), by simp⟩, K.out, hsz.out⟩
  case round =>
    clear K hsz
    obtain ⟨k, SA, sc, hs, hgk, rfl, hsl, hq, hbd, k', hsz'⟩ := hrel
    have K := Lib.hid k'
    have HQ := Lib.hid (And.intro hsl (And.intro hq hbd))
    have hsz := Lib.hid hsz'
    clear k' hsl hq hbd hsz'
    by_cases hk : k < rs.length
    · have HM := Lib.hid (HG.out.2.1 _ (mem_of_lt hk))
      obtain ⟨b, off, B, d, rfl, hlt, hI, x0, x1, x2, x3⟩ := HRA.out k hk
      have X0 := kept_cell K.out hlt x0; have X1 := kept_cell K.out hlt x1; have X2 := kept_cell K.out hlt x2; have X3 := kept_cell K.out hlt x3
      have HI := Lib.hid hI
      clear hI x0 x1 x2 x3
      have HSN := Lib.hid (shs_snoc (xs := xs) hk)
      rw [← HQ.out.2.2.2] at HSN
      generalize rs.getD k Rw.zero = r at *
      go_upto_region 5 with fail
      clear X0 X1 X2 X3
      replace HQ := Lib.hid (And.intro HQ.out.1 (And.intro (HQ.out.2.1.below (below_one wr (Obj.rw (.slice B r.coef.length d) r))) HQ.out.2.2))
      replace K := Lib.hid (K.out.alloc (Obj.rw (.slice B r.coef.length d) r))
      replace hsz := Lib.hid (Nat.le_trans hsz.out (below_one wr (Obj.rw (.slice B r.coef.length d) r)).size)
      generalize wr.heap.size = gr at *
      (refine region_ord _ 9 (by kernel_rfl) (by kernel_rfl) K.out.drew ?_; clear K; intro W K hbw; replace K := Lib.hid K)
      replace HQ := Lib.hid (And.intro HQ.out.1 (And.intro (HQ.out.2.1.below hbw) HQ.out.2.2))
      replace hsz := Lib.hid (Nat.le_trans hsz.out hbw.size)
      clear hbw
      have y0 := Keep.acell (k := 0) K (.head _) rfl
      have y1 := Keep.acell (k := 1) K (.head _) rfl
      have y2 := Keep.acell (k := 2) K (.head _) rfl
      have y3 := Keep.acell (k := 3) K (.head _) rfl
      have s0 := Keep.acell (k := 0) K (.tail _ (.head _)) rfl
      have g0 := Keep.acell (k := 0) K (.tail _ (.tail _ (.head _))) rfl
      have g1 := Keep.acell (k := 1) K (.tail _ (.tail _ (.head _))) rfl
      have g2 := Keep.acell (k := 2) K (.tail _ (.tail _ (.head _))) rfl
      have g3 := Keep.acell (k := 3) K (.tail _ (.tail _ (.head _))) rfl
      have g4 := Keep.acell (k := 4) K (.tail _ (.tail _ (.head _))) rfl
      have g5 := Keep.acell (k := 5) K (.tail _ (.tail _ (.head _))) rfl
      have g6 := Keep.acell (k := 6) K (.tail _ (.tail _ (.head _))) rfl
      have g7 := Keep.acell (k := 7) K (.tail _ (.tail _ (.head _))) rfl
      (refine Ord.take' 0 rfl (by kernel_rfl) (fun _ _ _ _ h => h) K.out (by rfl) ?_; apply Exists.intro; refine ⟨fun p => ?_, ?_⟩; (focus (go_simp; (try (with_reducible rfl)); done)); (try simp only [Act.put, List.setIfInBounds_toArray, List.set_cons_zero, List.set_cons_succ]))
      (refine Ord.take' 1 rfl (by kernel_rfl) (fun _ _ _ _ h => h) K.out (by rfl) ?_; apply Exists.intro; refine ⟨fun p => ?_, ?_⟩; (focus (go_simp; (try (with_reducible rfl)); done)); (try simp only [Act.put, List.setIfInBounds_toArray, List.set_cons_zero, List.set_cons_succ]))
      (refine Ord.take' 2 rfl (by kernel_rfl) (fun _ _ _ _ h => h) K.out (by rfl) ?_; apply Exists.intro; refine ⟨fun p => ?_, ?_⟩; (focus (go_simp; (try (with_reducible rfl)); done)); (try simp only [Act.put, List.setIfInBounds_toArray, List.set_cons_zero, List.set_cons_succ]))
      (refine Ord.take' 3 rfl (by kernel_rfl) (fun _ _ _ _ h => h) K.out (by rfl) ?_; apply Exists.intro; refine ⟨fun p => ?_, ?_⟩; (focus (go_simp; (try (with_reducible rfl)); done)); (try simp only [Act.put, List.setIfInBounds_toArray, List.set_cons_zero, List.set_cons_succ]))
      (refine Ord.take' 4 rfl (by kernel_rfl) (fun _ _ _ _ h => h) K.out (by rfl) ?_; apply Exists.intro; refine ⟨fun p => ?_, ?_⟩; (focus (go_simp; (try (with_reducible rfl)); done)); (try simp only [Act.put, List.setIfInBounds_toArray, List.set_cons_zero, List.set_cons_succ]))
      (refine Ord.take' 5 rfl (by kernel_rfl) (fun _ _ _ _ h => h) K.out (by rfl) ?_; apply Exists.intro; refine ⟨fun p => ?_, ?_⟩; (focus (go_simp; (try (with_reducible rfl)); done)); (try simp only [Act.put, List.setIfInBounds_toArray, List.set_cons_zero, List.set_cons_succ]))
      clear y0 y1 y2 y3 s0 g0 g1 g2 g3 g4 g5 g6 g7
      (refine Ord.call 6 (g := 52) (args := (#[.agg #[.int .i64 n, .slice (some ⟨b, off, none⟩) rs.length rc, .slice PA n pc, .slice QA n qc, .bool cn, .slice CA cl cc, .bool dn, .slice DA dl dc], .agg #[.slice B r.coef.length d, .int .i64 r.z, .int .i64 r.knee, .int .i64 r.weight], .slice B0 xs.length d0])) rfl (by kernel_rfl) (by rfl) (by (go_simp; try (with_reducible rfl))) ?_)
      refine (share_any _ _ _ r n xs _ _ _ _ _ _ _ _ _ rfl (HI.out.below K.out.B) HM.out (HX.out.1.below K.out.B) HX.out.2.1 HX.out.2.2).mono ?_
      rintro e w6 ⟨rfl, hb⟩
      (refine ⟨_, rfl, Keep.stays _ _ K.out hb, ?_⟩; replace K := Lib.hid (Keep.stays _ _ K.out hb); simp only [Act.put, List.setIfInBounds_toArray, List.set_cons_zero, List.set_cons_succ])
      obtain ⟨q1, q2⟩ := share_in HM.out xs
      generalize share r xs = q at *
      replace HQ := Lib.hid (And.intro HQ.out.1 (And.intro (HQ.out.2.1.below hb) HQ.out.2.2))
      replace hsz := Lib.hid (Nat.le_trans hsz.out hb.size)
      clear hb
      obtain ⟨w1, w2⟩ := HM.out.2.2.2.2.2
      obtain ⟨m1, m2⟩ := mul_in (show -100 ≤ r.weight by omega) w2 (show -33554432 ≤ q by omega) q2
      have m0 : 0 ≤ r.weight * q := Int.mul_nonneg (by omega) q1
      obtain ⟨s5, hs5⟩ : ∃ z, z = r.weight * q := ⟨_, rfl⟩
      have hw2 : IntKind.i64.wrap (r.weight * q) = s5 := by rw [hs5]; exact IntWalk.i64_in _ (by omega)
      rw [← hs5] at m0 m1 m2 HSN
      clear hs5
      (refine Ord.take' 7 rfl (by kernel_rfl) (fun _ _ _ _ h => h) K.out (by rfl) ?_; apply Exists.intro; refine ⟨fun p => ?_, ?_⟩; (focus (go_simp; (try (with_reducible rfl)); done)); (try simp only [Act.put, List.setIfInBounds_toArray, List.set_cons_zero, List.set_cons_succ]))
      clear hw2
      refine Ord.lay 8 (v := .slice (some ⟨w6.heap.size, 0, none⟩) 1 1) (w' := w6.alloc (.cells #[.int .i64 s5] 2)) rfl (by kernel_rfl) (by rfl) (by go_simp; try (with_reducible rfl)) (K.out.alloc _).rest ?_
      simp only [Act.put, List.setIfInBounds_toArray, List.set_cons_zero, List.set_cons_succ]
      (refine Ord.done (by kernel_rfl) ?_; simp only [List.drop_succ_cons, List.drop_zero, Act.put, List.setIfInBounds_toArray, List.set_cons_zero, List.set_cons_succ])
      replace K := Lib.hid K.out.rest
      refine app1q rfl (.tmp 15) (.tmp 23) rfl (w.heap.size + 1 + 1) (.slice SA k sc) hs s5 rfl HQ.out.2.1 rfl (by rw [HQ.out.1]; omega) hsz.out ?_
      intro v' w' hown' hkeep'
      replace K := Lib.hid (hkeep' _ _ K.out (by intro p hp; simp at hp; rcases hp with rfl | rfl <;> dsimp only <;> omega) (by omega))
      obtain ⟨SB, sd, rfl, hel⟩ := hown'.el
      have HO := Lib.hid hown'
      have hlen : (hs ++ [s5]).length = k + 1 := by rw [List.length_append, HQ.out.1]; rfl
      have hsz2 : Hid (w.heap.size + 1 + 1 ≤ w'.heap.size) := Lib.hid (Nat.succ_le_of_lt (K.out.lt (.head _)))
      rw [hlen] at HO ⊢
      have HLEN := Lib.hid hlen
      clear hown' hkeep' hel hlen
      have s0 := K.out.cell (k := 0) (.head _) rfl
      have f1 := fun o => K.out.warm (.head _) o
      go_wp2_with fail
      clear s0 f1
      go_roundg (gk - 1)
      case measure => omega
      case rel =>
        have hT := Turn.set w' (w.heap.size + 1) 0 (.slice SB (k + 1) sd)
        refine ⟨k + 1, SB, sd, hs ++ [s5], by omega, congrArg (Value.int .i64) (by omega), HLEN.out, HO.out.turn hT (K.out.tagg (.head _)) (by decide), ⟨fun j hj => ?_, HSN.out.symm⟩, Keep.set1 K.out _, Nat.le_trans hsz2.out hT.1⟩
        have hl := HQ.out.1
        by_cases e : j < hs.length
        · rw [List.getD_eq_getElem?_getD, List.getElem?_append_left e, ← List.getD_eq_getElem?_getD]
          exact HQ.out.2.2.1 j (by omega)
        · have : j = hs.length := by omega
          rw [this, List.getD_eq_getElem?_getD, List.getElem?_append_right (Nat.le_refl _)]
          simp
          exact ⟨m0, by omega⟩
    · obtain rfl : k = rs.length := by omega
      have g0 := K.out.cell (k := 0) (.tail _ (.head _)) rfl
      have g1 := K.out.cell (k := 1) (.tail _ (.head _)) rfl
      have g2 := K.out.cell (k := 2) (.tail _ (.head _)) rfl
      have g3 := K.out.cell (k := 3) (.tail _ (.head _)) rfl
      have g4 := K.out.cell (k := 4) (.tail _ (.head _)) rfl
      have g5 := K.out.cell (k := 5) (.tail _ (.head _)) rfl
      have g6 := K.out.cell (k := 6) (.tail _ (.head _)) rfl
      have g7 := K.out.cell (k := 7) (.tail _ (.head _)) rfl
      go_upto_region 7 with fail
      go_wp2_with fail
      have HGC : Hid (GCap wr w.heap.size #[.int .i64 n, .slice RA rs.length rc, .slice PA n pc, .slice QA n qc, .bool cn, .slice CA cl cc, .bool dn, .slice DA dl dc]) := Lib.hid (K.out.gb (.tail _ (.head _)))
      have HC : Hid (Cap wr (w.heap.size + 1) (.slice SA rs.length sc)) := Lib.hid ⟨K.out.lt (.head _), K.out.cell (.head _) rfl⟩
      have hqi := HQ.out.2.1.iv (fun j hj => by
        have a := HQ.out.2.2.1 j (by rw [← HQ.out.1]; exact hj)
        exact ⟨by omega, by omega⟩)
      have HS : Hid (Shr wr (.slice SA rs.length sc) hs rs.length) := Lib.hid ⟨hqi, HQ.out.1, HQ.out.2.2.1⟩
      refine (made99_any (.bool false) _ _ _ _ _ cn dn _ _ n 100 (curveS rs hs) wr (fun i j hi hj w' hb => curve99_any w.heap.size (w.heap.size + 1) _ _ _ _ _ _ cn dn n rs hs i j w' ((HG.out.below K.out.B).below hb) (HGC.out.below hb) (HC.out.below hb) (HS.out.below hb) hi hj) (by omega) ⟨⟨RA, _, rc, rfl⟩, ⟨PA, _, pc, rfl⟩, ⟨QA, _, qc, rfl⟩, ⟨CA, cl, cc, rfl⟩, ⟨DA, dl, dc, rfl⟩⟩).mono ?_
      rintro e w2 ⟨v, rfl, hM, hb⟩
      replace K := Lib.hid (Keep.stays _ _ K.out hb)
      have HM := Lib.hid hM
      obtain ⟨VA, vc, rfl, -⟩ : ∃ A c, v = .slice A n c ∧ True := by obtain ⟨A, c, h, -⟩ := hM.mv; exact ⟨A, c, h, trivial⟩
      clear hb hM g0 g1 g2 g3 g4 g5 g6 g7 HGC HC HS hqi
      go_wp2_with fail
      go_ret
      have he : hs = shs rs xs := by rw [HQ.out.2.2.2, List.take_length]; rfl
      rw [he] at HM
      exact ⟨_, rfl, HM.out, K.out.B⟩
end Go.Proofs.YtmidifgnpjlgcaaGreat
/- The walks of zeros, turned, and the entries of swept. -/
set_option linter.unusedVariables false
set_option linter.unusedSimpArgs false
namespace Go.Proofs.YtmidifgnpjlgcaaGreat
open Go.RowKit

set_option maxHeartbeats 4000000 in
set_option maxRecDepth 100000 in
theorem zeros_any (n : Nat) (w : World) (hn : n ≤ 1000000) : Calls Tryz.prog 104 #[.int .i64 n] w fun e w' => ∃ v, e = .returned v ∧ Lo w' w.heap.size v n 0 (fun _ => 0) ∧ Below w.heap.size w w' := by
  have K := Lib.hid (Keep.begin1 w (Obj.lst (List.replicate n Nm.zero)))
  have hmk := mk_lst n hn n rfl
  go_enter Tryz.func104, Tryz.ntmps104
  go_wp2_with fail
  go_ret
  exact ⟨_, rfl, ⟨w.heap.size, _, rfl, Nat.le_refl _, K.out.gb (.head _), by simp, Els.zero _ _ _⟩, K.out.B⟩

set_option maxHeartbeats 4000000 in
set_option maxRecDepth 100000 in
theorem turned_any (q odd : Bool) (s : Value) (z : Int) (N : Nat) (w : World) (h : Nz w q s z N) (hN : N ≤ 900000) : Calls Tryz.prog 89 #[.agg #[.bool q, s], .bool odd] w (Told1 w N (if odd then -z else z)) := by
  obtain ⟨A, l, c, rfl⟩ := h.sl
  have K := Lib.hid (Keep.begin2 w (Obj.num q (.slice A l c)) (Obj.num false (.slice none 0 0)))
  have H := Lib.hid h
  clear h
  go_enter Tryz.func89, Tryz.ntmps89
  go_upto_region 1 with fail
  (refine out_keep K.out ?_; clear K; intro W K; replace K := Lib.hid K)
  obtain ⟨f1, c10, c11⟩ := K.out.nm (.tail _ (.head _))
  cases odd
  · obtain ⟨f2, c20, c21⟩ := K.out.nm (.head _)
    go_wp2_with fail
    refine ret_nm Tryz.results89 rfl ((K.out.putn_0 _ _).nb (.head _)) ?_
    exact ⟨q, A, l, c, rfl, (H.out.below K.out.B).put (K.out.nm (.head _)).2.1 _ _, (K.out.putn_0 q (.slice A l c)).B⟩
  · go_wp2_with fail
    refine (neg_nz (H.out.below K.out.B) (by omega)).mono ?_
    rintro e w2 ⟨q2, A2, l2, c2, rfl, hN2, hb⟩
    replace K := Lib.hid (Keep.stays _ _ K.out hb)
    have HN := Lib.hid hN2
    clear hb hN2 f1 c10 c11
    obtain ⟨f2, c20, c21⟩ := K.out.nm (.head _)
    go_wp2_with fail
    refine ret_nm Tryz.results89 rfl ((K.out.putn_0 _ _).nb (.head _)) ?_
    exact ⟨q2, A2, l2, c2, rfl, HN.out.put (K.out.nm (.head _)).2.1 _ _, (K.out.putn_0 q2 (.slice A2 l2 c2)).B⟩
end Go.Proofs.YtmidifgnpjlgcaaGreat
/- The rows of swept. -/
set_option linter.unusedVariables false
set_option linter.unusedSimpArgs false
namespace Go.Proofs.YtmidifgnpjlgcaaGreat
open Go.RowKit

set_option maxHeartbeats 4000000 in
set_option maxRecDepth 100000 in
theorem list110_any (k1 k2 k3 k4 : Value) (n N : Nat) (f : Nat → Int) (w : World) (hF : ∀ k : Nat, k < n → ∀ w', Below w.heap.size w w' → Calls Tryz.prog 110 #[.int .i64 k, k1, k2, k3, k4] w' (Told1 w' N (f k))) (hn : n ≤ 1000000) :
    Calls Tryz.prog 87 #[.int .i64 n, .func (.func 110) #[] #[k1, k2, k3, k4]] w fun e w' => ∃ v, e = .returned v ∧ Lo w' w.heap.size v n N f ∧ Below w.heap.size w w' := by
  have K := Lib.hid (Keep.begin1 w (Obj.lst (List.replicate n Nm.zero)))
  have HF := Lib.hid hF
  have hmk := mk_lst n hn n rfl
  clear hF
  go_enter Tryz.func87, Tryz.ntmps87
  go_wp2_with fail
  go_loopg [11] n (fun gk iv wr => ∃ (i : Nat) (L : List Nm), gk + i = n ∧ iv = .int .i64 (i : Int) ∧ L.length = n ∧ Els wr L N (upto i f) ∧ Keep w [(w.heap.size, Obj.lst L)] wr)
  case atStart => exact ⟨0, _, by omega, rfl, by simp, (Els.zero _ _ _).more (Nat.le_refl _) (fun k _ => upto_zero f k), K.out⟩
  case round =>
    clear K hmk
    obtain ⟨i, L, hgi, rfl, hl, he, k'⟩ := hrel
    have K := Lib.hid k'
    have HL := Lib.hid hl
    have HE := Lib.hid he
    clear k' hl he
    by_cases hi : i < n
    · go_upto_region 5 with fail
      go_wp2_with fail
      refine (HF.out i hi _ K.out.B).mono ?_
      rintro e w2 ⟨n1, B1, l1, d1, rfl, hn1, hb⟩
      replace K := Lib.hid (Keep.stays _ _ K.out hb)
      replace HE := Lib.hid (HE.out.below hb)
      have H1 := Lib.hid hn1
      clear hb hn1
      obtain ⟨c0, c1⟩ := K.out.lstc (.head _) i (by rw [HL.out]; exact hi)
      have f1 := K.out.lstw (.head _)
      go_wp2_with fail
      clear c0 c1 f1
      go_roundg (gk - 1)
      case measure => omega
      case rel =>
        have c00 := (K.out.lstc (.head _) 0 (by rw [HL.out]; omega)).1
        exact ⟨i + 1, L.set i ⟨n1, B1, l1, d1⟩, by omega, congrArg (Value.int .i64) (by omega), by rw [List.length_set]; exact HL.out, (HE.out.putAt c00 _ _).fill _ (H1.out.putAt c00 _ _), K.out.setl_0 i ⟨n1, B1, l1, d1⟩⟩
    · replace HE := Lib.hid (HE.out.more (Nat.le_refl _) (fun k hk => upto_all f (show k < i by have := HL.out; omega)))
      go_wp2_with fail
      go_ret
      exact ⟨_, rfl, ⟨w.heap.size, L, rfl, Nat.le_refl _, K.out.box _ (.head _), HL.out, HE.out⟩, K.out.B⟩


/-- A matrix with a list behind. -/
def aug (n : Nat) (A : Nat → Nat → Int) (b : Nat → Int) (i j : Nat) : Int := if j < n then A i j else b i

set_option maxHeartbeats 4000000 in
set_option maxRecDepth 100000 in
theorem entry110_any (gn ga gi gb : Nat) (v t : Value) (i j n N : Nat) (f : Nat → Nat → Int) (fb : Nat → Int) (w : World) (hn : Cap w gn (.int .i64 n)) (ha : Cap w ga v) (hi : Cap w gi (.int .i64 i)) (hb : Cap w gb t) (h1 : Mv w v n n N f) (h2 : Lv w t n N fb) (li : i < n) (lj : j < n + 1) :
    Calls Tryz.prog 110 #[.int .i64 j, .pointer (some ⟨gn, 0, none⟩), .pointer (some ⟨ga, 0, none⟩), .pointer (some ⟨gi, 0, none⟩), .pointer (some ⟨gb, 0, none⟩)] w (Told1 w N (aug n f fb i j)) := by
  obtain ⟨A, c, rfl, -, hm⟩ := h1
  obtain ⟨ba, B, d, rfl, hlt, c0, hL⟩ := hm i li
  obtain ⟨D, q, rfl, -, hb2⟩ := h2
  obtain ⟨b2, n2, B2, l2, d2, rfl, hlt2, y0, y1, hn2⟩ := hb2 i li
  have K := Lib.hid (Keep.begin1 w (Obj.num false (.slice none 0 0)))
  have HN := Lib.hid hn; have HA := Lib.hid ha; have HI := Lib.hid hi; have HB := Lib.hid hb
  have HL := Lib.hid hL; have H2 := Lib.hid hn2
  have HC := Lib.hid (And.intro c0 (And.intro y0 y1))
  clear hn ha hi hb hm hb2 hL c0 y0 y1 hn2
  go_enter Tryz.func110, Tryz.ntmps110
  go_upto_region 1 with fail
  (refine out_keep K.out ?_; clear K; intro W K; replace K := Lib.hid K)
  have cn := kept_cell K.out HN.out.1 HN.out.2
  have ci := kept_cell K.out HI.out.1 HI.out.2
  by_cases hj : j < n
  · have ca := kept_cell K.out HA.out.1 HA.out.2
    have cr := kept_cell K.out hlt HC.out.1
    obtain ⟨b1, n1, B1, l1, d1, rfl, hlt1, x0, x1, hn1⟩ := HL.out.at j hj
    have xx0 := kept_cell K.out hlt1 x0
    have xx1 := kept_cell K.out hlt1 x1
    have H1 := Lib.hid hn1
    clear x0 x1 hn1
    obtain ⟨f1, c10, c11⟩ := K.out.nm (.head _)
    go_wp2_with fail
    refine ret_nm Tryz.results110 rfl ((K.out.putn_0 n1 (.slice B1 l1 d1)).nb (.head _)) ?_
    exact ⟨n1, B1, l1, d1, rfl, ((H1.out.below K.out.B).put (K.out.nm (.head _)).2.1 _ _).val (by unfold aug; rw [if_pos hj]), (K.out.putn_0 n1 (.slice B1 l1 d1)).B⟩
  · have cb := kept_cell K.out HB.out.1 HB.out.2
    have yy0 := kept_cell K.out hlt2 HC.out.2.1
    have yy1 := kept_cell K.out hlt2 HC.out.2.2
    obtain ⟨f1, c10, c11⟩ := K.out.nm (.head _)
    go_wp2_with fail
    refine ret_nm Tryz.results110 rfl ((K.out.putn_0 n2 (.slice B2 l2 d2)).nb (.head _)) ?_
    exact ⟨n2, B2, l2, d2, rfl, ((H2.out.below K.out.B).put (K.out.nm (.head _)).2.1 _ _).val (by unfold aug; rw [if_neg hj]), (K.out.putn_0 n2 (.slice B2 l2 d2)).B⟩

set_option maxHeartbeats 4000000 in
set_option maxRecDepth 100000 in
theorem row109_any (gn ga gb : Nat) (v t : Value) (i n N : Nat) (f : Nat → Nat → Int) (fb : Nat → Int) (w : World) (hn : Cap w gn (.int .i64 n)) (ha : Cap w ga v) (hb : Cap w gb t) (h1 : Mv w v n n N f) (h2 : Lv w t n N fb) (li : i < n) (hn11 : n ≤ 11) :
    Calls Tryz.prog 109 #[.int .i64 i, .pointer (some ⟨gn, 0, none⟩), .pointer (some ⟨ga, 0, none⟩), .pointer (some ⟨gb, 0, none⟩)] w fun e w' => ∃ u, e = .returned u ∧ Lo w' w.heap.size u (n + 1) N (aug n f fb i) ∧ Below w.heap.size w w' := by
  have K := Lib.hid (Keep.begin1 w (.cells #[.int .i64 i] 3))
  have HN := Lib.hid hn; have HA := Lib.hid ha; have HB := Lib.hid hb; have H1 := Lib.hid h1; have H2 := Lib.hid h2
  clear hn ha hb h1 h2
  go_enter Tryz.func109, Tryz.ntmps109
  go_upto_region 1 with fail
  (refine out_keep K.out ?_; clear K; intro W K; replace K := Lib.hid K)
  have cn := kept_cell K.out HN.out.1 HN.out.2
  have HI : Hid (Cap W w.heap.size (.int .i64 i)) := Lib.hid ⟨K.out.lt (.head _), K.out.cell (.head _) rfl⟩
  go_wp2_with fail
  rw [show (n : Int) + 1 = ((n + 1 : Nat) : Int) by omega]
  refine (list110_any _ _ _ _ (n + 1) N (aug n f fb i) W (fun k hk w' hb => entry110_any gn ga w.heap.size gb v t i k n N f fb w' ((HN.out.below K.out.B).below hb) ((HA.out.below K.out.B).below hb) (HI.out.below hb) ((HB.out.below K.out.B).below hb) ((H1.out.below K.out.B).below hb) ((H2.out.below K.out.B).below hb) li hk) (by omega)).mono ?_
  rintro e w2 ⟨u, rfl, hL, hb⟩
  have KB := K.out.B.size
  replace K := Lib.hid (Keep.stays _ _ K.out hb)
  have HL := Lib.hid hL
  obtain ⟨g, L, rfl, hg, -⟩ := hL
  clear hb cn HI
  go_wp2_with fail
  go_ret
  obtain ⟨g', L', e', hg', hh⟩ := HL.out
  exact ⟨_, rfl, ⟨g', L', e', Nat.le_trans KB hg', hh⟩, K.out.B⟩
end Go.Proofs.YtmidifgnpjlgcaaGreat
/- The state of swept: rows of one's own. -/
set_option linter.unusedVariables false
set_option linter.unusedSimpArgs false
namespace Go.Proofs.YtmidifgnpjlgcaaGreat
open Go.RowKit

/-- A row of one's own, by its block. -/
def Rowg (w : World) (base g m N : Nat) (f : Nat → Int) : Prop := ∃ L, base ≤ g ∧ w.heap[g]? = some (Obj.lst L) ∧ L.length = m ∧ Els w L N f
theorem Rowg.below {w w' : World} {base g m N : Nat} {f : Nat → Int} (h : Rowg w base g m N f) (hb : Below w.heap.size w w') : Rowg w' base g m N f := by
  obtain ⟨L, h1, h2, h3, h4⟩ := h
  exact ⟨L, h1, by rw [hb.block g (Array.getElem?_eq_some_iff.1 h2).1]; exact h2, h3, h4.below hb⟩
theorem Rowg.turn {w w' : World} {base g m N : Nat} {f : Nat → Int} {o : Option Nat} {e : TypeId} (h : Rowg w base g m N f) (hT : Turn o w w') (ho : Tagged w o e) (he : e ≠ 30) (hc : ∀ k, o = some k → ∀ z, w.cell? ⟨k, 0, none⟩ ≠ some (.int .u32 z)) : Rowg w' base g m N f := by
  obtain ⟨L, h1, h2, h3, h4⟩ := h
  refine ⟨L, h1, ?_, h3, h4.turn (fun _ _ _ _ hN => hN.turn hT hc)⟩
  rw [hT.2 g (Array.getElem?_eq_some_iff.1 h2).1 (fun eo => by
    obtain ⟨cs, hcs⟩ := ho g eo
    rw [h2] at hcs
    injection hcs with hcs
    injection hcs with _ hcs
    exact he hcs.symm)]
  exact h2
def rsl (m g : Nat) : Value := .slice (some ⟨g, 0, none⟩) m m
theorem set_fill (gs : List Nat) (m g n : Nat) (h : gs.length < n) : (gs.map (rsl m) ++ List.replicate (n - gs.length) (Value.slice none 0 0)).toArray.setIfInBounds gs.length (rsl m g) = ((gs ++ [g]).map (rsl m) ++ List.replicate (n - (gs ++ [g]).length) (Value.slice none 0 0)).toArray := by
  obtain ⟨k, hk⟩ : ∃ k, n - gs.length = k + 1 := ⟨n - gs.length - 1, by omega⟩
  have hk2 : n - (gs ++ [g]).length = k := by rw [List.length_append]; simp; omega
  rw [List.setIfInBounds_toArray, List.set_append, if_neg (by simp), hk, hk2, List.replicate_succ]
  simp
theorem Keep.fill32 {w0 w : World} {l : List (Nat × Obj)} {b m k : Nat} {gs : List Nat} (K : Keep w0 l w) (h : (b, Obj.cells (gs.map (rsl m) ++ List.replicate k (Value.slice none 0 0)).toArray 27) ∈ l) : ∀ q, some b = some q → ∀ z, w.cell? ⟨q, 0, none⟩ ≠ some (.int .u32 z) := by
  intro q hq z
  injection hq with hq
  subst hq
  rw [cellOf (K.gb h), List.getElem?_toArray]
  cases gs with
  | nil => cases k <;> simp [List.replicate_succ]
  | cons g gs => simp [rsl]
/-- Of each of a list, by its place. -/
def AllN (vs : List Nat) (R : Nat → Nat → Prop) : Prop := ∀ j (h : j < vs.length), R j vs[j]
theorem AllN.nil (R : Nat → Nat → Prop) : AllN [] R := fun j h => absurd h (by simp)
theorem AllN.mono {vs : List Nat} {R R' : Nat → Nat → Prop} (h : AllN vs R) (hR : ∀ j x, R j x → R' j x) : AllN vs R' := fun j hj => hR j _ (h j hj)
theorem AllN.snoc {vs : List Nat} {R : Nat → Nat → Prop} (h : AllN vs R) (x : Nat) (hx : R vs.length x) : AllN (vs ++ [x]) R := fun k hk => by
  by_cases e : k < vs.length
  · have e2 : (vs ++ [x])[k]'hk = vs[k] := List.getElem_append_left e
    rw [e2]
    exact h k e
  · have e3 : k = vs.length := by simp at hk; omega
    subst e3
    have e2 : (vs ++ [x])[vs.length]'hk = x := by simp
    rw [e2]
    exact hx
/-- Rows of one's own, in a block of slices. -/
def Wm (w : World) (base bm : Nat) (gs : List Nat) (m N : Nat) (f : Nat → Nat → Int) : Prop := base ≤ bm ∧ w.heap[bm]? = some (.cells (gs.map (rsl m)).toArray 27) ∧ AllN gs (fun i g => Rowg w base g m N (f i))

set_option maxHeartbeats 4000000 in
set_option maxRecDepth 100000 in
theorem rlist109_any (k1 k2 k3 : Value) (n m N : Nat) (f : Nat → Nat → Int) (w : World) (hF : ∀ k : Nat, k < n → ∀ w', Below w.heap.size w w' → Calls Tryz.prog 109 #[.int .i64 k, k1, k2, k3] w' fun e w'' => ∃ u, e = .returned u ∧ Lo w'' w'.heap.size u m N (f k) ∧ Below w'.heap.size w' w'') (hn : n ≤ 1000000) :
    Calls Tryz.prog 106 #[.int .i64 n, .func (.func 109) #[] #[k1, k2, k3]] w fun e w' => ∃ bm gs, e = .returned (.slice (some ⟨bm, 0, none⟩) n n) ∧ gs.length = n ∧ Wm w' w.heap.size bm gs m N f ∧ gs.Nodup ∧ Below w.heap.size w w' := by
  have K := Lib.hid (Keep.begin1 w (.cells (List.replicate n (Value.slice none 0 0)).toArray 27))
  have HF := Lib.hid hF
  have hmk := mk0_sow 25 27 Tryz.underlying25 info27 n hn n n rfl (Nat.le_refl _) n rfl
  clear hF
  go_enter Tryz.func106, Tryz.ntmps106
  go_wp2_with fail
  go_loopg [11] n (fun gk iv wr => ∃ (gs : List Nat), gk + gs.length = n ∧ iv = .int .i64 (gs.length : Int) ∧ AllN gs (fun i g => Rowg wr w.heap.size g m N (f i)) ∧ (gs.Nodup ∧ ∀ g ∈ gs, g < wr.heap.size) ∧ Keep w [(w.heap.size, .cells (gs.map (rsl m) ++ List.replicate (n - gs.length) (Value.slice none 0 0)).toArray 27)] wr)
  case atStart => exact ⟨[], by simp, rfl, AllN.nil _, ⟨List.nodup_nil, fun g hg => (by cases hg)⟩, by simpa using K.out⟩
  case round =>
    clear K hmk
    obtain ⟨gs, hgi, rfl, hall, hnd, k'⟩ := hrel
    have HND := Lib.hid hnd
    have K := Lib.hid k'
    have HA := Lib.hid hall
    clear k' hall hnd
    by_cases hi : gs.length < n
    · go_upto_region 5 with fail
      go_wp2_with fail
      refine (HF.out gs.length hi _ K.out.B).mono ?_
      rintro e w2 ⟨u, rfl, ⟨g, L, rfl, hg, hh, hl, he⟩, hb⟩
      have HB := Lib.hid K.out.B.size
      have HNg : Hid ((gs ++ [g]).Nodup ∧ ∀ x ∈ gs ++ [g], x < w2.heap.size) := by
        refine Lib.hid ⟨List.nodup_append.2 ⟨HND.out.1, by simp, fun a ha b hb' => ?_⟩, fun x hx => ?_⟩
        · rw [List.mem_singleton.1 hb']; have := HND.out.2 a ha; omega
        · rcases List.mem_append.1 hx with h1 | h1
          · have := HND.out.2 x h1; have := hb.size; omega
          · rw [List.mem_singleton.1 h1]; exact (Array.getElem?_eq_some_iff.1 hh).1
      replace K := Lib.hid (Keep.stays _ _ K.out hb)
      replace HA := Lib.hid (HA.out.mono fun j x hx => hx.below hb)
      have H1 : Hid (Rowg w2 w.heap.size g m N (f gs.length)) := Lib.hid ⟨L, Nat.le_trans HB.out hg, hh, hl, he⟩
      clear hb hh hl he hg HB
      have hcell : (gs.map (rsl m) ++ List.replicate (n - gs.length) (Value.slice none 0 0)).toArray[gs.length]? = some (.slice none 0 0) := by
        rw [List.getElem?_toArray, List.getElem?_append_right (by simp), List.getElem?_replicate, if_pos (by rw [List.length_map]; omega)]
      have c0 := K.out.cell (.head _) hcell
      have f1 := fun o => K.out.warm (.head _) o
      clear hcell
      have hne32 := K.out.fill32 (.head _)
      have htag := K.out.tagg (.head _)
      go_wp2_with fail
      clear c0 f1
      go_roundg (gk - 1)
      case measure => omega
      case rel =>
        have hT := Turn.set w2 w.heap.size gs.length (rsl m g)
        refine ⟨gs ++ [g], by rw [List.length_append]; simp; omega, congrArg (Value.int .i64) (by rw [List.length_append]; simp), (HA.out.mono fun j x hx => hx.turn hT htag (by decide) hne32).snoc _ (H1.out.turn hT htag (by decide) hne32), ⟨HNg.out.1, fun x hx => by have := HNg.out.2 x hx; simpa [World.setCell] using this⟩, ?_⟩
        have k2 := Keep.set [] K.out gs.length (rsl m g)
        rw [set_fill _ _ _ _ hi] at k2
        exact k2
    · have hnn : gs.length = n := by omega
      have HK := Lib.hid (K.out.gb (.head _))
      go_wp2_with fail
      go_ret
      have e : gs.map (rsl m) ++ List.replicate (n - gs.length) (Value.slice none 0 0) = gs.map (rsl m) := by rw [hnn]; simp
      have h2 := HK.out
      rw [e] at h2
      exact ⟨_, gs, rfl, hnn, ⟨Nat.le_refl _, h2, HA.out⟩, HND.out.1, K.out.B⟩

end Go.Proofs.YtmidifgnpjlgcaaGreat
/- The state of swept. -/
set_option linter.unusedVariables false
set_option linter.unusedSimpArgs false
namespace Go.Proofs.YtmidifgnpjlgcaaGreat
open Go.RowKit

theorem Nz.tight {w : World} {n : Bool} {s : Value} {z : Int} {N M : Nat} (h : Nz w n s z N) (h1 : -pb M < z) (h2 : z < pb M) : Nz w n s z M := by
  obtain ⟨ds, h3, rfl, h4⟩ := h
  refine ⟨ds, h3, rfl, ?_⟩
  apply Classical.byContradiction
  intro hn
  have k := val_canon h3.2.1 h3.2.2.1 (by intro e; rw [e] at hn; simp at hn)
  have k2 := pb_mono (show M ≤ ds.length - 1 by omega)
  unfold zof at h1 h2
  split at h1 <;> simp_all <;> omega

/-- A row in a block, with a bound of parts for each place, and what each comes to. -/
def Rwb (w : World) (g m : Nat) (bd : Nat → Nat) (f : Nat → Int) : Prop := ∃ L : List Nm, w.heap[g]? = some (Obj.lst L) ∧ L.length = m ∧ ∀ c (h : c < L.length), Nz w L[c].n (.slice L[c].A L[c].l L[c].c) (f c) (bd c)
/-- The matrix of swept: its block, its rows' blocks (no two the same), its numbers. -/
structure Sw (w : World) (lo hi bm n m : Nat) (gs : Nat → Nat) (bd : Nat → Nat → Nat) (f : Nat → Nat → Int) : Prop where
  b1 : lo ≤ bm
  b2 : bm < hi
  b3 : hi ≤ w.heap.size
  top : ∃ cs : Array Value, w.heap[bm]? = some (.cells cs 27) ∧ cs.size = n ∧ ∀ r, r < n → cs[r]? = some (rsl m (gs r))
  inj : ∀ r s, r < n → s < n → gs r = gs s → r = s
  at1 : ∀ r, r < n → lo ≤ gs r ∧ gs r < hi
  row : ∀ r, r < n → Rwb w (gs r) m (bd r) (f r)

theorem Rwb.below {w w' : World} {g m : Nat} {bd : Nat → Nat} {f : Nat → Int} (h : Rwb w g m bd f) (hb : Below w.heap.size w w') : Rwb w' g m bd f := by
  obtain ⟨L, h1, h2, h3⟩ := h
  exact ⟨L, by rw [hb.block g (Array.getElem?_eq_some_iff.1 h1).1]; exact h1, h2, fun c hc => (h3 c hc).below hb⟩
theorem Rwb.more {w : World} {g m : Nat} {bd bd' : Nat → Nat} {f f' : Nat → Int} (h : Rwb w g m bd f) (hb : ∀ c, c < m → bd c ≤ bd' c) (hf : ∀ c, c < m → f c = f' c) : Rwb w g m bd' f' := by
  obtain ⟨L, h1, h2, h3⟩ := h
  exact ⟨L, h1, h2, fun c hc => ((h3 c hc).more (hb c (by omega))).val (hf c (by omega))⟩
theorem Rwb.turn {w w' : World} {g m : Nat} {bd : Nat → Nat} {f : Nat → Int} {o : Nat} (h : Rwb w g m bd f) (hT : Turn (some o) w w') (ho : o ≠ g) (hc : ∀ k, some o = some k → ∀ z, w.cell? ⟨k, 0, none⟩ ≠ some (.int .u32 z)) : Rwb w' g m bd f := by
  obtain ⟨L, h1, h2, h3⟩ := h
  refine ⟨L, ?_, h2, fun c hcm => (h3 c hcm).turn hT hc⟩
  rw [hT.2 g (Array.getElem?_eq_some_iff.1 h1).1 (fun e => ho (by injection e))]; exact h1
theorem Rwb.bool0 {w : World} {g m : Nat} {bd : Nat → Nat} {f : Nat → Int} (h : Rwb w g m bd f) (hm : 0 < m) : ∃ q, w.cell? ⟨g, 0, none⟩ = some (.bool q) := by
  obtain ⟨L, h1, h2, h3⟩ := h
  exact ⟨_, by rw [cellOf h1, List.getElem?_toArray]; exact flat_get0 L 0 (by omega)⟩
theorem Rwb.at {w : World} {g m c : Nat} {bd : Nat → Nat} {f : Nat → Int} (h : Rwb w g m bd f) (hc : c < m) : ∃ q A l k, g < w.heap.size ∧ w.cell? ⟨g, c * 2, none⟩ = some (.bool q) ∧ w.cell? ⟨g, c * 2 + 1, none⟩ = some (.slice A l k) ∧ Nz w q (.slice A l k) (f c) (bd c) := by
  obtain ⟨L, h1, h2, h3⟩ := h
  have hcl : c < L.length := by omega
  exact ⟨L[c].n, L[c].A, L[c].l, L[c].c, (Array.getElem?_eq_some_iff.1 h1).1, by rw [cellOf h1, List.getElem?_toArray]; exact flat_get0 L c (by omega), by rw [cellOf h1, List.getElem?_toArray]; exact flat_get1 L c (by omega), h3 c (by omega)⟩
theorem Rwb.put {w : World} {g m c : Nat} {bd : Nat → Nat} {f : Nat → Int} (h : Rwb w g m bd f) (hc : c < m) (x : Nm) {z : Int} {B : Nat} (hx : Nz w x.n (.slice x.A x.l x.c) z B) : Rwb ((w.setCell ⟨g, c * 2, none⟩ (.bool x.n)).setCell ⟨g, c * 2 + 1, none⟩ (.slice x.A x.l x.c)) g m (fun c' => if c' = c then B else bd c') (fun c' => if c' = c then z else f c') := by
  obtain ⟨q, hq⟩ := h.bool0 (by omega)
  obtain ⟨L, h1, h2, h3⟩ := h
  refine ⟨L.set c x, ?_, by rw [List.length_set]; exact h2, fun c' hc' => ?_⟩
  · have e1 := setCell_block w g (c * 2) (.bool x.n) _ _ h1
    have e2 := setCell_block _ g (c * 2 + 1) (.slice x.A x.l x.c) _ _ e1
    rw [e2, List.setIfInBounds_toArray, List.setIfInBounds_toArray, flat_set]
    rfl
  · have hc2 := hc'
    rw [List.length_set] at hc2
    by_cases e : c' = c
    · subst e
      have e3 : (L.set c' x)[c']'hc' = x := by simp
      rw [e3]
      show Nz _ _ _ (if c' = c' then z else f c') (if c' = c' then B else bd c')
      rw [if_pos rfl, if_pos rfl]
      exact hx.putAt hq _ _
    · have e3 : (L.set c x)[c']'hc' = L[c'] := List.getElem_set_ne (fun e' => e e'.symm) _
      rw [e3]
      show Nz _ _ _ (if c' = c then z else f c') (if c' = c then B else bd c')
      rw [if_neg e, if_neg e]
      exact (h3 c' hc2).putAt hq _ _

variable {w w' : World} {lo hi bm n m : Nat} {gs : Nat → Nat} {bd : Nat → Nat → Nat} {f : Nat → Nat → Int}
theorem Sw.below (h : Sw w lo hi bm n m gs bd f) (hb : Below w.heap.size w w') : Sw w' lo hi bm n m gs bd f := by
  refine ⟨h.b1, h.b2, Nat.le_trans h.b3 hb.size, ?_, h.inj, h.at1, fun r hr => (h.row r hr).below hb⟩
  obtain ⟨cs, h1, h2⟩ := h.top
  exact ⟨cs, by rw [hb.block bm (Array.getElem?_eq_some_iff.1 h1).1]; exact h1, h2⟩
theorem Sw.more {bd' : Nat → Nat → Nat} {f' : Nat → Nat → Int} (h : Sw w lo hi bm n m gs bd f) (hb : ∀ r c, r < n → c < m → bd r c ≤ bd' r c) (hf : ∀ r c, r < n → c < m → f r c = f' r c) : Sw w lo hi bm n m gs bd' f' :=
  ⟨h.b1, h.b2, h.b3, h.top, h.inj, h.at1, fun r hr => (h.row r hr).more (fun c hc => hb r c hr hc) (fun c hc => hf r c hr hc)⟩
theorem Sw.cell (h : Sw w lo hi bm n m gs bd f) {r : Nat} (hr : r < n) : bm < w.heap.size ∧ w.cell? ⟨bm, r, none⟩ = some (.slice (some ⟨gs r, 0, none⟩) m m) := by
  obtain ⟨cs, h1, h2, h3⟩ := h.top
  exact ⟨(Array.getElem?_eq_some_iff.1 h1).1, (cellOf h1).trans (h3 r hr)⟩
/-- A box that is not of the matrix is written. -/
theorem Sw.turn {o : Nat} (h : Sw w lo hi bm n m gs bd f) (hT : Turn (some o) w w') (ho : o < lo ∨ hi ≤ o) (hc : ∀ k, some o = some k → ∀ z, w.cell? ⟨k, 0, none⟩ ≠ some (.int .u32 z)) : Sw w' lo hi bm n m gs bd f := by
  refine ⟨h.b1, h.b2, Nat.le_trans h.b3 hT.1, ?_, h.inj, h.at1, fun r hr => (h.row r hr).turn hT (by have := h.at1 r hr; omega) hc⟩
  obtain ⟨cs, h1, h2, h3⟩ := h.top
  have := h.b1; have := h.b2
  exact ⟨cs, by rw [hT.2 bm (Array.getElem?_eq_some_iff.1 h1).1 (fun e => by injection e; omega)]; exact h1, h2, h3⟩
/-- A number of the matrix is written. -/
theorem Sw.put (h : Sw w lo hi bm n m gs bd f) {r c : Nat} (hr : r < n) (hc : c < m) (x : Nm) {z : Int} {B : Nat} (hx : Nz w x.n (.slice x.A x.l x.c) z B) (hbm : ∀ r, r < n → gs r ≠ bm) :
    Sw ((w.setCell ⟨gs r, c * 2, none⟩ (.bool x.n)).setCell ⟨gs r, c * 2 + 1, none⟩ (.slice x.A x.l x.c)) lo hi bm n m gs (fun r' c' => if r' = r ∧ c' = c then B else bd r' c') (fun r' c' => if r' = r ∧ c' = c then z else f r' c') := by
  have hT := Turn.put w (gs r) (c * 2) (c * 2 + 1) (.bool x.n) (.slice x.A x.l x.c)
  obtain ⟨q, hq⟩ := (h.row r hr).bool0 (by omega)
  have hne32 : ∀ k, some (gs r) = some k → ∀ z, w.cell? ⟨k, 0, none⟩ ≠ some (.int .u32 z) := by
    intro k hk z
    injection hk with hk
    rw [← hk, hq]
    intro e; cases e
  refine ⟨h.b1, h.b2, Nat.le_trans h.b3 hT.1, ?_, h.inj, h.at1, fun r' hr' => ?_⟩
  · obtain ⟨cs, h1, h2, h3⟩ := h.top
    exact ⟨cs, by rw [hT.2 bm (Array.getElem?_eq_some_iff.1 h1).1 (fun e => hbm r hr (by injection e))]; exact h1, h2, h3⟩
  · by_cases e : r' = r
    · subst e
      exact ((h.row r' hr').put hc x hx).more (fun c' _ => by by_cases e : c' = c <;> simp [e]) (fun c' _ => by by_cases e : c' = c <;> simp [e])
    · exact ((h.row r' hr').turn hT (fun e2 => e (h.inj _ _ hr' hr e2.symm)) hne32).more (fun c' _ => by simp [e]) (fun c' _ => by simp [e])
/-- Rows change places. -/
def swapN {α : Type} (p k : Nat) (g : Nat → α) (r : Nat) : α := if r = p then g k else if r = k then g p else g r
theorem Sw.swap (h : Sw w lo hi bm n m gs bd f) {p k : Nat} (hp : p < n) (hk : k < n) (hpk : p ≠ k) (hbm : ∀ r, r < n → gs r ≠ bm) :
    Sw ((w.setCell ⟨bm, p, none⟩ (rsl m (gs k))).setCell ⟨bm, k, none⟩ (rsl m (gs p))) lo hi bm n m (swapN p k gs) (swapN p k bd) (swapN p k f) := by
  have hT := Turn.put w bm p k (rsl m (gs k)) (rsl m (gs p))
  obtain ⟨cs, h1, h2, h3⟩ := h.top
  have hne32 : ∀ k, some bm = some k → ∀ z, w.cell? ⟨k, 0, none⟩ ≠ some (.int .u32 z) := by
    intro k hk z
    injection hk with hk
    rw [← hk, cellOf h1, h3 0 (by omega)]
    intro e; cases e
  refine ⟨h.b1, h.b2, Nat.le_trans h.b3 hT.1, ?_, fun r s hr hs e => ?_, fun r hr => ?_, fun r hr => ?_⟩
  · refine ⟨(cs.setIfInBounds p (rsl m (gs k))).setIfInBounds k (rsl m (gs p)), ?_, by simp [h2], fun r hr => ?_⟩
    · have e1 := setCell_block w bm p (rsl m (gs k)) _ _ h1
      exact setCell_block _ bm k (rsl m (gs p)) _ _ e1
    · unfold swapN
      by_cases e1 : r = p
      · subst e1
        rw [if_pos rfl, Array.getElem?_setIfInBounds_ne (fun e => hpk e.symm), Array.getElem?_setIfInBounds_self_of_lt (by omega)]
      · rw [if_neg e1]
        by_cases e2 : r = k
        · subst e2
          rw [if_pos rfl, Array.getElem?_setIfInBounds_self_of_lt (by simp; omega)]
        · rw [if_neg e2, Array.getElem?_setIfInBounds_ne (fun e => e2 e.symm), Array.getElem?_setIfInBounds_ne (fun e => e1 e.symm)]
          exact h3 r hr
  · unfold swapN at e
    have q1 := h.inj r s hr hs
    have q2 := h.inj k s hk hs
    have q3 := h.inj p s hp hs
    have q4 := h.inj r k hr hk
    have q5 := h.inj r p hr hp
    have q6 := h.inj k p hk hp
    have q7 := h.inj p k hp hk
    split at e <;> split at e <;> (try split at e) <;> (try split at e) <;> first | omega | (have := q1 e; omega) | (have := q2 e; omega) | (have := q3 e; omega) | (have := q4 e; omega) | (have := q5 e; omega) | (have := q6 e; omega) | (have := q7 e; omega)
  · unfold swapN
    split
    · exact h.at1 k hk
    · split
      · exact h.at1 p hp
      · exact h.at1 r hr
  · have hrow : ∀ s, s < n → Rwb _ (gs s) m (bd s) (f s) := fun s hs => (h.row s hs).turn hT (fun e => hbm s hs e.symm) hne32
    unfold swapN
    split
    · exact hrow k hk
    · split
      · exact hrow p hp
      · exact hrow r hr
theorem Sw.nbm (h : Sw w lo hi bm n m gs bd f) : ∀ r, r < n → gs r ≠ bm := fun r hr e => by
  obtain ⟨cs, h1, -⟩ := h.top
  obtain ⟨L, h2, -⟩ := h.row r hr
  rw [e, h1] at h2
  injection h2 with h2
  injection h2 with _ h2
  exact absurd h2 (by decide)
end Go.Proofs.YtmidifgnpjlgcaaGreat
