/- The texts Ok, Ol, Om, On of the walk of the law and of all that it calls, in one file. No condition. -/
import Derived.Test.YtmidifgnpjlgcaaGreatY8
/- The walk of Steep. -/
set_option linter.unusedVariables false
set_option linter.unusedSimpArgs false
namespace Go.Proofs.YtmidifgnpjlgcaaGreat
open Go.RowKit

theorem Turn.put (w : World) (g i j : Nat) (u v : Value) : Turn (some g) w ((w.setCell ⟨g, i, none⟩ u).setCell ⟨g, j, none⟩ v) :=
  ⟨by simp [World.setCell], fun k hk hne => by rw [Below.heap_setCell _ _ _ _ (by show k ≠ g; exact fun e => hne (by rw [e])), Below.heap_setCell _ _ _ _ (by show k ≠ g; exact fun e => hne (by rw [e]))]⟩
theorem Swn.turn {w w' : World} {base : Nat} {e e' : TypeId} {v : Value} {vs : List Value} {o : Option Nat} (h : Swn w base e v vs) (hT : Turn o w w') (ho : Tagged w o e') (he : e' ≠ e) : Swn w' base e v vs := by
  refine ⟨owns_turn h.1 hT ho he, fun k hk z => ?_, h.2.2⟩
  obtain ⟨cs, hc⟩ := h.tag k hk
  have hlt := (Array.getElem?_eq_some_iff.1 hc).1
  rw [cell_of_heap (hT.2 k hlt (fun eo => by
    obtain ⟨ds, hd⟩ := ho k eo
    rw [hc] at hd
    injection hd with hd
    injection hd with _ hd
    exact he hd.symm))]
  exact h.2.1 k hk z
theorem Keep.tagl {w0 w : World} {l : List (Nat × Obj)} {g : Nat} {L : List Nm} (K : Keep w0 l w) (m : (g, Obj.lst L) ∈ l) : Tagged w (some g) 30 := fun k hk => by
  injection hk with hk
  subst hk
  exact ⟨_, K.box _ m⟩

variable {w0 w : World} {l l2 : List (Nat × Obj)}
theorem Keep.lsta {b : Nat} {L : List Nm} {N : Nat} {f : Nat → Int} (K : Hid (Keep w0 l w)) (m : (b, Obj.lst L) ∈ l) (he : Els w L N f) (j : Nat) (hj : j < L.length) : ∃ n A ll c, (∀ p : At (Keep w0 l), p.w.cell? ⟨b, j * 2, none⟩ = some (.bool n)) ∧ (∀ p : At (Keep w0 l), p.w.cell? ⟨b, j * 2 + 1, none⟩ = some (.slice A ll c)) ∧ Nz w n (.slice A ll c) (f j) N := ⟨_, _, _, _, fun p => (p.h.lstc m j hj).1, fun p => (p.h.lstc m j hj).2, he j hj⟩

/-- Half of how steep the cost is. -/
def steepF (rs : List Rw) (xs : List Int) (j : Nat) : Int := sumTo (fun i => (stl (rs.getD i Rw.zero) xs).getD j 0) rs.length
/-- So many rows, and of the next one so many numbers. -/
def steepI (rs : List Rw) (xs : List Int) (i m : Nat) (j : Nat) : Int := sumTo (fun i => (stl (rs.getD i Rw.zero) xs).getD j 0) i + if j < m then (stl (rs.getD i Rw.zero) xs).getD j 0 else 0
theorem steepI_zero (rs : List Rw) (xs : List Int) (i j : Nat) : sumTo (fun i => (stl (rs.getD i Rw.zero) xs).getD j 0) i = steepI rs xs i 0 j := by simp [steepI]
theorem steepI_succ (rs : List Rw) (xs : List Int) (i m j : Nat) : (if j = m then steepI rs xs i m m + (stl (rs.getD i Rw.zero) xs).getD m 0 else steepI rs xs i m j) = steepI rs xs i (m + 1) j := by
  unfold steepI
  by_cases e : j = m
  · subst e; simp
  · rw [if_neg e]
    by_cases h : j < m
    · rw [if_pos h, if_pos (by omega)]
    · rw [if_neg h, if_neg (by omega)]
theorem steepI_all (rs : List Rw) (xs : List Int) {i m j : Nat} (h : j < m) : steepI rs xs i m j = sumTo (fun i => (stl (rs.getD i Rw.zero) xs).getD j 0) (i + 1) := by
  unfold steepI; rw [if_pos h]; rfl

set_option maxHeartbeats 8000000 in
set_option maxRecDepth 100000 in
theorem steep_any (rv pv qv cs ds t : Value) (cn dn : Bool) (n : Nat) (rs : List Rw) (xs : List Int) (w : World) (h : Gz w rv pv qv cn cs dn ds n rs) (hx : Sta w t xs n) :
    Calls Tryz.prog 66 #[.agg #[.int .i64 n, rv, pv, qv, .bool cn, cs, .bool dn, ds], t] w fun e w' => ∃ v, e = .returned v ∧ Lo w' w.heap.size v n 1000 (steepF rs xs) ∧ Below w.heap.size w w' := by
  obtain ⟨CA, cl, cc, rfl⟩ := h.2.2.1.2.2.sl
  obtain ⟨DA, dl, dc, rfl⟩ := h.2.2.2.1.sl
  have HG := Lib.hid h; have HX := Lib.hid hx
  obtain ⟨hl60, hn11⟩ := h.2.2.2.2
  obtain ⟨RA, rc, rfl, -⟩ := h.1
  obtain ⟨PA, pc, rfl, -⟩ := h.2.2.1.1
  obtain ⟨QA, qc, rfl, -⟩ := h.2.2.1.2.1
  obtain ⟨B, d, rfl, -⟩ := hx.1
  obtain hxl := hx.2.1
  have K := Lib.hid (Keep.begin2 w (.cells #[.int .i64 n, .slice RA rs.length rc, .slice PA n pc, .slice QA n qc, .bool cn, .slice CA cl cc, .bool dn, .slice DA dl dc] 34) (.cells #[.slice B xs.length d] 23))
  clear h hx
  have hmk := mk_lst n (by omega) n rfl
  rw [hxl] at K ⊢
  go_enter Tryz.func66, Tryz.ntmps66
  go_upto_region 1 with fail
  (refine out_keep K.out ?_; clear K; intro W K; replace K := Lib.hid K)
  have x0 := K.out.cell (k := 0) (.head _) rfl
  go_upto_region 2 with fail
  clear x0 hmk
  replace K := Lib.hid (K.out.alloc (Obj.lst (List.replicate n Nm.zero)))
  generalize W.heap.size = gs at *
  (refine out_keep K.out ?_; clear K; intro W K; replace K := Lib.hid K)
  have x1 := K.out.cell (k := 1) (.tail _ (.tail _ (.head _))) rfl
  have HC : Hid (Cap W (w.heap.size + 1) (.slice B n d)) := Lib.hid ⟨K.out.lt (.tail _ (.head _)), K.out.cell (.tail _ (.head _)) rfl⟩
  rw [hxl] at HX
  go_wp2_with fail
  refine (each95_any _ rs (w.heap.size + 1) _ xs n _ (HG.out.1.below K.out.B) (by omega) HG.out.2.1 HC.out (HX.out.below K.out.B)).mono ?_
  rintro e w2 ⟨u, vs, rfl, hS, hvl, hall, hb⟩
  replace K := Lib.hid (Keep.stays _ _ K.out hb)
  have HS := Lib.hid (And.intro hS hall)
  have HVL := Lib.hid hvl
  obtain ⟨VA, vc, rfl, -⟩ := hS.at
  clear hb x1 HC hS hall hvl
  rw [HVL.out]
  go_wp2_with fail
  go_loopg [20] rs.length (fun gk iv wr => ∃ (i : Nat) (L : List Nm), gk + i = rs.length ∧ iv = .int .i64 (i : Int) ∧ L.length = n ∧ Els wr L (2 + i * 11) (fun j => sumTo (fun i => (stl (rs.getD i Rw.zero) xs).getD j 0) i) ∧ (Swn wr W.heap.size 23 (.slice VA vs.length vc) vs ∧ All vs (fun j x => Qr wr x (stl (rs.getD j Rw.zero) xs))) ∧ Keep w [(gs, Obj.lst L), (w.heap.size + 1, .cells #[.slice B n d] 23), (w.heap.size, .cells #[.int .i64 n, .slice RA rs.length rc, .slice PA n pc, .slice QA n qc, .bool cn, .slice CA cl cc, .bool dn, .slice DA dl dc] 34)] wr)
  case atStart => exact ⟨0, _, by omega, rfl, by simp, Els.zero _ _ _, HS.out, K.out⟩
  case round =>
    clear K HS
    obtain ⟨i, L, hgi, rfl, hl, he, hs, k'⟩ := hrel
    have K := Lib.hid k'
    have HL := Lib.hid hl; have HE := Lib.hid he; have HS := Lib.hid hs
    clear k' hl he hs
    by_cases hi : i < rs.length
    · obtain ⟨A', c', e', -, hat⟩ := HS.out.1.at
      cases e'
      obtain ⟨gv, rfl, hgv, hgv2, hcell⟩ := hat i (by rw [HVL.out]; exact hi)
      obtain ⟨hys, h64⟩ := HS.out.2 i (show i < vs.length by rw [HVL.out]; exact hi)
      have hyl : (stl (rs.getD i Rw.zero) xs).length = n := by unfold stl; rw [List.length_map]; exact (HG.out.2.1 _ (mem_of_lt hi)).1
      generalize hYS : stl (rs.getD i Rw.zero) xs = ys at *
      have HYS := Lib.hid hYS
      clear hYS
      obtain ⟨YA, yc, hye, -⟩ := hys.el
      rw [hye] at hcell hys
      rw [hyl] at hcell hys
      have HY := Lib.hid (And.intro hys h64)
      have HYL := Lib.hid hyl
      clear hye hys h64 hyl hgv hgv2 hat
      go_wp2_with fail
      clear hcell
      go_loopg [26] n (fun g2 jv wr2 => ∃ (j : Nat) (L : List Nm), g2 + j = n ∧ jv = .int .i64 (j : Int) ∧ L.length = n ∧ Els wr2 L (2 + i * 11 + j) (steepI rs xs i j) ∧ (Swn wr2 W.heap.size 23 (.slice (some ⟨gv, 0, none⟩) vs.length vc) vs ∧ All vs (fun j x => Qr wr2 x (stl (rs.getD j Rw.zero) xs))) ∧ Qwn wr2 0 (.slice YA n yc) ys ∧ Keep w [(gs, Obj.lst L), (w.heap.size + 1, .cells #[.slice B n d] 23), (w.heap.size, .cells #[.int .i64 n, .slice RA rs.length rc, .slice PA n pc, .slice QA n qc, .bool cn, .slice CA cl cc, .bool dn, .slice DA dl dc] 34)] wr2)
      case atStart => exact ⟨0, _, by omega, rfl, HL.out, HE.out.more (by omega) (fun k _ => steepI_zero rs xs i k), HS.out, HY.out.1, K.out⟩
      case round =>
        have H64 := Lib.hid HY.out.2
        clear K HS HE HL HY
        obtain ⟨j, L, hgj, rfl, hl, he, hs, hy, k'⟩ := hrel
        have K := Lib.hid k'
        have HL := Lib.hid hl; have HE := Lib.hid he; have HS := Lib.hid hs; have HY := Lib.hid hy
        clear k' hl he hs hy
        by_cases hj : j < n
        · obtain ⟨A', c', e', hel⟩ := HY.out.el
          rw [HYL.out] at e'
          cases e'
          obtain ⟨gy, rfl, -, -, hyc⟩ := hel j (by rw [HYL.out]; exact hj)
          obtain ⟨r1, r2⟩ := H64.out j (by rw [HYL.out]; exact hj)
          obtain ⟨zz, hzz⟩ : ∃ z, z = ys.getD j 0 := ⟨_, rfl⟩
          rw [← hzz] at hyc r1 r2
          have HZZ := Lib.hid hzz
          clear hel hzz
          go_upto_region 8 with fail
          clear hyc
          (refine region_ord _ 9 (by kernel_rfl) (by kernel_rfl) K.out.drew ?_; clear K; intro W K hbw; replace K := Lib.hid K)
          replace HE := Lib.hid (HE.out.below hbw)
          replace HS := Lib.hid (And.intro (HS.out.1.below hbw) (HS.out.2.mono fun j x _ hx => hx.below hbw))
          replace HY := Lib.hid (HY.out.below hbw)
          clear hbw
          obtain ⟨n0, A0, l0, c0, x0, x1, hn0⟩ := Keep.lsta K (.head _) HE.out j (by rw [HL.out]; exact hj)
          have H0 := Lib.hid hn0
          clear hn0
          (refine Ord.take' 0 rfl (by kernel_rfl) (fun _ _ _ _ h => h) K.out (by rfl) ?_; apply Exists.intro; refine ⟨fun p => ?_, ?_⟩; (focus (go_simp; (try (with_reducible rfl)); done)); (try simp only [Act.put, List.setIfInBounds_toArray, List.set_cons_zero, List.set_cons_succ]))
          (refine Ord.take' 1 rfl (by kernel_rfl) (fun _ _ _ _ h => h) K.out (by rfl) ?_; apply Exists.intro; refine ⟨fun p => ?_, ?_⟩; (focus (go_simp; (try (with_reducible rfl)); done)); (try simp only [Act.put, List.setIfInBounds_toArray, List.set_cons_zero, List.set_cons_succ]))
          (refine Ord.take' 2 rfl (by kernel_rfl) (fun _ _ _ _ h => h) K.out (by rfl) ?_; apply Exists.intro; refine ⟨fun p => ?_, ?_⟩; (focus (go_simp; (try (with_reducible rfl)); done)); (try simp only [Act.put, List.setIfInBounds_toArray, List.set_cons_zero, List.set_cons_succ]))
          (refine Ord.take' 3 rfl (by kernel_rfl) (fun _ _ _ _ h => h) K.out (by rfl) ?_; apply Exists.intro; refine ⟨fun p => ?_, ?_⟩; (focus (go_simp; (try (with_reducible rfl)); done)); (try simp only [Act.put, List.setIfInBounds_toArray, List.set_cons_zero, List.set_cons_succ]))
          (refine Ord.take' 4 rfl (by kernel_rfl) (fun _ _ _ _ h => h) K.out (by rfl) ?_; apply Exists.intro; refine ⟨fun p => ?_, ?_⟩; (focus (go_simp; (try (with_reducible rfl)); done)); (try simp only [Act.put, List.setIfInBounds_toArray, List.set_cons_zero, List.set_cons_succ]))
          (refine Ord.take' 5 rfl (by kernel_rfl) (fun _ _ _ _ h => h) K.out (by rfl) ?_; apply Exists.intro; refine ⟨fun p => ?_, ?_⟩; (focus (go_simp; (try (with_reducible rfl)); done)); (try simp only [Act.put, List.setIfInBounds_toArray, List.set_cons_zero, List.set_cons_succ]))
          (refine Ord.take' 6 rfl (by kernel_rfl) (fun _ _ _ _ h => h) K.out (by rfl) ?_; apply Exists.intro; refine ⟨fun p => ?_, ?_⟩; (focus (go_simp; (try (with_reducible rfl)); done)); (try simp only [Act.put, List.setIfInBounds_toArray, List.set_cons_zero, List.set_cons_succ]))
          clear x0 x1
          (refine Ord.call 7 (g := 19) (args := (#[.int .i64 zz])) rfl (by kernel_rfl) (by rfl) (by (go_simp; try (with_reducible rfl))) ?_)
          refine (int_nz zz _ r1 r2).mono ?_
          rintro e w3 ⟨q3, A3, l3, k3, rfl, hN3, hb⟩
          (refine ⟨_, rfl, Keep.stays _ _ K.out hb, ?_⟩; replace K := Lib.hid (Keep.stays _ _ K.out hb); simp only [Act.put, List.setIfInBounds_toArray, List.set_cons_zero, List.set_cons_succ])
          replace H0 := Lib.hid (H0.out.below hb)
          replace HE := Lib.hid (HE.out.below hb)
          replace HS := Lib.hid (And.intro (HS.out.1.below hb) (HS.out.2.mono fun j x _ hx => hx.below hb))
          replace HY := Lib.hid (HY.out.below hb)
          clear hb
          (refine Ord.call 8 (g := 43) (args := (#[.agg #[.bool n0, .slice A0 l0 c0], .agg #[.bool q3, .slice A3 l3 k3]])) rfl (by kernel_rfl) (by rfl) (by (go_simp; try (with_reducible rfl))) ?_)
          refine (add_nz H0.out hN3 (by omega) (by omega)).mono ?_
          rintro e w4 ⟨q4, A4, l4, k4, rfl, hN4, hb⟩
          (refine ⟨_, rfl, Keep.stays _ _ K.out hb, ?_⟩; replace K := Lib.hid (Keep.stays _ _ K.out hb); simp only [Act.put, List.setIfInBounds_toArray, List.set_cons_zero, List.set_cons_succ])
          replace HE := Lib.hid (HE.out.below hb)
          replace HS := Lib.hid (And.intro (HS.out.1.below hb) (HS.out.2.mono fun j x _ hx => hx.below hb))
          replace HY := Lib.hid (HY.out.below hb)
          have H4 := Lib.hid hN4
          clear hb hN3 hN4 H0
          (refine Ord.done (by kernel_rfl) ?_; simp only [List.drop_succ_cons, List.drop_zero, Act.put, List.setIfInBounds_toArray, List.set_cons_zero, List.set_cons_succ])
          obtain ⟨c0', c1'⟩ := K.out.lstc (.head _) j (by rw [HL.out]; exact hj)
          have f1 := K.out.lstw (.head _)
          go_wp2_with fail
          clear c0' c1' f1
          go_roundg (n - (j + 1))
          case measure => omega
          case rel =>
            have c00 := (K.out.lstc (.head _) 0 (by rw [HL.out]; omega)).1
            have hT := Turn.put w4 gs (j * 2) (j * 2 + 1) (.bool q4) (.slice A4 l4 k4)
            have hG := K.out.tagl (.head _)
            exact ⟨j + 1, L.set j ⟨q4, A4, l4, k4⟩, by omega, congrArg (Value.int .i64) (by omega), by rw [List.length_set]; exact HL.out, ((((HE.out.putAt c00 _ _).more (by omega) (fun _ _ => rfl)).set j ⟨q4, A4, l4, k4⟩ ((H4.out.putAt c00 _ _).more (by omega))).more (Nat.le_refl _) (fun k _ => by rw [HZZ.out, ← HYS.out]; exact steepI_succ rs xs i j k)), ⟨HS.out.1.turn hT hG (by decide), HS.out.2.mono fun j x _ hx => hx.turn hT hG (by decide)⟩, HY.out.turn hT hG (by decide), K.out.setl_0 j ⟨q4, A4, l4, k4⟩⟩
        · clear HY
          go_wp2_with fail
          go_roundg (rs.length - (i + 1))
          case measure => omega
          case rel => exact ⟨i + 1, L, by omega, congrArg (Value.int .i64) (by omega), HL.out, HE.out.more (by omega) (fun k hk => steepI_all rs xs (by have := HL.out; omega)), HS.out, K.out⟩
    · clear HS
      go_upto_region 11 with fail
      (refine region_ord _ 6 (by kernel_rfl) (by kernel_rfl) K.out.drew ?_; clear K; intro W K hbw; replace K := Lib.hid K)
      replace HE := Lib.hid (HE.out.below hbw)
      clear hbw
      have x2 := Keep.acell (k := 2) K (.tail _ (.tail _ (.head _))) rfl
      have x3 := Keep.acell (k := 3) K (.tail _ (.tail _ (.head _))) rfl
      have x4 := Keep.acell (k := 4) K (.tail _ (.tail _ (.head _))) rfl
      have x5 := Keep.acell (k := 5) K (.tail _ (.tail _ (.head _))) rfl
      have y0 := Keep.acell (k := 0) K (.tail _ (.head _)) rfl
      (refine Ord.take' 0 rfl (by kernel_rfl) (fun _ _ _ _ h => h) K.out (by rfl) ?_; apply Exists.intro; refine ⟨fun p => ?_, ?_⟩; (focus (go_simp; (try (with_reducible rfl)); done)); (try simp only [Act.put, List.setIfInBounds_toArray, List.set_cons_zero, List.set_cons_succ]))
      (refine Ord.take' 1 rfl (by kernel_rfl) (fun _ _ _ _ h => h) K.out (by rfl) ?_; apply Exists.intro; refine ⟨fun p => ?_, ?_⟩; (focus (go_simp; (try (with_reducible rfl)); done)); (try simp only [Act.put, List.setIfInBounds_toArray, List.set_cons_zero, List.set_cons_succ]))
      (refine Ord.take' 2 rfl (by kernel_rfl) (fun _ _ _ _ h => h) K.out (by rfl) ?_; apply Exists.intro; refine ⟨fun p => ?_, ?_⟩; (focus (go_simp; (try (with_reducible rfl)); done)); (try simp only [Act.put, List.setIfInBounds_toArray, List.set_cons_zero, List.set_cons_succ]))
      clear x2 x3 x4 x5 y0
      (refine Ord.call 3 (g := 45) (args := (#[.slice B n d, .func (.func 19) #[] #[]])) rfl (by kernel_rfl) (by rfl) (by (go_simp; try (with_reducible rfl))) ?_)
      have he45 := each45_any (.slice B n d) xs _ (HX.out.1.below K.out.B) (by rw [HX.out.2.1]; omega)
      refine he45.mono ?_
      clear he45
      rintro e w4 ⟨v4, rfl, hL4, hb⟩
      (refine ⟨_, rfl, Keep.stays _ _ K.out hb, ?_⟩; replace K := Lib.hid (Keep.stays _ _ K.out hb); simp only [Act.put, List.setIfInBounds_toArray, List.set_cons_zero, List.set_cons_succ])
      replace HE := Lib.hid (HE.out.below hb)
      clear hb
      rw [hxl] at hL4
      obtain ⟨EA, ec, rfl, -⟩ : ∃ A c, v4 = .slice A n c ∧ True := by obtain ⟨A, c, h, -⟩ := hL4; exact ⟨A, c, h, trivial⟩
      (refine Ord.call 4 (g := 54) (args := (#[.agg #[.slice PA n pc, .slice QA n qc, .bool cn, .slice CA cl cc], .slice EA n ec])) rfl (by kernel_rfl) (by rfl) (by (go_simp; try (with_reducible rfl))) ?_)
      refine (qslope_any _ _ _ _ cn n 0 2 _ _ _ _ _ (HG.out.2.2.1.below K.out.B) hL4 hn11 (by omega) (by omega)).mono ?_
      rintro e w5 ⟨v5, rfl, ⟨gp, LP, rfl, hgp, hh, hlp, hep⟩, hb⟩
      have K0 := K
      (refine ⟨_, rfl, Keep.stays _ _ K.out hb, ?_⟩; replace K := Lib.hid (Keep.stays _ _ K.out hb); simp only [Act.put, List.setIfInBounds_toArray, List.set_cons_zero, List.set_cons_succ])
      replace HE := Lib.hid (HE.out.below hb)
      have K2 := Lib.hid (K0.out.held K.out hh hgp)
      have HLP := Lib.hid (And.intro hlp hep)
      clear hb hL4 hh hgp hlp hep K0
      (refine Ord.take' 5 rfl (by kernel_rfl) (fun _ _ _ _ h => h) K.out (by rfl) ?_; apply Exists.intro; refine ⟨fun p => ?_, ?_⟩; (focus (go_simp; (try (with_reducible rfl)); done)); (try simp only [Act.put, List.setIfInBounds_toArray, List.set_cons_zero, List.set_cons_succ]))
      (refine Ord.done (by kernel_rfl) ?_; simp only [List.drop_succ_cons, List.drop_zero, Act.put, List.setIfInBounds_toArray, List.set_cons_zero, List.set_cons_succ])
      replace K := K2
      clear K2
      replace HE : Hid (Els _ L 700 (steepF rs xs)) := Lib.hid (HE.out.more (by omega) (fun k _ => by rw [show i = rs.length by omega]; rfl))
      go_wp2_with fail
      go_loopg [50] n (fun g3 jv wr3 => ∃ (j : Nat) (L : List Nm), g3 + j = n ∧ jv = .int .i64 (j : Int) ∧ L.length = n ∧ Els wr3 L (700 + j * 4) (steepF rs xs) ∧ Els wr3 LP 60 (fun _ => 0) ∧ Keep w [(gp, Obj.lst LP), (gs, Obj.lst L), (w.heap.size + 1, .cells #[.slice B n d] 23), (w.heap.size, .cells #[.int .i64 n, .slice RA rs.length rc, .slice PA n pc, .slice QA n qc, .bool cn, .slice CA cl cc, .bool dn, .slice DA dl dc] 34)] wr3)
      case atStart => exact ⟨0, L, by omega, rfl, HL.out, HE.out, HLP.out.2.more (by omega) (fun k _ => by rw [sumTo_zero _ n (fun _ _ => Int.zero_mul _)]; rfl), K.out⟩
      case round =>
        clear K HE HL
        have HPL := Lib.hid HLP.out.1
        clear HLP
        obtain ⟨j, L, hgj, rfl, hl, he, hp, k'⟩ := hrel
        have K := Lib.hid k'
        have HL := Lib.hid hl; have HE := Lib.hid he; have HP := Lib.hid hp
        clear k' hl he hp
        by_cases hj : j < n
        · go_upto_region 15 with fail
          (refine region_ord _ 14 (by kernel_rfl) (by kernel_rfl) K.out.drew ?_; clear K; intro W K hbw; replace K := Lib.hid K)
          replace HE := Lib.hid (HE.out.below hbw)
          replace HP := Lib.hid (HP.out.below hbw)
          clear hbw
          obtain ⟨n0, A0, l0, c0, x0, x1, hn0⟩ := Keep.lsta K (.tail _ (.head _)) HE.out j (by rw [HL.out]; exact hj)
          obtain ⟨n1, A1, l1, c1, y0, y1, hn1⟩ := Keep.lsta K (.head _) HP.out j (by rw [HPL.out]; exact hj)
          have x6 := Keep.acell (k := 6) K (.tail _ (.tail _ (.tail _ (.head _)))) rfl
          have x7 := Keep.acell (k := 7) K (.tail _ (.tail _ (.tail _ (.head _)))) rfl
          have H0 := Lib.hid hn0
          have H1 := Lib.hid hn1
          clear hn0 hn1
          (refine Ord.take' 0 rfl (by kernel_rfl) (fun _ _ _ _ h => h) K.out (by rfl) ?_; apply Exists.intro; refine ⟨fun p => ?_, ?_⟩; (focus (go_simp; (try (with_reducible rfl)); done)); (try simp only [Act.put, List.setIfInBounds_toArray, List.set_cons_zero, List.set_cons_succ]))
          (refine Ord.take' 1 rfl (by kernel_rfl) (fun _ _ _ _ h => h) K.out (by rfl) ?_; apply Exists.intro; refine ⟨fun p => ?_, ?_⟩; (focus (go_simp; (try (with_reducible rfl)); done)); (try simp only [Act.put, List.setIfInBounds_toArray, List.set_cons_zero, List.set_cons_succ]))
          (refine Ord.take' 2 rfl (by kernel_rfl) (fun _ _ _ _ h => h) K.out (by rfl) ?_; apply Exists.intro; refine ⟨fun p => ?_, ?_⟩; (focus (go_simp; (try (with_reducible rfl)); done)); (try simp only [Act.put, List.setIfInBounds_toArray, List.set_cons_zero, List.set_cons_succ]))
          (refine Ord.take' 3 rfl (by kernel_rfl) (fun _ _ _ _ h => h) K.out (by rfl) ?_; apply Exists.intro; refine ⟨fun p => ?_, ?_⟩; (focus (go_simp; (try (with_reducible rfl)); done)); (try simp only [Act.put, List.setIfInBounds_toArray, List.set_cons_zero, List.set_cons_succ]))
          (refine Ord.take' 4 rfl (by kernel_rfl) (fun _ _ _ _ h => h) K.out (by rfl) ?_; apply Exists.intro; refine ⟨fun p => ?_, ?_⟩; (focus (go_simp; (try (with_reducible rfl)); done)); (try simp only [Act.put, List.setIfInBounds_toArray, List.set_cons_zero, List.set_cons_succ]))
          (refine Ord.take' 5 rfl (by kernel_rfl) (fun _ _ _ _ h => h) K.out (by rfl) ?_; apply Exists.intro; refine ⟨fun p => ?_, ?_⟩; (focus (go_simp; (try (with_reducible rfl)); done)); (try simp only [Act.put, List.setIfInBounds_toArray, List.set_cons_zero, List.set_cons_succ]))
          (refine Ord.take' 6 rfl (by kernel_rfl) (fun _ _ _ _ h => h) K.out (by rfl) ?_; apply Exists.intro; refine ⟨fun p => ?_, ?_⟩; (focus (go_simp; (try (with_reducible rfl)); done)); (try simp only [Act.put, List.setIfInBounds_toArray, List.set_cons_zero, List.set_cons_succ]))
          (refine Ord.take' 7 rfl (by kernel_rfl) (fun _ _ _ _ h => h) K.out (by rfl) ?_; apply Exists.intro; refine ⟨fun p => ?_, ?_⟩; (focus (go_simp; (try (with_reducible rfl)); done)); (try simp only [Act.put, List.setIfInBounds_toArray, List.set_cons_zero, List.set_cons_succ]))
          (refine Ord.take' 9 rfl (by kernel_rfl) (fun _ _ _ _ h => h) K.out (by rfl) ?_; apply Exists.intro; refine ⟨fun p => ?_, ?_⟩; (focus (go_simp; (try (with_reducible rfl)); done)); (try simp only [Act.put, List.setIfInBounds_toArray, List.set_cons_zero, List.set_cons_succ]))
          (refine Ord.take' 10 rfl (by kernel_rfl) (fun _ _ _ _ h => h) K.out (by rfl) ?_; apply Exists.intro; refine ⟨fun p => ?_, ?_⟩; (focus (go_simp; (try (with_reducible rfl)); done)); (try simp only [Act.put, List.setIfInBounds_toArray, List.set_cons_zero, List.set_cons_succ]))
          (refine Ord.take' 11 rfl (by kernel_rfl) (fun _ _ _ _ h => h) K.out (by rfl) ?_; apply Exists.intro; refine ⟨fun p => ?_, ?_⟩; (focus (go_simp; (try (with_reducible rfl)); done)); (try simp only [Act.put, List.setIfInBounds_toArray, List.set_cons_zero, List.set_cons_succ]))
          (refine Ord.take' 12 rfl (by kernel_rfl) (fun _ _ _ _ h => h) K.out (by rfl) ?_; apply Exists.intro; refine ⟨fun p => ?_, ?_⟩; (focus (go_simp; (try (with_reducible rfl)); done)); (try simp only [Act.put, List.setIfInBounds_toArray, List.set_cons_zero, List.set_cons_succ]))
          clear x0 x1 y0 y1 x6 x7
          (refine Ord.call 8 (g := 23) (args := (#[.agg #[.bool n0, .slice A0 l0 c0], .agg #[.bool dn, .slice DA dl dc]])) rfl (by kernel_rfl) (by rfl) (by (go_simp; try (with_reducible rfl))) ?_)
          refine (mul_nz H0.out (HG.out.2.2.2.1.below K.out.B) (by omega) (by omega)).mono ?_
          rintro e w6 ⟨q3, A3, l3, k3, rfl, hN3, hb⟩
          (refine ⟨_, rfl, Keep.stays _ _ K.out hb, ?_⟩; replace K := Lib.hid (Keep.stays _ _ K.out hb); simp only [Act.put, List.setIfInBounds_toArray, List.set_cons_zero, List.set_cons_succ])
          replace H1 := Lib.hid (H1.out.below hb)
          replace HE := Lib.hid (HE.out.below hb)
          replace HP := Lib.hid (HP.out.below hb)
          clear hb H0
          (refine Ord.call 13 (g := 43) (args := (#[.agg #[.bool q3, .slice A3 l3 k3], .agg #[.bool n1, .slice A1 l1 c1]])) rfl (by kernel_rfl) (by rfl) (by (go_simp; try (with_reducible rfl))) ?_)
          refine (add_nz hN3 H1.out (by omega) (by omega)).mono ?_
          rintro e w7 ⟨q4, A4, l4, k4, rfl, hN4, hb⟩
          (refine ⟨_, rfl, Keep.stays _ _ K.out hb, ?_⟩; replace K := Lib.hid (Keep.stays _ _ K.out hb); simp only [Act.put, List.setIfInBounds_toArray, List.set_cons_zero, List.set_cons_succ])
          replace HE := Lib.hid (HE.out.below hb)
          replace HP := Lib.hid (HP.out.below hb)
          have H4 := Lib.hid hN4
          clear hb hN3 hN4 H1
          (refine Ord.done (by kernel_rfl) ?_; simp only [List.drop_succ_cons, List.drop_zero, Act.put, List.setIfInBounds_toArray, List.set_cons_zero, List.set_cons_succ])
          obtain ⟨c0', c1'⟩ := K.out.lstc (.tail _ (.head _)) j (by rw [HL.out]; exact hj)
          have f1 := K.out.lstw (.tail _ (.head _))
          go_wp2_with fail
          clear c0' c1' f1
          go_roundg (n - (j + 1))
          case measure => omega
          case rel =>
            have c00 := (K.out.lstc (.tail _ (.head _)) 0 (by rw [HL.out]; omega)).1
            exact ⟨j + 1, L.set j ⟨q4, A4, l4, k4⟩, by omega, congrArg (Value.int .i64) (by omega), by rw [List.length_set]; exact HL.out, (((HE.out.putAt c00 _ _).more (by omega) (fun _ _ => rfl)).set j ⟨q4, A4, l4, k4⟩ ((H4.out.putAt c00 _ _).more (by omega))).more (Nat.le_refl _) (fun k _ => by by_cases e : k = j <;> simp [e]), HP.out.putAt c00 _ _, K.out.setl [_] j ⟨q4, A4, l4, k4⟩⟩
        · have HGS := Lib.hid (K.out.own _ (.tail _ (.head _)))
          go_wp2_with fail
          go_ret
          exact ⟨_, rfl, ⟨gs, L, rfl, HGS.out, K.out.box _ (.tail _ (.head _)), HL.out, HE.out.more (by omega) (fun _ _ => rfl)⟩, K.out.B⟩
end Go.Proofs.YtmidifgnpjlgcaaGreat
/- The walk of Flat. -/
set_option linter.unusedVariables false
set_option linter.unusedSimpArgs false
namespace Go.Proofs.YtmidifgnpjlgcaaGreat
open Go.RowKit

/-- Is it steep nowhere? -/
def flatB (rs : List Rw) (xs : List Int) (n : Nat) (most : Int) : Bool := decide (∀ j, j < n → steepF rs xs j ≤ most ∧ -steepF rs xs j ≤ most)
theorem flat_no {rs : List Rw} {xs : List Int} {n : Nat} {most : Int} {j : Nat} (hj : j < n) (h : ¬ (steepF rs xs j ≤ most ∧ -steepF rs xs j ≤ most)) : flatB rs xs n most = false := by
  unfold flatB
  exact decide_eq_false (fun k => h (k j hj))

set_option maxHeartbeats 8000000 in
set_option maxRecDepth 100000 in
theorem flat_any (rv pv qv cs ds t : Value) (cn dn : Bool) (n : Nat) (rs : List Rw) (xs : List Int) (most : Int) (w : World) (h : Gz w rv pv qv cn cs dn ds n rs) (hx : Sta w t xs n) (hm : i64 most) :
    Calls Tryz.prog 32 #[.agg #[.int .i64 n, rv, pv, qv, .bool cn, cs, .bool dn, ds], t, .int .i64 most] w fun e w' => e = .returned (.bool (flatB rs xs n most)) ∧ Below w.heap.size w w' := by
  obtain ⟨CA, cl, cc, rfl⟩ := h.2.2.1.2.2.sl
  obtain ⟨DA, dl, dc, rfl⟩ := h.2.2.2.1.sl
  have HG := Lib.hid h; have HX := Lib.hid hx
  obtain ⟨m1, m2⟩ := hm
  obtain ⟨hl60, hn11⟩ := h.2.2.2.2
  obtain ⟨RA, rc, rfl, -⟩ := h.1
  obtain ⟨PA, pc, rfl, -⟩ := h.2.2.1.1
  obtain ⟨QA, qc, rfl, -⟩ := h.2.2.1.2.1
  obtain ⟨B, d, rfl, -⟩ := hx.1
  have K := Lib.hid (Keep.begin1 w (.cells #[.int .i64 n, .slice RA rs.length rc, .slice PA n pc, .slice QA n qc, .bool cn, .slice CA cl cc, .bool dn, .slice DA dl dc] 34))
  clear h hx
  go_enter Tryz.func32, Tryz.ntmps32
  go_upto_region 1 with fail
  (refine out_keep K.out ?_; clear K; intro W K; replace K := Lib.hid K)
  (refine region_float1 _ 6 ⟨5, 7, Obj.num false (.slice none 0 0)⟩ ([(0, 0), (0, 1), (0, 2), (2, 3), (2, 4)]) (by kernel_rfl) (by kernel_rfl) ⟨_, rfl, rfl, rfl, fun a w => rfl, fun md e he => by simp at he⟩ (fun _ _ d _ _ => by cases d <;> exact Iff.rfl) Keep.stays K.out.drew ?_; clear K; intro W K hbw; replace K := Lib.hid K; have K0 := K)
  clear hbw
  have x6 := Keep.acell (k := 6) K (.head _) rfl
  have x7 := Keep.acell (k := 7) K (.head _) rfl
  (refine Ph.read rfl (by rfl) ?_; apply Exists.intro; refine ⟨fun p => ?_, ?_⟩; (focus (go_simp; (try (with_reducible rfl)); done)); (try simp only [Act.put, List.setIfInBounds_toArray, List.set_cons_zero, List.set_cons_succ]))
  (refine Ph.read rfl (by rfl) ?_; apply Exists.intro; refine ⟨fun p => ?_, ?_⟩; (focus (go_simp; (try (with_reducible rfl)); done)); (try simp only [Act.put, List.setIfInBounds_toArray, List.set_cons_zero, List.set_cons_succ]))
  (refine Ph.read rfl (by rfl) ?_; apply Exists.intro; refine ⟨fun p => ?_, ?_⟩; (focus (go_simp; (try (with_reducible rfl)); done)); (try simp only [Act.put, List.setIfInBounds_toArray, List.set_cons_zero, List.set_cons_succ]))
  clear x6 x7
  (refine Ph.call (f := 19) (args := (#[.int .i64 most])) rfl (by rfl) (by (intro w2; go_simp; try (with_reducible rfl))) ?_; intro w2 hb; replace K := Lib.hid (Keep.stays _ _ K.out hb))
  clear hb
  refine (int_nz most _ m1 m2).mono ?_
  rintro e w3 ⟨q3, A3, l3, c3, rfl, hN3, hb⟩
  (refine ⟨_, rfl, hb, ?_⟩; replace K := Lib.hid (Keep.stays _ _ K.out hb); (try simp only [Act.put, List.setIfInBounds_toArray, List.set_cons_zero, List.set_cons_succ]))
  clear hb
  have HN := Lib.hid hN3
  clear hN3
  (refine Ph.call (f := 23) (args := (#[.agg #[.bool dn, .slice DA dl dc], .agg #[.bool q3, .slice A3 l3 c3]])) rfl (by rfl) (by (intro w2; go_simp; try (with_reducible rfl))) ?_; intro w2 hb; replace K := Lib.hid (Keep.stays _ _ K.out hb))
  replace HN := Lib.hid (HN.out.below hb)
  clear hb
  refine (mul_nz (HG.out.2.2.2.1.below K.out.B) HN.out (by omega) (by omega)).mono ?_
  rintro e w4 ⟨q4, A4, l4, c4, rfl, hN4, hb⟩
  (refine ⟨_, rfl, hb, ?_⟩; replace K := Lib.hid (Keep.stays _ _ K.out hb); (try simp only [Act.put, List.setIfInBounds_toArray, List.set_cons_zero, List.set_cons_succ]))
  clear hb HN
  have HN := Lib.hid hN4
  clear hN4
  (intro w2 hb gt hg hge; replace K := Lib.hid (K0.out.held (Keep.stays _ _ K.out hb) hg hge); clear hg hge K0; simp only [ptr, List.drop_succ_cons, List.drop_zero, Act.put, List.setIfInBounds_toArray, List.set_cons_zero, List.set_cons_succ])
  replace HN := Lib.hid (HN.out.below hb)
  clear hb
  obtain ⟨f1, c10, c11⟩ := K.out.nm (.head _)
  go_upto_region 2 with fail
  refine out_with (B := fun W => Nz W q4 (.slice A4 l4 c4) (1 * most) (2 + 2 + 1)) (K.out.putn_0 q4 (.slice A4 l4 c4)) (HN.out.put (K.out.nm (.head _)).2.1 _ _) ?_
  clear K HN f1 c10 c11
  intro W2 K HN
  replace K := Lib.hid K
  replace HN := Lib.hid HN
  have x0 := K.out.cell (k := 0) (.tail _ (.head _)) rfl
  have x1 := K.out.cell (k := 1) (.tail _ (.head _)) rfl
  have x2 := K.out.cell (k := 2) (.tail _ (.head _)) rfl
  have x3 := K.out.cell (k := 3) (.tail _ (.head _)) rfl
  have x4 := K.out.cell (k := 4) (.tail _ (.head _)) rfl
  have x5 := K.out.cell (k := 5) (.tail _ (.head _)) rfl
  have x6 := K.out.cell (k := 6) (.tail _ (.head _)) rfl
  have x7 := K.out.cell (k := 7) (.tail _ (.head _)) rfl
  go_wp2_with fail
  refine (steep_any _ _ _ _ _ _ cn dn n rs xs _ (HG.out.below K.out.B) (HX.out.below K.out.B)).mono ?_
  rintro e w5 ⟨u, rfl, ⟨gp, LP, rfl, hgp, hh, hlp, hep⟩, hb⟩
  have K0 := K
  replace K := Lib.hid (Keep.stays _ _ K.out hb)
  replace HN := Lib.hid (HN.out.below hb)
  replace K := Lib.hid (K0.out.held K.out hh hgp)
  have HE := Lib.hid hep
  have HL := Lib.hid hlp
  clear K0 hb hh hgp hlp hep x0 x1 x2 x3 x4 x5 x6 x7
  go_wp2_with fail
  go_loopg [19] n (fun gk iv wr => ∃ (i : Nat), gk + i = n ∧ iv = .int .i64 (i : Int) ∧ Nz wr q4 (.slice A4 l4 c4) (1 * most) (2 + 2 + 1) ∧ Els wr LP 1000 (steepF rs xs) ∧ (∀ j, j < i → steepF rs xs j ≤ most ∧ -steepF rs xs j ≤ most) ∧ Keep w [(gp, Obj.lst LP), (gt, Obj.num q4 (.slice A4 l4 c4)), (w.heap.size, .cells #[.int .i64 n, .slice RA rs.length rc, .slice PA n pc, .slice QA n qc, .bool cn, .slice CA cl cc, .bool dn, .slice DA dl dc] 34)] wr)
  case atStart => exact ⟨0, by omega, rfl, HN.out, HE.out, fun j hj => absurd hj (by omega), K.out⟩
  case round =>
    clear K HE HN
    obtain ⟨i, hgi, rfl, hn, he, hall, k'⟩ := hrel
    have K := Lib.hid k'
    have HN := Lib.hid hn; have HE := Lib.hid he; have HALL := Lib.hid hall
    clear k' hn he hall
    by_cases hi : i < n
    · have hz1 := HE.out i (show i < LP.length by rw [HL.out]; exact hi)
      have HZV : Hid (steepF rs xs i = steepF rs xs i) := rfl
      generalize hzv : steepF rs xs i = z at hz1
      replace HZV := Lib.hid hzv
      clear hzv
      obtain ⟨c0, c1⟩ := K.out.lstc (.head _) i (by rw [HL.out]; exact hi)
      have H1 := Lib.hid hz1
      generalize (LP[i]'(by rw [HL.out]; exact hi)).n = n1 at *
      generalize (LP[i]'(by rw [HL.out]; exact hi)).A = A1 at *
      generalize (LP[i]'(by rw [HL.out]; exact hi)).l = l1 at *
      generalize (LP[i]'(by rw [HL.out]; exact hi)).c = c1' at *
      clear hz1
      go_upto_region 5 with fail
      clear c0 c1
      replace K := Lib.hid (K.out.alloc (Obj.num n1 (.slice A1 l1 c1')))
      replace HN := Lib.hid (HN.out.below (below_one wr (Obj.num n1 (.slice A1 l1 c1'))))
      replace HE := Lib.hid (HE.out.below (below_one wr (Obj.num n1 (.slice A1 l1 c1'))))
      replace H1 := Lib.hid (H1.out.below (below_one wr (Obj.num n1 (.slice A1 l1 c1'))))
      generalize wr.heap.size = g9 at *
      (refine region_ord _ 11 (by kernel_rfl) (by kernel_rfl) K.out.drew ?_; clear K; intro W K hbw; replace K := Lib.hid K)
      replace HN := Lib.hid (HN.out.below hbw)
      replace HE := Lib.hid (HE.out.below hbw)
      replace H1 := Lib.hid (H1.out.below hbw)
      clear hbw
      obtain ⟨e10, e11⟩ := Keep.anm K (.head _)
      obtain ⟨e20, e21⟩ := Keep.anm K (.tail _ (.tail _ (.head _)))
      (refine Ord.take' 0 rfl (by kernel_rfl) (fun _ _ _ _ h => h) K.out (by rfl) ?_; apply Exists.intro; refine ⟨fun p => ?_, ?_⟩; (focus (go_simp; (try (with_reducible rfl)); done)); (try simp only [Act.put, List.setIfInBounds_toArray, List.set_cons_zero, List.set_cons_succ]))
      (refine Ord.take' 1 rfl (by kernel_rfl) (fun _ _ _ _ h => h) K.out (by rfl) ?_; apply Exists.intro; refine ⟨fun p => ?_, ?_⟩; (focus (go_simp; (try (with_reducible rfl)); done)); (try simp only [Act.put, List.setIfInBounds_toArray, List.set_cons_zero, List.set_cons_succ]))
      (refine Ord.call 2 (g := 24) (args := (#[.agg #[.bool n1, .slice A1 l1 c1'], .agg #[.bool q4, .slice A4 l4 c4]])) rfl (by kernel_rfl) (by rfl) (by (go_simp; try (with_reducible rfl))) ?_)
      refine (icmp_nz H1.out HN.out (by omega) (by omega)).mono ?_
      rintro e w6 ⟨rfl, hb⟩
      (refine ⟨_, rfl, Keep.stays _ _ K.out hb, ?_⟩; replace K := Lib.hid (Keep.stays _ _ K.out hb); simp only [Act.put, List.setIfInBounds_toArray, List.set_cons_zero, List.set_cons_succ])
      replace HN := Lib.hid (HN.out.below hb)
      replace HE := Lib.hid (HE.out.below hb)
      replace H1 := Lib.hid (H1.out.below hb)
      clear hb
      generalize hsg : sgn (z - 1 * most) = sg at *
      have HSG := Lib.hid hsg
      clear hsg
      by_cases hs : 0 < sg
      · (refine Ord.take' 3 rfl (by kernel_rfl) (fun _ _ _ _ h => h) K.out (by rfl) ?_; apply Exists.intro; refine ⟨fun p => ?_, ?_⟩; (focus (go_simp; (try (with_reducible rfl)); done)); (try simp only [Act.put, List.setIfInBounds_toArray, List.set_cons_zero, List.set_cons_succ]))
        (refine Ord.take' 4 rfl (by kernel_rfl) (fun _ _ _ _ h => h) K.out (by rfl) ?_; apply Exists.intro; refine ⟨fun p => ?_, ?_⟩; (focus (go_simp; (try (with_reducible rfl)); done)); (try simp only [Act.put, List.setIfInBounds_toArray, List.set_cons_zero, List.set_cons_succ]))
        (refine Ord.skip 5 rfl (by kernel_rfl) (fun _ _ _ h => h) K.out (by rfl) ?_; (try simp only [Act.put, List.setIfInBounds_toArray, List.set_cons_zero, List.set_cons_succ]))
        (refine Ord.skip 6 rfl (by kernel_rfl) (fun _ _ _ h => h) K.out (by rfl) ?_; (try simp only [Act.put, List.setIfInBounds_toArray, List.set_cons_zero, List.set_cons_succ]))
        (refine Ord.skip 7 rfl (by kernel_rfl) (fun _ _ _ h => h) K.out (by rfl) ?_; (try simp only [Act.put, List.setIfInBounds_toArray, List.set_cons_zero, List.set_cons_succ]))
        (refine Ord.skip 8 rfl (by kernel_rfl) (fun _ _ _ h => h) K.out (by rfl) ?_; (try simp only [Act.put, List.setIfInBounds_toArray, List.set_cons_zero, List.set_cons_succ]))
        (refine Ord.skip 9 rfl (by kernel_rfl) (fun _ _ _ h => h) K.out (by rfl) ?_; (try simp only [Act.put, List.setIfInBounds_toArray, List.set_cons_zero, List.set_cons_succ]))
        (refine Ord.take' 10 rfl (by kernel_rfl) (fun _ _ _ _ h => h) K.out (by rfl) ?_; apply Exists.intro; refine ⟨fun p => ?_, ?_⟩; (focus (go_simp; (try (with_reducible rfl)); done)); (try simp only [Act.put, List.setIfInBounds_toArray, List.set_cons_zero, List.set_cons_succ]))
        clear e10 e11 e20 e21
        (refine Ord.done (by kernel_rfl) ?_; simp only [List.drop_succ_cons, List.drop_zero, Act.put, List.setIfInBounds_toArray, List.set_cons_zero, List.set_cons_succ])
        go_wp2_with fail
        go_ret
        exact ⟨ret_bool (flat_no hi (fun h => by rw [HZV.out] at h; have := sgn_pos'.1 (show 0 < sgn (z - 1 * most) by rw [HSG.out]; exact hs); omega)).symm, K.out.B⟩
      · (refine Ord.take' 3 rfl (by kernel_rfl) (fun _ _ _ _ h => h) K.out (by rfl) ?_; apply Exists.intro; refine ⟨fun p => ?_, ?_⟩; (focus (go_simp; (try (with_reducible rfl)); done)); (try simp only [Act.put, List.setIfInBounds_toArray, List.set_cons_zero, List.set_cons_succ]))
        (refine Ord.take' 4 rfl (by kernel_rfl) (fun _ _ _ _ h => h) K.out (by rfl) ?_; apply Exists.intro; refine ⟨fun p => ?_, ?_⟩; (focus (go_simp; (try (with_reducible rfl)); done)); (try simp only [Act.put, List.setIfInBounds_toArray, List.set_cons_zero, List.set_cons_succ]))
        (refine Ord.take' 5 rfl (by kernel_rfl) (fun _ _ _ _ h => h) K.out (by rfl) ?_; apply Exists.intro; refine ⟨fun p => ?_, ?_⟩; (focus (go_simp; (try (with_reducible rfl)); done)); (try simp only [Act.put, List.setIfInBounds_toArray, List.set_cons_zero, List.set_cons_succ]))
        (refine Ord.take' 7 rfl (by kernel_rfl) (fun _ _ _ _ h => h) K.out (by rfl) ?_; apply Exists.intro; refine ⟨fun p => ?_, ?_⟩; (focus (go_simp; (try (with_reducible rfl)); done)); (try simp only [Act.put, List.setIfInBounds_toArray, List.set_cons_zero, List.set_cons_succ]))
        clear e10 e11 e20 e21
        (refine Ord.call 6 (g := 67) (args := (#[.agg #[.bool n1, .slice A1 l1 c1']])) rfl (by kernel_rfl) (by rfl) (by (go_simp; try (with_reducible rfl))) ?_)
        refine (neg_nz H1.out (by omega)).mono ?_
        rintro e w7 ⟨q7, A7, l7, c7, rfl, hN7, hb⟩
        (refine ⟨_, rfl, Keep.stays _ _ K.out hb, ?_⟩; replace K := Lib.hid (Keep.stays _ _ K.out hb); simp only [Act.put, List.setIfInBounds_toArray, List.set_cons_zero, List.set_cons_succ])
        replace HN := Lib.hid (HN.out.below hb)
        replace HE := Lib.hid (HE.out.below hb)
        clear hb H1
        (refine Ord.call 8 (g := 24) (args := (#[.agg #[.bool q7, .slice A7 l7 c7], .agg #[.bool q4, .slice A4 l4 c4]])) rfl (by kernel_rfl) (by rfl) (by (go_simp; try (with_reducible rfl))) ?_)
        refine (icmp_nz hN7 HN.out (by omega) (by omega)).mono ?_
        rintro e w8 ⟨rfl, hb⟩
        (refine ⟨_, rfl, Keep.stays _ _ K.out hb, ?_⟩; replace K := Lib.hid (Keep.stays _ _ K.out hb); simp only [Act.put, List.setIfInBounds_toArray, List.set_cons_zero, List.set_cons_succ])
        replace HN := Lib.hid (HN.out.below hb)
        replace HE := Lib.hid (HE.out.below hb)
        clear hb hN7
        generalize hsg2 : sgn (-z - 1 * most) = sg2 at *
        have HSG2 := Lib.hid hsg2
        clear hsg2
        by_cases hs2 : 0 < sg2
        · (refine Ord.take' 9 rfl (by kernel_rfl) (fun _ _ _ _ h => h) K.out (by rfl) ?_; apply Exists.intro; refine ⟨fun p => ?_, ?_⟩; (focus (go_simp; (try (with_reducible rfl)); done)); (try simp only [Act.put, List.setIfInBounds_toArray, List.set_cons_zero, List.set_cons_succ]))
          (refine Ord.take' 10 rfl (by kernel_rfl) (fun _ _ _ _ h => h) K.out (by rfl) ?_; apply Exists.intro; refine ⟨fun p => ?_, ?_⟩; (focus (go_simp; (try (with_reducible rfl)); done)); (try simp only [Act.put, List.setIfInBounds_toArray, List.set_cons_zero, List.set_cons_succ]))
          (refine Ord.done (by kernel_rfl) ?_; simp only [List.drop_succ_cons, List.drop_zero, Act.put, List.setIfInBounds_toArray, List.set_cons_zero, List.set_cons_succ])
          go_wp2_with fail
          go_ret
          exact ⟨ret_bool (flat_no hi (fun h => by rw [HZV.out] at h; have := sgn_pos'.1 (show 0 < sgn (-z - 1 * most) by rw [HSG2.out]; exact hs2); omega)).symm, K.out.B⟩
        · (refine Ord.take' 9 rfl (by kernel_rfl) (fun _ _ _ _ h => h) K.out (by rfl) ?_; apply Exists.intro; refine ⟨fun p => ?_, ?_⟩; (focus (go_simp; (try (with_reducible rfl)); done)); (try simp only [Act.put, List.setIfInBounds_toArray, List.set_cons_zero, List.set_cons_succ]))
          (refine Ord.take' 10 rfl (by kernel_rfl) (fun _ _ _ _ h => h) K.out (by rfl) ?_; apply Exists.intro; refine ⟨fun p => ?_, ?_⟩; (focus (go_simp; (try (with_reducible rfl)); done)); (try simp only [Act.put, List.setIfInBounds_toArray, List.set_cons_zero, List.set_cons_succ]))
          (refine Ord.done (by kernel_rfl) ?_; simp only [List.drop_succ_cons, List.drop_zero, Act.put, List.setIfInBounds_toArray, List.set_cons_zero, List.set_cons_succ])
          go_wp2_with fail
          go_roundg (gk - 1)
          case measure => omega
          case rel =>
            refine ⟨i + 1, by omega, congrArg (Value.int .i64) (by omega), HN.out, HE.out, fun j hj => ?_, K.out.rest⟩
            by_cases e : j = i
            · rw [e, HZV.out]
              have k1 : ¬ 0 < z - 1 * most := fun h => by have h2 := sgn_pos'.2 h; rw [HSG.out] at h2; omega
              have k2 : ¬ 0 < -z - 1 * most := fun h => by have h2 := sgn_pos'.2 h; rw [HSG2.out] at h2; omega
              omega
            · exact HALL.out j (by omega)
    · go_wp2_with fail
      go_ret
      exact ⟨ret_bool (decide_eq_true (fun j hj => HALL.out j (by omega))).symm, K.out.B⟩
end Go.Proofs.YtmidifgnpjlgcaaGreat
/- Whether rows may be; a matrix of which a function tells each place. -/
set_option linter.unusedVariables false
set_option linter.unusedSimpArgs false
namespace Go.Proofs.YtmidifgnpjlgcaaGreat
open Go.RowKit

noncomputable def rokB (r : Rw) (n : Nat) : Bool := @decide (RwOk r n) (Classical.propDecidable _)
theorem rokB_iff (r : Rw) (n : Nat) : rokB r n = true ↔ RwOk r n := by unfold rokB; exact @decide_eq_true_iff _ (Classical.propDecidable _)

variable {w0 w : World} {l l2 : List (Nat × Obj)}
set_option maxHeartbeats 4000000 in
set_option maxRecDepth 100000 in
theorem not26_any (v : Value) (r : Rw) (g n : Nat) (w : World) (h : Iv w v r.coef) (hc : Cap w g (.int .i64 n)) (hn : n ≤ 1000000) (lc : r.coef.length ≤ 4611686018427387904) :
    Calls Tryz.prog 26 #[.agg #[v, .int .i64 r.z, .int .i64 r.knee, .int .i64 r.weight], .pointer (some ⟨g, 0, none⟩)] w fun e w' => e = .returned (.bool (!rokB r n)) ∧ Below w.heap.size w w' := by
  have K := Lib.hid (Keep.begin1 w (Obj.rw v r))
  have HI := Lib.hid h; have HC := Lib.hid hc
  obtain ⟨A, c, rfl, -⟩ := h
  clear hc
  go_enter Tryz.func26, Tryz.ntmps26
  go_upto_region 1 with fail
  (refine out_keep K.out ?_; clear K; intro W K; replace K := Lib.hid K)
  (have c0 := K.out.cell (k := 0) (.head _) rfl; have c1 := K.out.cell (k := 1) (.head _) rfl; have c2 := K.out.cell (k := 2) (.head _) rfl; have c3 := K.out.cell (k := 3) (.head _) rfl; have f1 := fun o => K.out.warm (.head _) o)
  have cx := kept_cell K.out HC.out.1 HC.out.2
  go_wp2_with fail
  refine (right_any _ r n _ (HI.out.below K.out.B) hn lc).mono ?_
  rintro e w2 ⟨b, rfl, hiff, hb⟩
  obtain rfl : b = rokB r n := by
    cases hb1 : rokB r n with
    | true => exact hiff.2 ((rokB_iff r n).1 hb1)
    | false =>
      cases b with
      | false => rfl
      | true => rw [(rokB_iff r n).2 (hiff.1 rfl)] at hb1; cases hb1
  replace K := Lib.hid (Keep.stays _ _ K.out hb)
  clear hb cx hiff
  ((try clear f1); clear c0 c1 c2 c3)
  obtain ⟨b, hb0⟩ : ∃ b, b = rokB r n := ⟨_, rfl⟩
  have HZ := Lib.hid hb0
  rw [← hb0]
  clear hb0
  go_wp2_with fail
  go_ret
  exact ⟨ret_bool (by rw [HZ.out]), K.out.B⟩

set_option maxHeartbeats 4000000 in
set_option maxRecDepth 100000 in
theorem index64r_any (s : Value) (rs : List Rw) (g n : Nat) (w : World) (h : Rws w s rs) (l : rs.length ≤ 1000000) (hc : Cap w g (.int .i64 n)) (hn : n ≤ 1000000) (lc : ∀ r ∈ rs, r.coef.length ≤ 4611686018427387904) :
    Calls Tryz.prog 64 #[s, .func (.func 26) #[] #[.pointer (some ⟨g, 0, none⟩)]] w fun e w' => ∃ k, e = .returned (.int .i64 k) ∧ (-1 ≤ k ∧ k ≤ 1000000) ∧ (k < 0 ↔ ∀ r ∈ rs, RwOk r n) ∧ Below w.heap.size w w' := by
  obtain ⟨A, c, rfl, -, ha⟩ := h
  have HA := Lib.hid ha; have HC := Lib.hid hc; have LC := Lib.hid lc
  have K := Lib.hid (Keep.start w)
  clear ha hc lc
  go_enter Tryz.func64, Tryz.ntmps64
  go_wp2_with fail
  go_loopg [8] rs.length (fun gk iv wr => ∃ i : Nat, gk + i = rs.length ∧ iv = .int .i64 (i : Int) ∧ (∀ j, j < i → RwOk (rs.getD j Rw.zero) n) ∧ Keep w [] wr)
  case atStart => exact ⟨0, by omega, rfl, fun j hj => absurd hj (by omega), K.out⟩
  case round =>
    clear K
    obtain ⟨i, hgi, rfl, hall, k⟩ := hrel
    have K := Lib.hid k
    have HL := Lib.hid hall
    clear k hall
    by_cases hi : i < rs.length
    · obtain ⟨b, off, B, d, rfl, hlt, hI, x0, x1, x2, x3⟩ := HA.out i hi
      have X0 := kept_cell K.out hlt x0; have X1 := kept_cell K.out hlt x1; have X2 := kept_cell K.out hlt x2; have X3 := kept_cell K.out hlt x3
      have HI := Lib.hid (hI.below K.out.B)
      have HLC := Lib.hid (LC.out _ (mem_of_lt hi))
      obtain ⟨r, hr⟩ : ∃ r, r = rs.getD i Rw.zero := ⟨_, rfl⟩
      have HR := Lib.hid hr
      rw [← hr] at X0 X1 X2 X3 HI HLC
      clear hI x0 x1 x2 x3 hr
      go_wp2_with fail
      refine (not26_any _ r g n _ HI.out (HC.out.below K.out.B) hn HLC.out).mono ?_
      rintro e w2 ⟨rfl, hb⟩
      replace K := Lib.hid (Keep.stays _ _ K.out hb)
      clear hb X0 X1 X2 X3
      have HB := Lib.hid (rokB_iff r n)
      generalize rokB r n = b at *
      cases b
      · go_wp2_with fail
        go_ret
        exact ⟨_, rfl, by omega, ⟨fun h => by omega, fun h => by have k := HB.out.2 (HR.out ▸ h _ (mem_of_lt hi)); cases k⟩, K.out.B⟩
      · go_wp2_with fail
        go_roundg (gk - 1)
        case measure => omega
        case rel =>
          refine ⟨i + 1, by omega, congrArg (Value.int .i64) (by omega), fun j hj => ?_, K.out⟩
          by_cases e : j = i
          · rw [e, ← HR.out]; exact HB.out.1 (by simp)
          · exact HL.out j (by omega)
    · go_wp2_with fail
      go_ret
      refine ⟨_, rfl, by omega, ⟨fun _ r hr => ?_, fun _ => by omega⟩, K.out.B⟩
      obtain ⟨j, hj, rfl⟩ := List.mem_iff_getElem.1 hr
      have := HL.out j (by omega)
      rw [List.getD_eq_getElem?_getD, List.getElem?_eq_getElem hj] at this
      exact this

set_option maxHeartbeats 4000000 in
set_option maxRecDepth 100000 in
theorem contains25_any (s : Value) (rs : List Rw) (g n : Nat) (w : World) (h : Rws w s rs) (l : rs.length ≤ 1000000) (hc : Cap w g (.int .i64 n)) (hn : n ≤ 1000000) (lc : ∀ r ∈ rs, r.coef.length ≤ 4611686018427387904) :
    Calls Tryz.prog 25 #[s, .func (.func 26) #[] #[.pointer (some ⟨g, 0, none⟩)]] w fun e w' => ∃ b : Int, e = .returned (.bool (decide (0 ≤ b))) ∧ (b < 0 ↔ ∀ r ∈ rs, RwOk r n) ∧ Below w.heap.size w w' := by
  have K := Lib.hid (Keep.start w)
  have H := Lib.hid h; have HC := Lib.hid hc; have LC := Lib.hid lc
  clear h hc lc
  go_enter Tryz.func25, Tryz.ntmps25
  go_wp2_with fail
  refine (index64r_any s rs g n _ (H.out.below K.out.B) l (HC.out.below K.out.B) hn LC.out).mono ?_
  rintro e w2 ⟨k, rfl, ⟨k1, k2⟩, hk, hb⟩
  replace K := Lib.hid (Keep.stays _ _ K.out hb)
  have HK := Lib.hid hk
  clear hb hk
  go_wp2_with fail
  go_ret
  exact ⟨k, rfl, HK.out, K.out.B⟩
end Go.Proofs.YtmidifgnpjlgcaaGreat
/- A matrix of which a function tells each place. -/
set_option linter.unusedVariables false
set_option linter.unusedSimpArgs false
namespace Go.Proofs.YtmidifgnpjlgcaaGreat
open Go.RowKit

/-- A row of numbers of one's own. -/
def Lr (w : World) (x : Value) (m N : Nat) (f : Nat → Int) : Prop := ∃ L, Lwn w 0 x L ∧ L.length = m ∧ Els w L N f
theorem Lr.below {w w' : World} {x : Value} {m N : Nat} {f : Nat → Int} (h : Lr w x m N f) (hb : Below w.heap.size w w') : Lr w' x m N f := by
  obtain ⟨L, h1, h2, h3⟩ := h
  exact ⟨L, h1.below hb, h2, h3.below hb⟩
theorem Lr.turn {w w' : World} {x : Value} {m N : Nat} {f : Nat → Int} {o : Option Nat} (h : Lr w x m N f) (hT : Turn o w w') (ho : Tagged w o 27) (hc : ∀ k, o = some k → ∀ z, w.cell? ⟨k, 0, none⟩ ≠ some (.int .u32 z)) : Lr w' x m N f := by
  obtain ⟨L, h1, h2, h3⟩ := h
  refine ⟨L, ⟨owns_turn h1.1 hT ho (by decide), fun k hk z => ?_⟩, h2, h3.turn (fun _ _ _ _ hN => hN.turn hT hc)⟩
  have hlt := h1.lt k hk
  have hne : o ≠ some k := by
    intro eo
    obtain ⟨cs, hcs⟩ := ho k eo
    rcases h1.1.2 with ⟨rfl, _⟩ | ⟨g, cap, cur, rfl, hb, hh, _⟩
    · simp [Value.ownBlock] at hk
    · have : g = k := by simpa [Value.ownBlock] using hk
      subst this
      rw [hh] at hcs
      injection hcs with hcs
      injection hcs with _ hcs
      exact absurd hcs (by decide)
  rw [cell_of_heap (hT.2 k hlt hne)]
  exact h1.2 k hk z
/-- A matrix of one's own. -/
def Mo27 (w : World) (v : Value) (n N : Nat) (f : Nat → Nat → Int) : Prop := ∃ vs, Swn w 0 27 v vs ∧ vs.length = n ∧ All vs (fun i x => Lr w x n N (f i))
theorem Mo27.below {w w' : World} {v : Value} {n N : Nat} {f : Nat → Nat → Int} (h : Mo27 w v n N f) (hb : Below w.heap.size w w') : Mo27 w' v n N f := by
  obtain ⟨vs, h1, h2, h3⟩ := h
  exact ⟨vs, h1.below hb, h2, h3.mono fun j x _ hx => hx.below hb⟩
theorem Mo27.mv {w : World} {v : Value} {n N : Nat} {f : Nat → Nat → Int} (h : Mo27 w v n N f) : Mv w v n n N f := by
  obtain ⟨vs, h1, h2, h3⟩ := h
  obtain ⟨A, c, hv, h0, hat⟩ := h1.at
  rw [h2] at hv
  refine ⟨A, c, hv, h0, fun j hj => ?_⟩
  obtain ⟨g, hA, -, hlt, hcell⟩ := hat j (by omega)
  obtain ⟨L, l1, l2, l3⟩ := h3 j (show j < vs.length by omega)
  obtain ⟨B, d, hB⟩ := l1.sl
  rw [hB] at hcell l1
  rw [l2] at hcell
  have hl := l1.lv l3
  rw [l2] at hl
  exact ⟨g, B, d, hA, hlt, hcell, hl⟩

variable {w0 w : World} {l l2 : List (Nat × Obj)}
set_option maxHeartbeats 8000000 in
set_option maxRecDepth 100000 in
theorem made29_any (gA gP gQ gR : Value) (cn dn : Bool) (gC gD : Value) (n N : Nat) (f : Nat → Nat → Int) (w : World) (hF : ∀ i j : Nat, i < n → j < n → ∀ w', Below w.heap.size w w' → Calls Tryz.prog 29 #[.int .i64 i, .int .i64 j] w' (Told1 w' N (f i j))) (hn : n ≤ 1000000) (hs : (∃ A l c, gR = .slice A l c) ∧ (∃ A l c, gP = .slice A l c) ∧ (∃ A l c, gQ = .slice A l c) ∧ (∃ A l c, gC = .slice A l c) ∧ (∃ A l c, gD = .slice A l c)) :
    Calls Tryz.prog 28 #[.agg #[.int .i64 n, gR, gP, gQ, .bool cn, gC, .bool dn, gD], .func (.func 29) #[] #[]] w fun e w' => ∃ v, e = .returned v ∧ Mo27 w' v n N f ∧ Below w.heap.size w w' := by
  obtain ⟨⟨A1, l1, c1, rfl⟩, ⟨A2, l2, c2, rfl⟩, ⟨A3, l3, c3, rfl⟩, ⟨A4, l4, c4, rfl⟩, ⟨A5, l5, c5, rfl⟩⟩ := hs
  have K := Lib.hid (Keep.begin1 w (.cells #[.int .i64 n, .slice A1 l1 c1, .slice A2 l2 c2, .slice A3 l3 c3, .bool cn, .slice A4 l4 c4, .bool dn, .slice A5 l5 c5] 34))
  have HF := Lib.hid hF
  have hsz := Lib.hid (Nat.succ_le_of_lt (K.out.lt (.head _)))
  clear hF
  go_enter Tryz.func28, Tryz.ntmps28
  have x0 := K.out.cell (k := 0) (.head _) rfl
  go_wp2_with fail
  clear x0
  go_loopg [5, 11] n (fun gk ov iv wr => ∃ (i : Nat) (vs : List Value), gk + i = n ∧ iv = .int .i64 (i : Int) ∧ Swn wr (w.heap.size + 1) 27 ov vs ∧ vs.length = i ∧ All vs (fun i x => Lr wr x n N (f i)) ∧ Keep w [(w.heap.size, .cells #[.int .i64 n, .slice A1 l1 c1, .slice A2 l2 c2, .slice A3 l3 c3, .bool cn, .slice A4 l4 c4, .bool dn, .slice A5 l5 c5] 34)] wr ∧ w.heap.size + 1 ≤ wr.heap.size)
  case atStart => exact ⟨0, [], by omega, rfl, Swn.nil _ _ _, rfl, All.nil _, K.out, hsz.out⟩
  case round =>
    clear K hsz
    rename World => wo
    obtain ⟨i, vs, hgi, rfl, hown, hvl, hall, k', hsz'⟩ := hrel
    have HO := Lib.hid (And.intro hown (And.intro hvl hall))
    have K := Lib.hid k'
    have hsz := Lib.hid hsz'
    clear hown hvl hall k' hsz'
    by_cases hi : i < n
    · have x0 := K.out.cell (k := 0) (.head _) rfl
      go_wp2_with fail
      clear x0
      have KI := Lib.hid (Below.refl wo.heap.size wo)
      go_loopg [7, 16] n (fun g2 rv jv wr2 => ∃ (j : Nat) (L : List Nm), g2 + j = n ∧ jv = .int .i64 (j : Int) ∧ Lwn wr2 wo.heap.size rv L ∧ L.length = j ∧ Els wr2 L N (f i) ∧ Below wo.heap.size wo wr2)
      case atStart => exact ⟨0, [], by omega, rfl, Lwn.nil _ _, rfl, Els.nil _ _ _, KI.out⟩
      case round =>
        clear KI
        obtain ⟨j, L, hgj, rfl, hown, hl, he, hb2⟩ := hrel
        have HR := Lib.hid (And.intro hown (And.intro hl he))
        have KI := Lib.hid (Keep.of hb2)
        clear hown hl he hb2
        by_cases hj : j < n
        · go_wp2_with fail
          refine (HF.out i j hi hj _ (K.out.B.trans (KI.out.B.mono K.out.B.size))).mono ?_
          rintro e w2 ⟨q, A, ll, lc, rfl, hN, hb⟩
          replace HR := Lib.hid (And.intro (HR.out.1.below hb) (And.intro HR.out.2.1 (HR.out.2.2.below hb)))
          replace KI := Lib.hid (Keep.stays _ _ KI.out hb)
          have HN := Lib.hid hN
          clear hb hN
          go_wp2_with (at_builtin; refine app1l rfl (.tmp 19) (.tmp 24) rfl wo.heap.size u7 L q A ll lc rfl HR.out.1 rfl (by rw [HR.out.2.1]; omega) KI.out.B.size ?_; intro v' w' hown' hnz' hkeep')
          have Y := Lib.hid (And.intro hown' (And.intro (hkeep' _ _ KI.out (by simp) (Nat.le_refl _)).B (And.intro (HR.out.2.2.turn hnz') (hnz' _ _ _ _ HN.out))))
          have HYL : Hid ((L ++ [(⟨q, A, ll, lc⟩ : Nm)]).length = j + 1) := by show _ = _; rw [List.length_append, HR.out.2.1]; rfl
          clear hown' hkeep' hnz' HR KI HN
          go_roundg (n - (j + 1))
          case measure => omega
          case rel =>
            have hll : L.length = j := by have := HYL.out; simp at this; omega
            exact ⟨j + 1, _, by omega, congrArg (Value.int .i64) (by omega), Y.out.1, HYL.out, Y.out.2.2.1.snoc _ (by rw [hll]; exact Y.out.2.2.2), Y.out.2.1⟩
        · have HLn : Hid (L.length = n) := by have := HR.out.2.1; show _ = _; omega
          obtain ⟨RA, rcp, rfl⟩ := HR.out.1.sl
          have HRr : Hid (Lr _ (.slice RA L.length rcp) n N (f i)) := Lib.hid ⟨L, ⟨owns_mono HR.out.1.1 (Nat.zero_le _), HR.out.1.2⟩, HLn.out, HR.out.2.2⟩
          replace K := Lib.hid (Keep.stays _ _ K.out KI.out.B)
          replace HO := Lib.hid (And.intro (HO.out.1.below KI.out.B) (And.intro HO.out.2.1 (HO.out.2.2.mono fun j x _ hx => hx.below KI.out.B)))
          replace hsz := Lib.hid (Nat.le_trans hsz.out KI.out.B.size)
          clear HR KI
          rw [HLn.out] at HRr
          rw [HLn.out]
          go_wp2_with (at_builtin; refine app1s 26 27 Tryz.underlying26 info27 rfl (.tmp 27) (.tmp 29) rfl (w.heap.size + 1) u5 vs RA n rcp rfl HO.out.1 rfl (by rw [HO.out.2.1]; omega) hsz.out ?_; intro v' w' hown' hturn' hkeep')
          have hcell := HO.out.1.2.1
          have Y := Lib.hid (And.intro hown' (And.intro (hkeep' _ _ K.out (by simp) (Nat.le_succ _)) (And.intro (HO.out.2.2.mono fun j x _ hx => hx.turn hturn' HO.out.1.tag hcell) (HRr.out.turn hturn' HO.out.1.tag hcell))))
          have HYL : Hid ((vs ++ [Value.slice RA n rcp]).length = i + 1) := by show _ = _; rw [List.length_append, HO.out.2.1]; rfl
          clear hown' hkeep' hturn' HO K hcell HRr
          go_roundg (n - (i + 1))
          case measure => omega
          case rel =>
            have hll : vs.length = i := by have := HYL.out; simp at this; omega
            exact ⟨i + 1, _, by omega, congrArg (Value.int .i64) (by omega), Y.out.1, HYL.out, Y.out.2.2.1.snoc _ (by rw [hll]; exact Y.out.2.2.2), Y.out.2.1, Y.out.2.1.lt (.head _)⟩
    · have HI : Hid (vs.length = n) := by have := HO.out.2.1; show _ = _; omega
      obtain ⟨OA, oc, rfl, -⟩ := HO.out.1.at
      go_wp2_with fail
      go_ret
      exact ⟨_, rfl, ⟨vs, ⟨owns_mono HO.out.1.1 (Nat.zero_le _), HO.out.1.2⟩, HI.out, HO.out.2.2⟩, K.out.B⟩

end Go.Proofs.YtmidifgnpjlgcaaGreat
