/- The texts Oh, Oi, Oj of the walk of the law and of all that it calls, in one file. No condition. -/
import Derived.Test.YtmidifgnpjlgcaaGreatY7
/- The walks of Value and of Less. -/
set_option linter.unusedVariables false
set_option linter.unusedSimpArgs false
namespace Go.Proofs.YtmidifgnpjlgcaaGreat
open Go.RowKit

/-- A graph without a prior. -/
def Gz (w : World) (rv pv qv : Value) (cn : Bool) (cs : Value) (dn : Bool) (ds : Value) (n : Nat) (rs : List Rw) : Prop := Rws w rv rs ∧ (∀ r ∈ rs, RwOk r n) ∧ Qg w pv qv cn cs n 0 (fun _ _ => 0) (fun _ => 0) 0 ∧ Nz w dn ds 1 2 ∧ rs.length ≤ 60 ∧ n ≤ 11
theorem Gz.below {w w' : World} {rv pv qv cs ds : Value} {cn dn : Bool} {n : Nat} {rs : List Rw} (h : Gz w rv pv qv cn cs dn ds n rs) (hb : Below w.heap.size w w') : Gz w' rv pv qv cn cs dn ds n rs :=
  ⟨h.1.below hb, h.2.1, h.2.2.1.below hb, h.2.2.2.1.below hb, h.2.2.2.2⟩
theorem sumTo_eq {f g : Nat → Int} : ∀ n, (∀ j, j < n → f j = g j) → sumTo f n = sumTo g n
  | 0, _ => rfl
  | n + 1, h => by
    show sumTo f n + f n = sumTo g n + g n
    rw [sumTo_eq n (fun j hj => h j (by omega)), h n (by omega)]
theorem sumTo_zero (f : Nat → Int) (n : Nat) (h : ∀ j, j < n → f j = 0) : sumTo f n = 0 := by
  rw [sumTo_eq n h]
  clear h
  induction n with
  | zero => rfl
  | succ n ih => show sumTo _ n + 0 = 0; rw [ih]; rfl
theorem qval_zero (n : Nat) (x : Nat → Int) : qval n (fun _ _ => 0) (fun _ => 0) 0 x = 0 := by
  unfold qval
  rw [sumTo_zero _ n (fun j _ => by rw [sumTo_zero _ n (fun k _ => Int.zero_mul _), Int.mul_zero]), sumTo_zero _ n (fun k _ => Int.zero_mul _)]
  rfl
/-- What a state costs. -/
def cost (rs : List Rw) (xs : List Int) : Int := sumTo (fun j => rcost (rs.getD j Rw.zero) xs) rs.length

/-- A list of int64 behind a place. -/
def Qel (w : World) (base : Nat) (A : Option Addr) (ys : List Int) : Prop := ∀ j, j < ys.length → ∃ g, A = some ⟨g, 0, none⟩ ∧ base ≤ g ∧ g < w.heap.size ∧ w.cell? ⟨g, j, none⟩ = some (.int .i64 (ys.getD j 0))
theorem Qel.below {w w' : World} {base : Nat} {A : Option Addr} {ys : List Int} (h : Qel w base A ys) (hb : Below w.heap.size w w') : Qel w' base A ys := fun j hj => by
  obtain ⟨g, h1, h2, h3, h4⟩ := h j hj
  exact ⟨g, h1, h2, Nat.lt_of_lt_of_le h3 hb.size, by rw [hb.cell (p := ⟨g, j, none⟩) h3]; exact h4⟩
theorem Qel.put {w : World} {base k i : Nat} {A : Option Addr} {ys : List Int} (h : Qel w base A ys) (hk : k < base) (u : Value) : Qel (w.setCell ⟨k, i, none⟩ u) base A ys := fun j hj => by
  obtain ⟨g, h1, h2, h3, h4⟩ := h j hj
  exact ⟨g, h1, h2, by simpa [World.setCell] using h3, by rw [cell_of_heap (Below.heap_setCell _ _ _ _ (by show g ≠ k; omega))]; exact h4⟩
theorem Qwn.el {w : World} {base : Nat} {v : Value} {ys : List Int} (h : Qwn w base v ys) : ∃ A c, v = .slice A ys.length c ∧ Qel w base A ys := by
  rcases h.row with ⟨rfl, rfl⟩ | ⟨g, c, rest, rfl, hb, hc, hh⟩
  · exact ⟨none, 0, rfl, fun j hj => absurd hj (by simp)⟩
  · refine ⟨_, c, rfl, fun j hj => ⟨g, rfl, hb, (Array.getElem?_eq_some_iff.1 hh).1, ?_⟩⟩
    rw [cellOf hh, List.getElem?_toArray, List.getElem?_append_left (by simpa using hj)]
    simp [hj]
variable {w0 w : World} {l l2 : List (Nat × Obj)}
set_option maxHeartbeats 4000000 in
set_option maxRecDepth 100000 in
theorem value_any (rv pv qv cs ds t : Value) (cn dn : Bool) (n : Nat) (rs : List Rw) (xs : List Int) (w : World) (h : Gz w rv pv qv cn cs dn ds n rs) (hx : Sta w t xs n) :
    Calls Tryz.prog 14 #[.agg #[.int .i64 n, rv, pv, qv, .bool cn, cs, .bool dn, ds], t] w fun e w' => ∃ q A l c, e = .returned (.agg #[.bool q, .slice A l c]) ∧ Nz w' q (.slice A l c) (cost rs xs) 100 ∧ Below w.heap.size w w' := by
  obtain ⟨CA, cl, cc, rfl⟩ := h.2.2.1.2.2.sl
  obtain ⟨DA, dl, dc, rfl⟩ := h.2.2.2.1.sl
  have HG := Lib.hid h; have HX := Lib.hid hx
  obtain ⟨hl60, hn11⟩ := h.2.2.2.2
  obtain ⟨RA, rc, rfl, -⟩ := h.1
  obtain ⟨PA, pc, rfl, -⟩ := h.2.2.1.1
  obtain ⟨QA, qc, rfl, -⟩ := h.2.2.1.2.1
  obtain ⟨B, d, rfl, -⟩ := hx.1
  have K := Lib.hid (Keep.begin4 w (.cells #[.int .i64 n, .slice RA rs.length rc, .slice PA n pc, .slice QA n qc, .bool cn, .slice CA cl cc, .bool dn, .slice DA dl dc] 34) (.cells #[.slice B xs.length d] 23) (Obj.num false (.slice none 0 0)) (Obj.num false (.slice none 0 0)))
  clear h hx
  go_enter Tryz.func14, Tryz.ntmps14
  go_upto_region 2 with fail
  (refine out_keep K.out ?_; clear K; intro W K; replace K := Lib.hid K)
  have x1 := K.out.cell (k := 1) (.tail _ (.tail _ (.tail _ (.head _)))) rfl
  have K0 := K
  have HC : Hid (Cap W (w.heap.size + 1) (.slice B xs.length d)) := Lib.hid ⟨K.out.lt (.tail _ (.tail _ (.head _))), K.out.cell (.tail _ (.tail _ (.head _))) rfl⟩
  go_wp2_with fail
  refine (each40_any _ rs (w.heap.size + 1) _ xs n _ (HG.out.1.below K.out.B) (by omega) HG.out.2.1 HC.out (HX.out.below K.out.B)).mono ?_
  rintro e w2 ⟨u, rfl, hQ, hb⟩
  replace K := Lib.hid (Keep.stays _ _ K.out hb)
  obtain ⟨YA, yc, rfl, hqel⟩ := hQ.el
  have HY := Lib.hid hqel
  have hsz := K.out.lt (.head _)
  have HS : Hid (w.heap.size + 1 + 1 + 1 < W.heap.size) := Lib.hid (K0.out.lt (.head _))
  have HE : Hid (∀ j, j < rs.length → (rs.map (fun r => rcost r xs)).getD j 0 = rcost (rs.getD j Rw.zero) xs) := Lib.hid (fun j hj => by simp [hj])
  have HLY : Hid ((rs.map (fun r => rcost r xs)).length = rs.length) := Lib.hid (by rw [List.length_map])
  have HDEF : Hid (cost rs xs = sumTo (fun j => rcost (rs.getD j Rw.zero) xs) rs.length) := Lib.hid rfl
  clear hQ hb x1 HC K0 hsz hqel
  generalize rs.map (fun r => rcost r xs) = ys at *
  rw [HLY.out]
  go_wp2_with fail
  go_loopg [13] rs.length (fun gk iv wr => ∃ (i : Nat) (q : Bool) (C : Option Addr) (l k : Nat), gk + i = rs.length ∧ iv = .int .i64 (i : Int) ∧ Nz wr q (.slice C l k) (sumTo (fun j => rcost (rs.getD j Rw.zero) xs) i) (2 + i) ∧ Qel wr W.heap.size YA ys ∧ Keep w [(w.heap.size + 1 + 1 + 1, Obj.num q (.slice C l k)), (w.heap.size + 1 + 1, Obj.num false (.slice none 0 0)), (w.heap.size + 1, .cells #[.slice B xs.length d] 23), (w.heap.size, .cells #[.int .i64 n, .slice RA rs.length rc, .slice PA n pc, .slice QA n qc, .bool cn, .slice CA cl cc, .bool dn, .slice DA dl dc] 34)] wr)
  case atStart => exact ⟨0, false, none, 0, 0, by omega, rfl, (Nz.nil _).more (by omega), HY.out, K.out⟩
  case round =>
    clear K HY
    obtain ⟨i, q, C, l, k, hgi, rfl, hN', hY', k'⟩ := hrel
    have K := Lib.hid k'
    have HN := Lib.hid hN'
    have HY := Lib.hid hY'
    clear k' hN'
    by_cases hi : i < rs.length
    · obtain ⟨g, rfl, -, -, hpc⟩ := HY.out i (by rw [HLY.out]; exact hi)
      have HV := Lib.hid (HE.out i hi)
      rw [HV.out] at hpc
      obtain ⟨r1, r2⟩ := rcost_in (HG.out.2.1 _ (mem_of_lt hi)) xs
      clear hY'
      obtain ⟨z, hz⟩ : ∃ z, z = rcost (rs.getD i Rw.zero) xs := ⟨_, rfl⟩
      have HZ := Lib.hid hz
      rw [← hz] at hpc r1 r2
      clear hz
      go_upto_region 5 with fail
      clear hpc
      (refine region_ord _ 4 (by kernel_rfl) (by kernel_rfl) K.out.drew ?_; clear K; intro W K hbw; replace K := Lib.hid K)
      replace HN := Lib.hid (HN.out.below hbw)
      replace HY := Lib.hid (HY.out.below hbw)
      clear hbw
      obtain ⟨e10, e11⟩ := Keep.anm K (.head _)
      (refine Ord.take' 0 rfl (by kernel_rfl) (fun _ _ _ _ h => h) K.out (by rfl) ?_; apply Exists.intro; refine ⟨fun p => ?_, ?_⟩; (focus (go_simp; (try (with_reducible rfl)); done)); (try simp only [Act.put, List.setIfInBounds_toArray, List.set_cons_zero, List.set_cons_succ]))
      (refine Ord.take' 1 rfl (by kernel_rfl) (fun _ _ _ _ h => h) K.out (by rfl) ?_; apply Exists.intro; refine ⟨fun p => ?_, ?_⟩; (focus (go_simp; (try (with_reducible rfl)); done)); (try simp only [Act.put, List.setIfInBounds_toArray, List.set_cons_zero, List.set_cons_succ]))
      clear e10 e11
      (refine Ord.call 2 (g := 19) (args := (#[.int .i64 z])) rfl (by kernel_rfl) (by rfl) (by (go_simp; try (with_reducible rfl))) ?_)
      refine (int_nz z _ (by omega) (by omega)).mono ?_
      rintro e w3 ⟨q3, A3, l3, k3, rfl, hN3, hb⟩
      (refine ⟨_, rfl, Keep.stays _ _ K.out hb, ?_⟩; replace K := Lib.hid (Keep.stays _ _ K.out hb); simp only [Act.put, List.setIfInBounds_toArray, List.set_cons_zero, List.set_cons_succ])
      replace HN := Lib.hid (HN.out.below hb)
      replace HY := Lib.hid (HY.out.below hb)
      clear hb
      (refine Ord.call 3 (g := 43) (args := (#[.agg #[.bool q, .slice C l k], .agg #[.bool q3, .slice A3 l3 k3]])) rfl (by kernel_rfl) (by rfl) (by (go_simp; try (with_reducible rfl))) ?_)
      refine (add_nz HN.out hN3 (by omega) (by omega)).mono ?_
      rintro e w4 ⟨q4, A4, l4, k4, rfl, hN4, hb⟩
      (refine ⟨_, rfl, Keep.stays _ _ K.out hb, ?_⟩; replace K := Lib.hid (Keep.stays _ _ K.out hb); simp only [Act.put, List.setIfInBounds_toArray, List.set_cons_zero, List.set_cons_succ])
      replace HY := Lib.hid (HY.out.below hb)
      have H4 := Lib.hid hN4
      clear hb hN3 hN4 HN
      (refine Ord.done (by kernel_rfl) ?_; simp only [List.drop_succ_cons, List.drop_zero, Act.put, List.setIfInBounds_toArray, List.set_cons_zero, List.set_cons_succ])
      obtain ⟨f1, c10, c11⟩ := K.out.nm (.head _)
      go_wp2_with fail
      clear f1 c10 c11
      go_roundg (gk - 1)
      case measure => omega
      case rel =>
        have hS : sumTo (fun j => rcost (rs.getD j Rw.zero) xs) (i + 1) = sumTo (fun j => rcost (rs.getD j Rw.zero) xs) i + z := by rw [HZ.out]; rfl
        refine ⟨i + 1, q4, A4, l4, k4, by omega, congrArg (Value.int .i64) (by omega), ?_, (HY.out.put HS.out _).put HS.out _, K.out.putn_0 _ _⟩
        rw [hS]
        exact (H4.out.put (K.out.nm (.head _)).2.1 _ _).more (by omega)
    · obtain rfl : i = rs.length := by omega
      rw [← HDEF.out] at HN
      go_upto_region 7 with fail
      clear hY' HY HE HLY HDEF
      (refine region_ord _ 10 (by kernel_rfl) (by kernel_rfl) K.out.drew ?_; clear K; intro W K hbw; replace K := Lib.hid K)
      replace HN := Lib.hid (HN.out.below hbw)
      clear hbw
      obtain ⟨e10, e11⟩ := Keep.anm K (.head _)
      have x2 := Keep.acell (k := 2) K (.tail _ (.tail _ (.tail _ (.head _)))) rfl
      have x3 := Keep.acell (k := 3) K (.tail _ (.tail _ (.tail _ (.head _)))) rfl
      have x4 := Keep.acell (k := 4) K (.tail _ (.tail _ (.tail _ (.head _)))) rfl
      have x5 := Keep.acell (k := 5) K (.tail _ (.tail _ (.tail _ (.head _)))) rfl
      have x6 := Keep.acell (k := 6) K (.tail _ (.tail _ (.tail _ (.head _)))) rfl
      have x7 := Keep.acell (k := 7) K (.tail _ (.tail _ (.tail _ (.head _)))) rfl
      have y0 := Keep.acell (k := 0) K (.tail _ (.tail _ (.head _))) rfl
      (refine Ord.take' 0 rfl (by kernel_rfl) (fun _ _ _ _ h => h) K.out (by rfl) ?_; apply Exists.intro; refine ⟨fun p => ?_, ?_⟩; (focus (go_simp; (try (with_reducible rfl)); done)); (try simp only [Act.put, List.setIfInBounds_toArray, List.set_cons_zero, List.set_cons_succ]))
      (refine Ord.take' 1 rfl (by kernel_rfl) (fun _ _ _ _ h => h) K.out (by rfl) ?_; apply Exists.intro; refine ⟨fun p => ?_, ?_⟩; (focus (go_simp; (try (with_reducible rfl)); done)); (try simp only [Act.put, List.setIfInBounds_toArray, List.set_cons_zero, List.set_cons_succ]))
      (refine Ord.take' 2 rfl (by kernel_rfl) (fun _ _ _ _ h => h) K.out (by rfl) ?_; apply Exists.intro; refine ⟨fun p => ?_, ?_⟩; (focus (go_simp; (try (with_reducible rfl)); done)); (try simp only [Act.put, List.setIfInBounds_toArray, List.set_cons_zero, List.set_cons_succ]))
      (refine Ord.take' 4 rfl (by kernel_rfl) (fun _ _ _ _ h => h) K.out (by rfl) ?_; apply Exists.intro; refine ⟨fun p => ?_, ?_⟩; (focus (go_simp; (try (with_reducible rfl)); done)); (try simp only [Act.put, List.setIfInBounds_toArray, List.set_cons_zero, List.set_cons_succ]))
      (refine Ord.take' 5 rfl (by kernel_rfl) (fun _ _ _ _ h => h) K.out (by rfl) ?_; apply Exists.intro; refine ⟨fun p => ?_, ?_⟩; (focus (go_simp; (try (with_reducible rfl)); done)); (try simp only [Act.put, List.setIfInBounds_toArray, List.set_cons_zero, List.set_cons_succ]))
      (refine Ord.take' 6 rfl (by kernel_rfl) (fun _ _ _ _ h => h) K.out (by rfl) ?_; apply Exists.intro; refine ⟨fun p => ?_, ?_⟩; (focus (go_simp; (try (with_reducible rfl)); done)); (try simp only [Act.put, List.setIfInBounds_toArray, List.set_cons_zero, List.set_cons_succ]))
      clear e10 e11 x2 x3 x4 x5 x6 x7 y0
      (refine Ord.call 3 (g := 23) (args := (#[.agg #[.bool q, .slice C l k], .agg #[.bool dn, .slice DA dl dc]])) rfl (by kernel_rfl) (by rfl) (by (go_simp; try (with_reducible rfl))) ?_)
      refine (mul_nz HN.out (HG.out.2.2.2.1.below K.out.B) (by omega) (by omega)).mono ?_
      rintro e w3 ⟨q3, A3, l3, k3, rfl, hN3, hb⟩
      (refine ⟨_, rfl, Keep.stays _ _ K.out hb, ?_⟩; replace K := Lib.hid (Keep.stays _ _ K.out hb); simp only [Act.put, List.setIfInBounds_toArray, List.set_cons_zero, List.set_cons_succ])
      clear hb HN
      (refine Ord.call 7 (g := 45) (args := (#[.slice B xs.length d, .func (.func 19) #[] #[]])) rfl (by kernel_rfl) (by rfl) (by (go_simp; try (with_reducible rfl))) ?_)
      refine (each45_any _ xs _ (HX.out.1.below K.out.B) (by rw [HX.out.2.1]; omega)).mono ?_
      rintro e w4 ⟨v4, rfl, hL4, hb⟩
      (refine ⟨_, rfl, Keep.stays _ _ K.out hb, ?_⟩; replace K := Lib.hid (Keep.stays _ _ K.out hb); simp only [Act.put, List.setIfInBounds_toArray, List.set_cons_zero, List.set_cons_succ])
      replace hN3 := hN3.below hb
      clear hb
      rw [HX.out.2.1] at hL4
      obtain ⟨EA, ec, rfl, -⟩ : ∃ A c, v4 = .slice A n c ∧ True := by obtain ⟨A, c, h, -⟩ := hL4; exact ⟨A, c, h, trivial⟩
      (refine Ord.call 8 (g := 44) (args := (#[.agg #[.slice PA n pc, .slice QA n qc, .bool cn, .slice CA cl cc], .slice EA n ec])) rfl (by kernel_rfl) (by rfl) (by (go_simp; try (with_reducible rfl))) ?_)
      refine (qvalue_any _ _ _ _ cn n 0 2 _ _ _ _ _ (HG.out.2.2.1.below K.out.B) hL4 hn11 (by omega) (by omega)).mono ?_
      rintro e w5 ⟨q5, A5, l5, k5, rfl, hN5, hb⟩
      rw [qval_zero] at hN5
      (refine ⟨_, rfl, Keep.stays _ _ K.out hb, ?_⟩; replace K := Lib.hid (Keep.stays _ _ K.out hb); simp only [Act.put, List.setIfInBounds_toArray, List.set_cons_zero, List.set_cons_succ])
      replace hN3 := hN3.below hb
      clear hb hL4
      (refine Ord.call 9 (g := 43) (args := (#[.agg #[.bool q3, .slice A3 l3 k3], .agg #[.bool q5, .slice A5 l5 k5]])) rfl (by kernel_rfl) (by rfl) (by (go_simp; try (with_reducible rfl))) ?_)
      refine (add_nz hN3 hN5 (by omega) (by omega)).mono ?_
      rintro e w6 ⟨q6, A6, l6, k6, rfl, hN6, hb⟩
      (refine ⟨_, rfl, Keep.stays _ _ K.out hb, ?_⟩; replace K := Lib.hid (Keep.stays _ _ K.out hb); simp only [Act.put, List.setIfInBounds_toArray, List.set_cons_zero, List.set_cons_succ])
      have H6 := Lib.hid hN6
      rw [Int.mul_one, Int.add_zero] at H6
      clear hb hN3 hN5 hN6
      (refine Ord.done (by kernel_rfl) ?_; simp only [List.drop_succ_cons, List.drop_zero, Act.put, List.setIfInBounds_toArray, List.set_cons_zero, List.set_cons_succ])
      obtain ⟨f1, c10, c11⟩ := K.out.nm (.tail _ (.head _))
      go_wp2_with fail
      refine ret_nm Tryz.results14 rfl ((K.out.putn_1 q6 (.slice A6 l6 k6)).nb (.tail _ (.head _))) ?_
      exact ⟨q6, _, _, _, rfl, (H6.out.put (K.out.nm (.tail _ (.head _))).2.1 _ _).more (by omega), (K.out.putn_1 q6 (.slice A6 l6 k6)).B⟩
end Go.Proofs.YtmidifgnpjlgcaaGreat
/- Lists of lists that grow; the walks of each of rows (lists), of Slope, of Less. -/
set_option linter.unusedVariables false
set_option linter.unusedSimpArgs false
namespace Go.Proofs.YtmidifgnpjlgcaaGreat
open Go.RowKit

theorem info23 : (Tryz.prog.info? 23).map (fun i => (i.zero, i.size, i.bytes)) = some (some (.slice none 0 0), 1, 24) := by kernel_rfl
theorem info27 : (Tryz.prog.info? 27).map (fun i => (i.zero, i.size, i.bytes)) = some (some (.slice none 0 0), 1, 24) := by kernel_rfl

/-- The block of a list is of its kind. -/
def Tagged (w : World) (o : Option Nat) (e : TypeId) : Prop := ∀ k, o = some k → ∃ cs, w.heap[k]? = some (.cells cs e)
theorem owns_turn {w w' : World} {base : Nat} {e e' : TypeId} {sz : Nat} {v : Value} {n : Nat} {xs : List Value} {o : Option Nat} (h : w.ownsRow base e' sz v n xs) (hT : Turn o w w') (ho : Tagged w o e) (he : e ≠ e') : w'.ownsRow base e' sz v n xs := by
  refine ⟨h.1, ?_⟩
  rcases h.2 with h0 | ⟨g, cap, cur, rfl, hb, hh, hrest⟩
  · exact .inl h0
  · refine .inr ⟨g, cap, cur, rfl, hb, ?_, hrest⟩
    rw [hT.2 g (Array.getElem?_eq_some_iff.1 hh).1 (fun eo => ?_)]
    · exact hh
    · obtain ⟨cs, hc⟩ := ho g eo
      rw [hh] at hc
      injection hc with hc
      injection hc with _ hc
      exact he hc.symm
theorem Qwn.turn {w w' : World} {base : Nat} {e : TypeId} {v : Value} {ys : List Int} {o : Option Nat} (h : Qwn w base v ys) (hT : Turn o w w') (ho : Tagged w o e) (he : e ≠ 2) : Qwn w' base v ys := owns_turn h hT ho he
theorem owns_mono {w : World} {base base' : Nat} {e : TypeId} {sz : Nat} {v : Value} {n : Nat} {xs : List Value} (h : w.ownsRow base e sz v n xs) (hb : base' ≤ base) : w.ownsRow base' e sz v n xs := by
  refine ⟨h.1, ?_⟩
  rcases h.2 with h0 | ⟨g, cap, cur, rfl, hb', hrest⟩
  · exact .inl h0
  · exact .inr ⟨g, cap, cur, rfl, Nat.le_trans hb hb', hrest⟩

/-- A list of lists of the call's own that grows. -/
def Swn (w : World) (base : Nat) (e : TypeId) (v : Value) (vs : List Value) : Prop := w.ownsRow base e 1 v vs.length vs ∧ (∀ k, v.ownBlock = some k → ∀ z, w.cell? ⟨k, 0, none⟩ ≠ some (.int .u32 z)) ∧ ∀ x ∈ vs, ∃ A n c, x = .slice A n c
theorem Swn.nil (w : World) (base : Nat) (e : TypeId) : Swn w base e (.slice none 0 0) [] := ⟨⟨rfl, .inl ⟨rfl, rfl⟩⟩, (fun k h => by cases h), fun x hx => by cases hx⟩
theorem Swn.tag {w : World} {base : Nat} {e : TypeId} {v : Value} {vs : List Value} (h : Swn w base e v vs) : Tagged w v.ownBlock e := by
  intro k hk
  rcases h.1.2 with ⟨rfl, _⟩ | ⟨g, cap, cur, rfl, hb, hh, _⟩
  · simp [Value.ownBlock] at hk
  · have : g = k := by simpa [Value.ownBlock] using hk
    rw [← this]
    exact ⟨cur, hh⟩
theorem Swn.base {w : World} {base : Nat} {e : TypeId} {v : Value} {vs : List Value} (h : Swn w base e v vs) (k : Nat) (hk : v.ownBlock = some k) : base ≤ k := by
  rcases h.1.2 with ⟨rfl, _⟩ | ⟨g, cap, cur, rfl, hb, _⟩
  · simp [Value.ownBlock] at hk
  · have : g = k := by simpa [Value.ownBlock] using hk
    omega
theorem Swn.below {w w1 : World} {base : Nat} {e : TypeId} {v : Value} {vs : List Value} (h : Swn w base e v vs) (hb : Below w.heap.size w w1) : Swn w1 base e v vs :=
  ⟨World.ownsRow.kept h.1 (row := none) ⟨hb.os, hb.tape, hb.output, hb.size, fun i hi _ => hb.block i hi⟩ (by cases v.ownBlock <;> simp), (fun k hk z => by
    obtain ⟨cs, hc⟩ := h.tag k hk
    rw [hb.cell (p := ⟨k, 0, none⟩) (Array.getElem?_eq_some_iff.1 hc).1]; exact h.2.1 k hk z), h.2.2⟩
theorem Swn.at {w : World} {base : Nat} {e : TypeId} {v : Value} {vs : List Value} (h : Swn w base e v vs) : ∃ A c, v = .slice A vs.length c ∧ (A = none → c = 0) ∧ ∀ j (hj : j < vs.length), ∃ g, A = some ⟨g, 0, none⟩ ∧ base ≤ g ∧ g < w.heap.size ∧ w.cell? ⟨g, j, none⟩ = some vs[j] := by
  rcases h.1.2 with ⟨rfl, h0⟩ | ⟨g, cap, cur, rfl, hb, hh, hn, _, hcur, htake⟩
  · exact ⟨none, 0, by rw [h0], fun _ => rfl, fun j hj => by omega⟩
  · refine ⟨_, cap, rfl, (fun h => by cases h), fun j hj => ⟨g, rfl, hb, (Array.getElem?_eq_some_iff.1 hh).1, ?_⟩⟩
    rw [cellOf hh]
    have e : (cur.toList.take (vs.length * 1))[j]? = vs[j]? := by rw [htake]
    rw [List.getElem?_take, if_pos (by omega), Array.getElem?_toList] at e
    rw [e, List.getElem?_eq_getElem hj]

/-- A list more. -/
theorem app1s {ops : Array Oper} {rest : List Oper} {o : Oper} {a : Act} {Q : Exit → Act → World → Prop} {w : World} (t e : TypeId) (ht : Tryz.prog.underlying t = some (.slice e)) (hinf : (Tryz.prog.info? e).map (fun i => (i.zero, i.size, i.bytes)) = some (some (.slice none 0 0), 1, 24)) (hgd : o.guard = none) (s x : Operand)
    (ho : o.op = .call { callee := .builtin .append, args := #[s, x], argTypes := #[t, t] }) (base : Nat) (v : Value) (vs : List Value) (A : Option Addr) (n c : Nat) (hs : a.eval s = v) (hown : Swn w base e v vs) (hx : a.eval x = .slice (some ⟨w.heap.size, 0, none⟩) 1 1)
    (hlen : vs.length ≤ 1000000) (hbase : base ≤ w.heap.size)
    (h : ∀ v' w', Swn w' base e v' (vs ++ [.slice A n c]) → Turn v.ownBlock w w' → (∀ w0 l, Keep w0 l w → (∀ p ∈ l, p.1 < base) → w0.heap.size ≤ base → Keep w0 l w') → wpList Tryz.prog ops Q rest (a.put o.dst v') w') :
    wpList Tryz.prog ops Q (o :: rest) a (w.alloc (.cells #[.slice A n c] e)) := by
  obtain ⟨i0, hi, hx0⟩ := Option.map_eq_some_iff.1 hinf
  simp only [Prod.mk.injEq] at hx0
  obtain ⟨hz0, hz1, hz2⟩ := hx0
  have hown2 := hown.below (below_one w (.cells #[.slice A n c] e))
  refine wpList_append_own _ hgd s x t ho base e i0 (.slice none 0 0) 1 24 ht hi hz0 hz1 hz2 (by rfl) (by decide) v vs.length _ hs hown2.1 ⟨w.heap.size, 0, none⟩ 1 1 [.slice A n c] hx rfl (cell_one_new _ _ _) ?_ (by unfold maxLen; omega) (by omega) (by simp; omega) ?_
  · intro u hu
    simp only [List.mem_singleton] at hu
    rw [hu]; rfl
  · intro v' w' hown' hgrow _
    have hT : Turn v.ownBlock w w' := by
      have hb := below_one w (.cells #[.slice A n c] e)
      refine ⟨Nat.le_trans hb.size hgrow.size, fun k hk hne => ?_⟩
      rw [hgrow.block k (Nat.lt_of_lt_of_le hk hb.size) (fun e => hne e.symm), hb.block k hk]
    have hsl : ∀ x ∈ vs ++ [Value.slice A n c], ∃ A n c, x = .slice A n c := by
      intro x hx
      rcases List.mem_append.1 hx with h1 | h1
      · exact hown.2.2 x h1
      · exact ⟨A, n, c, List.mem_singleton.1 h1⟩
    refine h v' w' ⟨?_, fun k hk z => ?_, hsl⟩ hT fun w0 l K hl h0 => ?_
    · rw [List.length_append]
      exact hown'
    · rcases hown'.2 with ⟨rfl, _⟩ | ⟨g, cap, cur, rfl, hb, hh, hn, _, hcur, htake⟩
      · simp [Value.ownBlock] at hk
      · have hgk : g = k := by simpa [Value.ownBlock] using hk
        subst hgk
        have hc : w'.cell? ⟨g, 0, none⟩ = (vs ++ [Value.slice A n c])[0]? := by
          have e2 : (cur.toList.take ((vs.length + 1) * 1))[0]? = (vs ++ [Value.slice A n c])[0]? := by rw [htake]
          rw [List.getElem?_take, if_pos (by omega), Array.getElem?_toList] at e2
          rw [cellOf hh, e2]
        rw [hc, List.getElem?_eq_getElem (by simp)]
        obtain ⟨B, m, d, hB⟩ := hsl _ (List.getElem_mem (show 0 < (vs ++ [Value.slice A n c]).length by simp))
        rw [hB]
        simp
    · have Ka := (K.alloc (.cells #[.slice A n c] e)).rest
      have hg : ∀ k, k < base → w'.heap[k]? = (w.alloc (.cells #[.slice A n c] e)).heap[k]? := fun k hk => hgrow.block k (by simp; omega) (fun e => by have := hown.base k e.symm; omega)
      refine ⟨fun p hp => ?_, Ka.own, Ka.one, ⟨hgrow.os.trans Ka.B.os, hgrow.tape.trans Ka.B.tape, hgrow.output.trans Ka.B.output, Nat.le_trans Ka.B.size hgrow.size, fun k hk => (hg k (by omega)).trans (Ka.B.block k hk)⟩⟩
      rw [hg p.1 (hl p hp)]
      exact Ka.box p hp

theorem mk0_sow (t e : TypeId) (ht : Tryz.prog.underlying t = some (.slice e)) (hinf : (Tryz.prog.info? e).map (fun i => (i.zero, i.size, i.bytes)) = some (some (.slice none 0 0), 1, 24)) (N : Nat) (hN : N ≤ 1000000) (l : Int) (m : Nat) (hl : l = (m : Int)) (hlN : m ≤ N) (x : Int) (hx : x = (N : Int)) (w : World) : (Instr.makeSlice t (.int .i64 l) (.int .i64 x)).run Tryz.prog w = .ok (.slice (some ⟨w.heap.size, 0, none⟩) m N) (w.alloc (.cells (List.replicate N (Value.slice none 0 0)).toArray e)) := by
  obtain ⟨i0, hi, hx0⟩ := Option.map_eq_some_iff.1 hinf
  simp only [Prod.mk.injEq] at hx0
  obtain ⟨hz0, hz1, hz2⟩ := hx0
  subst hx hl
  rw [run_make (P := Tryz.prog) w t e i0 (.slice none 0 0) ht hi hz0 .i64 .i64 (m : Int) (N : Int) (by omega) (by omega) (by rw [hz2]; omega) (by omega), hz1]
  have e : madeCells (Value.slice none 0 0).cells ((N : Int).toNat * 1) = (List.replicate N (Value.slice none 0 0)).toArray := by
    apply Array.ext
    · simp [madeCells]
    · intro j h1 h2
      simp [madeCells, Value.cells, Nat.mod_one]
  rw [e, Int.toNat_natCast, Int.toNat_natCast]
theorem Swn.mk0 (e : TypeId) (w : World) (N : Nat) (hN : N ≤ 1000000) : Swn (w.alloc (.cells (List.replicate N (Value.slice none 0 0)).toArray e)) w.heap.size e (.slice (some ⟨w.heap.size, 0, none⟩) 0 N) [] := by
  have hh : (w.alloc (.cells (List.replicate N (Value.slice none 0 0)).toArray e)).heap[w.heap.size]? = some (.cells (List.replicate N (Value.slice none 0 0)).toArray e) := by
    show (w.heap.push _)[w.heap.size]? = _; exact Array.getElem?_push_size
  refine ⟨⟨rfl, .inr ⟨w.heap.size, N, _, rfl, Nat.le_refl _, hh, Nat.zero_le _, by unfold maxLen; omega, by simp, rfl⟩⟩, fun k hk z => ?_, fun x hx => by cases hx⟩
  have : w.heap.size = k := by simpa [Value.ownBlock] using hk
  subst this
  rw [cellOf hh, List.getElem?_toArray]
  cases N with
  | zero => simp
  | succ n => simp [List.replicate_succ]

/-- How steep a row is, as a list. -/
def stl (r : Rw) (xs : List Int) : List Int := r.coef.map (fun a => a * stp r xs)

set_option maxHeartbeats 8000000 in
set_option maxRecDepth 100000 in
theorem rsteep2_any (v t : Value) (r : Rw) (n : Nat) (xs : List Int) (w : World) (h : Iv w v r.coef) (hr : RwOk r n) (hx : Iv w t xs) (lx : xs.length = n) (bx : ∀ j, j < n → -1000000 ≤ xs.getD j 0 ∧ xs.getD j 0 ≤ 1000000) :
    Calls Tryz.prog 97 #[.agg #[v, .int .i64 r.z, .int .i64 r.knee, .int .i64 r.weight], t] w fun e w' => ∃ u, e = .returned u ∧ Qwn w' (w.heap.size + 1) u (stl r xs) ∧ (∀ j, j < (stl r xs).length → i64 ((stl r xs).getD j 0)) ∧ (stl r xs).length = n ∧ Below w.heap.size w w' := by
  have K := Lib.hid (Keep.begin1 w (Obj.rw v r))
  have HI := Lib.hid h; have HX := Lib.hid hx; have HR := Lib.hid hr; have LX := Lib.hid lx; have BX := Lib.hid bx
  obtain ⟨r1, r2, r3, -, ⟨k1, k2⟩, w1, w2⟩ := hr
  have LN := Lib.hid r1
  have HC := Lib.hid r3
  obtain ⟨A, c, rfl, -, ha⟩ := h
  have HA := Lib.hid ha
  obtain ⟨B, d, rfl, -⟩ := hx
  have HRI := Lib.hid (residual_in r xs)
  clear lx bx r1 r3 ha
  have hn11 : r.coef.length ≤ 11 := by rw [LN.out]; exact r2
  go_enter Tryz.func97, Tryz.ntmps97
  go_upto_region 1 with fail
  (refine out_keep K.out ?_; clear K; intro W K; replace K := Lib.hid K)
  (refine region_ord _ 9 (by kernel_rfl) (by kernel_rfl) K.out.drew ?_; clear K; intro W K hbw; replace K := Lib.hid K)
  clear hbw
  (have c0 := Keep.acell (k := 0) K (.head _) rfl; have c1 := Keep.acell (k := 1) K (.head _) rfl; have c2 := Keep.acell (k := 2) K (.head _) rfl; have c3 := Keep.acell (k := 3) K (.head _) rfl)
  (refine Ord.take' 0 rfl (by kernel_rfl) (fun _ _ _ _ h => h) K.out (by rfl) ?_; apply Exists.intro; refine ⟨fun p => ?_, ?_⟩; (focus (go_simp; (try (with_reducible rfl)); done)); (try simp only [Act.put, List.setIfInBounds_toArray, List.set_cons_zero, List.set_cons_succ]))
  (refine Ord.take' 1 rfl (by kernel_rfl) (fun _ _ _ _ h => h) K.out (by rfl) ?_; apply Exists.intro; refine ⟨fun p => ?_, ?_⟩; (focus (go_simp; (try (with_reducible rfl)); done)); (try simp only [Act.put, List.setIfInBounds_toArray, List.set_cons_zero, List.set_cons_succ]))
  (refine Ord.take' 2 rfl (by kernel_rfl) (fun _ _ _ _ h => h) K.out (by rfl) ?_; apply Exists.intro; refine ⟨fun p => ?_, ?_⟩; (focus (go_simp; (try (with_reducible rfl)); done)); (try simp only [Act.put, List.setIfInBounds_toArray, List.set_cons_zero, List.set_cons_succ]))
  (refine Ord.take' 3 rfl (by kernel_rfl) (fun _ _ _ _ h => h) K.out (by rfl) ?_; apply Exists.intro; refine ⟨fun p => ?_, ?_⟩; (focus (go_simp; (try (with_reducible rfl)); done)); (try simp only [Act.put, List.setIfInBounds_toArray, List.set_cons_zero, List.set_cons_succ]))
  (refine Ord.take' 5 rfl (by kernel_rfl) (fun _ _ _ _ h => h) K.out (by rfl) ?_; apply Exists.intro; refine ⟨fun p => ?_, ?_⟩; (focus (go_simp; (try (with_reducible rfl)); done)); (try simp only [Act.put, List.setIfInBounds_toArray, List.set_cons_zero, List.set_cons_succ]))
  (refine Ord.take' 6 rfl (by kernel_rfl) (fun _ _ _ _ h => h) K.out (by rfl) ?_; apply Exists.intro; refine ⟨fun p => ?_, ?_⟩; (focus (go_simp; (try (with_reducible rfl)); done)); (try simp only [Act.put, List.setIfInBounds_toArray, List.set_cons_zero, List.set_cons_succ]))
  ((try clear f1); clear c0 c1 c2 c3)
  (refine Ord.call 4 (g := 74) (args := (#[.agg #[.slice A r.coef.length c, .int .i64 r.z, .int .i64 r.knee, .int .i64 r.weight], .slice B xs.length d])) rfl (by kernel_rfl) (by rfl) (by (go_simp; try (with_reducible rfl))) ?_)
  refine (residual_any _ _ r n xs _ (HI.out.below K.out.B) HR.out (HX.out.below K.out.B) LX.out BX.out).mono ?_
  rintro e w2 ⟨rfl, hb⟩
  (refine ⟨_, rfl, Keep.stays _ _ K.out hb, ?_⟩; replace K := Lib.hid (Keep.stays _ _ K.out hb); simp only [Act.put, List.setIfInBounds_toArray, List.set_cons_zero, List.set_cons_succ])
  clear hb
  obtain ⟨a1, a2⟩ := HRI.out
  (refine Ord.call 7 (g := 111) (args := (#[.int .i64 (residual r xs), .int .i64 r.knee])) rfl (by kernel_rfl) (by rfl) (by (go_simp; try (with_reducible rfl))) ?_)
  refine (slope_any _ r.knee _ a1 a2 k1 k2).mono ?_
  rintro e w3 ⟨rfl, hb⟩
  (refine ⟨_, rfl, Keep.stays _ _ K.out hb, ?_⟩; replace K := Lib.hid (Keep.stays _ _ K.out hb); simp only [Act.put, List.setIfInBounds_toArray, List.set_cons_zero, List.set_cons_succ])
  clear hb
  have HSTP : Hid (stp r xs = r.weight * slope (residual r xs) r.knee) := rfl
  obtain ⟨q1, q2⟩ := slope_in (r := residual r xs) k1 k2
  generalize slope (residual r xs) r.knee = q at *
  generalize residual r xs = rs at *
  obtain ⟨t1, t2⟩ : -3276800 ≤ r.weight * q ∧ r.weight * q ≤ 3276800 := by
    have k : (r.weight * q).natAbs ≤ 100 * 32768 := by
      rw [Int.natAbs_mul]
      exact Nat.mul_le_mul (by omega) (by omega)
    omega
  have hw : IntKind.i64.wrap (r.weight * q) = r.weight * q := IntWalk.i64_in _ (by omega)
  (refine Ord.take' 8 rfl (by kernel_rfl) (fun _ _ _ _ h => h) K.out (by rfl) ?_; apply Exists.intro; refine ⟨fun p => ?_, ?_⟩; (focus (go_simp; (try (with_reducible rfl)); done)); (try simp only [Act.put, List.setIfInBounds_toArray, List.set_cons_zero, List.set_cons_succ]))
  clear hw
  generalize r.weight * q = sl at *
  (refine Ord.done (by kernel_rfl) ?_; simp only [List.drop_succ_cons, List.drop_zero, Act.put, List.setIfInBounds_toArray, List.set_cons_zero, List.set_cons_succ])
  have hsz := Lib.hid (show w.heap.size + 1 ≤ w3.heap.size from K.out.lt (.head _))
  (have c0 := K.out.cell (k := 0) (.head _) rfl; have c1 := K.out.cell (k := 1) (.head _) rfl; have c2 := K.out.cell (k := 2) (.head _) rfl; have c3 := K.out.cell (k := 3) (.head _) rfl; have f1 := fun o => K.out.warm (.head _) o)
  go_wp2_with fail
  ((try clear f1); clear c0 c1 c2 c3)
  go_loopg [6, 21] r.coef.length (fun gk ov iv wr => ∃ (i : Nat) (ys : List Int), gk + i = r.coef.length ∧ iv = .int .i64 (i : Int) ∧ Qwn wr (w.heap.size + 1) ov ys ∧ (ys.length = i ∧ ys = (r.coef.take i).map (fun a => a * sl)) ∧ (∀ j, j < ys.length → i64 (ys.getD j 0)) ∧ Keep w [(w.heap.size, Obj.rw (.slice A r.coef.length c) r)] wr ∧ w.heap.size + 1 ≤ wr.heap.size)
  case atStart => exact ⟨0, [], by omega, rfl, Qwn.nil _ _, ⟨rfl, by simp⟩, fun j hj => absurd hj (by simp), K.out, hsz.out⟩
  case round =>
    clear K hsz
    obtain ⟨i, ys, hgi, rfl, hown, hyl, hy6, k, hs⟩ := hrel
    have K := Lib.hid k
    have HO := Lib.hid (And.intro hown (And.intro hyl hy6))
    have HS := Lib.hid hs
    clear k hown hyl hy6 hs
    by_cases hi : i < r.coef.length
    · obtain ⟨-, p, rfl, hp, hpc⟩ := HA.out i hi
      have X : wr.cell? (p.add i) = some (.int .i64 (r.coef.getD i 0)) := by rw [K.out.B.cell (p := p.add i) (by rw [add_block]; exact hp)]; exact hpc
      obtain ⟨x1, x2⟩ := HC.out i (by rw [← LN.out]; exact hi)
      clear hp hpc
      have HMT := Lib.hid (map_take_succ (f := fun a => a * sl) hi)
      rw [← HO.out.2.1.2] at HMT
      generalize r.coef.getD i 0 = x at *
      obtain ⟨y1, y2⟩ : -3276800000 ≤ x * sl ∧ x * sl ≤ 3276800000 := by
        have k : (x * sl).natAbs ≤ 1000 * 3276800 := by
          rw [Int.natAbs_mul]
          exact Nat.mul_le_mul (by omega) (by omega)
        omega
      go_wp2_with (at_builtin; refine app1q rfl (.tmp 25) (.tmp 29) rfl (w.heap.size + 1) u6 ys (x * sl) rfl HO.out.1 rfl (by rw [HO.out.2.1.1]; omega) HS.out ?_; intro v' w' hown' hkeep')
      have Y := Lib.hid (And.intro hown' (hkeep' _ _ K.out (by simp) (by omega)))
      have HY6 : Hid (∀ j, j < (ys ++ [x * sl]).length → i64 ((ys ++ [x * sl]).getD j 0)) := by
        intro j hj
        by_cases e : j < ys.length
        · rw [List.getD_eq_getElem?_getD, List.getElem?_append_left e, ← List.getD_eq_getElem?_getD]
          exact HO.out.2.2 j e
        · have : j = ys.length := by simp at hj; omega
          rw [this, List.getD_eq_getElem?_getD, List.getElem?_append_right (Nat.le_refl _)]
          simp
          exact ⟨by omega, by omega⟩
      have HYL : Hid ((ys ++ [x * sl]).length = i + 1 ∧ ys ++ [x * sl] = (r.coef.take (i + 1)).map (fun a => a * sl)) := ⟨by rw [List.length_append, HO.out.2.1.1]; rfl, HMT.out.symm⟩
      clear hown' hkeep' HO K X HS
      go_roundg (gk - 1)
      case measure => omega
      case rel => exact ⟨i + 1, _, by omega, congrArg (Value.int .i64) (by omega), Y.out.1, HYL.out, HY6.out, Y.out.2, Y.out.2.lt (.head _)⟩
    · have HEQ : Hid (ys = stl r xs) := by show _ = _; unfold stl; rw [HSTP.out, HO.out.2.1.2, List.take_of_length_le (by omega)]
      have hia : Hid (i = n) := by have := LN.out; show _ = _; omega
      rw [HEQ.out] at HO
      go_wp2_with fail
      go_ret
      exact ⟨_, rfl, HO.out.1, HO.out.2.2, HO.out.2.1.1.trans hia.out, K.out.B⟩



/-- A list of n int64 of one's own. -/
def Qr (w : World) (v : Value) (ys : List Int) : Prop := Qwn w 0 v ys ∧ ∀ j, j < ys.length → i64 (ys.getD j 0)
theorem Qr.below {w w' : World} {v : Value} {ys : List Int} (h : Qr w v ys) (hb : Below w.heap.size w w') : Qr w' v ys := ⟨h.1.below hb, h.2⟩
theorem Qr.turn {w w' : World} {v : Value} {ys : List Int} {o : Option Nat} {e : TypeId} (h : Qr w v ys) (hT : Turn o w w') (ho : Tagged w o e) (he : e ≠ 2) : Qr w' v ys := ⟨h.1.turn hT ho he, h.2⟩
/-- Of each of a list, by its place. -/
def All (vs : List Value) (R : Nat → Value → Prop) : Prop := ∀ j (h : j < vs.length), R j vs[j]
theorem All.nil (R : Nat → Value → Prop) : All [] R := fun j h => absurd h (by simp)
theorem All.mono {vs : List Value} {R R' : Nat → Value → Prop} (h : All vs R) (hR : ∀ j x, x ∈ vs → R j x → R' j x) : All vs R' := fun j hj => hR j _ (List.getElem_mem hj) (h j hj)
theorem All.snoc {vs : List Value} {R : Nat → Value → Prop} (h : All vs R) (x : Value) (hx : R vs.length x) : All (vs ++ [x]) R := fun k hk => by
  by_cases e : k < vs.length
  · have e2 : (vs ++ [x])[k]'hk = vs[k] := List.getElem_append_left e
    rw [e2]
    exact h k e
  · have e3 : k = vs.length := by simp at hk; omega
    subst e3
    have e2 : (vs ++ [x])[vs.length]'hk = x := by simp
    rw [e2]
    exact hx

variable {w0 w : World} {l l2 : List (Nat × Obj)}
set_option maxHeartbeats 4000000 in
set_option maxRecDepth 100000 in
theorem steep96_any (v : Value) (r : Rw) (g : Nat) (t : Value) (xs : List Int) (n : Nat) (w : World) (h : Iv w v r.coef) (hr : RwOk r n) (hc : Cap w g t) (hx : Sta w t xs n) :
    Calls Tryz.prog 96 #[.agg #[v, .int .i64 r.z, .int .i64 r.knee, .int .i64 r.weight], .pointer (some ⟨g, 0, none⟩)] w fun e w' => ∃ A c, e = .returned (.slice A n c) ∧ Qr w' (.slice A n c) (stl r xs) ∧ Below w.heap.size w w' := by
  have K := Lib.hid (Keep.begin1 w (Obj.rw v r))
  have HI := Lib.hid h; have HX := Lib.hid hx; have HR := Lib.hid hr; have HC := Lib.hid hc
  obtain ⟨A, c, rfl, -⟩ := h
  obtain ⟨⟨B, d, rfl, -⟩, -⟩ := hx
  clear hc hr
  go_enter Tryz.func96, Tryz.ntmps96
  go_upto_region 1 with fail
  (refine out_keep K.out ?_; clear K; intro W K; replace K := Lib.hid K)
  (have c0 := K.out.cell (k := 0) (.head _) rfl; have c1 := K.out.cell (k := 1) (.head _) rfl; have c2 := K.out.cell (k := 2) (.head _) rfl; have c3 := K.out.cell (k := 3) (.head _) rfl; have f1 := fun o => K.out.warm (.head _) o)
  have cx := kept_cell K.out HC.out.1 HC.out.2
  go_wp2_with fail
  refine (rsteep2_any _ _ r n xs _ (HI.out.below K.out.B) HR.out (HX.out.1.below K.out.B) HX.out.2.1 HX.out.2.2).mono ?_
  rintro e w2 ⟨u, rfl, hQ, h64, hlen, hb⟩
  replace K := Lib.hid (Keep.stays _ _ K.out hb)
  have HQ := Lib.hid hQ
  have H6 := Lib.hid (And.intro hlen h64)
  obtain ⟨UA, uc, rfl, -⟩ := hQ.el
  clear hb cx h64
  ((try clear f1); clear c0 c1 c2 c3)
  rw [hlen] at HQ ⊢
  clear hlen
  go_wp2_with fail
  go_ret
  exact ⟨UA, uc, rfl, ⟨owns_mono HQ.out (Nat.zero_le _), H6.out.2⟩, K.out.B⟩

set_option maxHeartbeats 4000000 in
set_option maxRecDepth 100000 in
theorem each95_any (s : Value) (rs : List Rw) (g : Nat) (t : Value) (xs : List Int) (n : Nat) (w : World) (h : Rws w s rs) (l : rs.length ≤ 1000000) (hr : ∀ r ∈ rs, RwOk r n) (hc : Cap w g t) (hx : Sta w t xs n) :
    Calls Tryz.prog 95 #[s, .func (.func 96) #[] #[.pointer (some ⟨g, 0, none⟩)]] w fun e w' => ∃ v vs, e = .returned v ∧ Swn w' w.heap.size 23 v vs ∧ vs.length = rs.length ∧ All vs (fun j x => Qr w' x (stl (rs.getD j Rw.zero) xs)) ∧ Below w.heap.size w w' := by
  obtain ⟨A, c, rfl, -, ha⟩ := h
  have HA := Lib.hid ha
  have K := Lib.hid (Keep.start w)
  have HR := Lib.hid hr; have HC := Lib.hid hc; have HX := Lib.hid hx
  have hmk := mk0_sow 146 23 Tryz.underlying146 info23 rs.length l 0 0 rfl (Nat.zero_le _) rs.length rfl
  have HW := Lib.hid (Swn.mk0 23 w rs.length l)
  have HB := Lib.hid (below_one w (.cells (List.replicate rs.length (Value.slice none 0 0)).toArray 23))
  clear ha hr hc hx
  go_enter Tryz.func95, Tryz.ntmps95
  go_wp2_with fail
  go_loopg [5, 13] rs.length (fun gk ov iv wr => ∃ (i : Nat) (vs : List Value), gk + i = rs.length ∧ iv = .int .i64 (i : Int) ∧ Swn wr w.heap.size 23 ov vs ∧ vs.length = i ∧ All vs (fun j x => Qr wr x (stl (rs.getD j Rw.zero) xs)) ∧ Below w.heap.size w wr)
  case atStart => exact ⟨0, [], by omega, rfl, HW.out, rfl, All.nil _, HB.out⟩
  case round =>
    clear K hmk HW HB
    obtain ⟨i, vs, hgi, rfl, hown, hvl, hall, hb⟩ := hrel
    have HO := Lib.hid (And.intro hown (And.intro hvl hall))
    have K := Lib.hid (Keep.of hb)
    clear hown hvl hall hb
    by_cases hi : i < rs.length
    · have HM := Lib.hid (HR.out _ (mem_of_lt hi))
      obtain ⟨b, off, B, d, rfl, hlt, hI, x0, x1, x2, x3⟩ := HA.out i hi
      have X0 := kept_cell K.out hlt x0; have X1 := kept_cell K.out hlt x1; have X2 := kept_cell K.out hlt x2; have X3 := kept_cell K.out hlt x3
      have HI := Lib.hid (hI.below K.out.B)
      clear hI x0 x1 x2 x3
      generalize hrr : rs.getD i Rw.zero = r at *
      have HRR := Lib.hid hrr
      clear hrr
      go_upto_region 5 with fail
      clear X0 X1 X2 X3
      have HO1 := Lib.hid (And.intro (HO.out.1.below (below_one wr (Obj.rw (.slice B r.coef.length d) r))) (And.intro HO.out.2.1 (HO.out.2.2.mono fun j x _ hx => hx.below (below_one wr (Obj.rw (.slice B r.coef.length d) r)))))
      replace K := Lib.hid (K.out.alloc (Obj.rw (.slice B r.coef.length d) r))
      replace HI := Lib.hid (HI.out.below (below_one wr (Obj.rw (.slice B r.coef.length d) r)))
      generalize wr.heap.size = gr at *
      refine out_with (B := fun W => (Swn W w.heap.size 23 u5 vs ∧ vs.length = i ∧ All vs (fun j x => Qr W x (stl (rs.getD j Rw.zero) xs))) ∧ Iv W (.slice B r.coef.length d) r.coef) K.out ⟨HO1.out, HI.out⟩ ?_
      clear K HO HO1 HI
      intro W K HO
      replace K := Lib.hid K
      replace HO := Lib.hid HO
      (have c0 := K.out.cell (k := 0) (.head _) rfl; have c1 := K.out.cell (k := 1) (.head _) rfl; have c2 := K.out.cell (k := 2) (.head _) rfl; have c3 := K.out.cell (k := 3) (.head _) rfl; have f1 := fun o => K.out.warm (.head _) o)
      go_wp2_with fail
      refine (steep96_any _ r g t xs n _ HO.out.2 HM.out (HC.out.below K.out.B) (HX.out.below K.out.B)).mono ?_
      rintro e w2 ⟨UA, uc, rfl, hQ, hb⟩
      replace K := Lib.hid (Keep.stays _ _ K.out hb).rest
      replace HO := Lib.hid (And.intro (HO.out.1.1.below hb) (And.intro HO.out.1.2.1 (And.intro (HO.out.1.2.2.mono fun j x _ hx => hx.below hb) hQ)))
      clear hb hQ
      ((try clear f1); clear c0 c1 c2 c3)
      go_wp2_with (at_builtin; refine app1s 146 23 Tryz.underlying146 info23 rfl (.tmp 17) (.tmp 21) rfl w.heap.size u5 vs UA n uc rfl HO.out.1 rfl (by rw [HO.out.2.1]; omega) K.out.B.size ?_; intro v' w' hown' hturn' hkeep')
      have Y := Lib.hid (And.intro hown' (And.intro (hkeep' _ _ K.out (by simp) (Nat.le_refl _)).B (And.intro (HO.out.2.2.1.mono fun j x _ hx => hx.turn hturn' HO.out.1.tag (by decide)) (HO.out.2.2.2.turn hturn' HO.out.1.tag (by decide)))))
      have HYL : Hid ((vs ++ [Value.slice UA n uc]).length = i + 1) := by show _ = _; rw [List.length_append, HO.out.2.1]; rfl
      clear hown' hkeep' hturn' HO K
      go_roundg (gk - 1)
      case measure => omega
      case rel =>
        have hvl : vs.length = i := by have := HYL.out; simp at this; omega
        exact ⟨i + 1, _, by omega, congrArg (Value.int .i64) (by omega), Y.out.1, HYL.out, Y.out.2.2.1.snoc _ (by rw [hvl, HRR.out]; exact Y.out.2.2.2), Y.out.2.1⟩
    · have HI : Hid (vs.length = rs.length) := by have := HO.out.2.1; show _ = _; omega
      obtain ⟨OA, oc, rfl, -⟩ := HO.out.1.at
      go_wp2_with fail
      go_ret
      exact ⟨_, vs, rfl, HO.out.1, HI.out, HO.out.2.2, K.out.B⟩
end Go.Proofs.YtmidifgnpjlgcaaGreat
/- The walks of Less, Slope, Steep. -/
set_option linter.unusedVariables false
set_option linter.unusedSimpArgs false
namespace Go.Proofs.YtmidifgnpjlgcaaGreat
open Go.RowKit

theorem sgn_lt (z : Int) : sgn z < 0 ↔ z < 0 := by unfold sgn; split <;> (try split) <;> omega
theorem lss_i64 (a b : Int) : ∀ w : World, Sem.run Tryz.prog (binOp BinOp.lss 3 (.int .i64 a) (.int .i64 b)) w = .ok (.bool (decide (a < b))) w := fun _ => by kernel_rfl

variable {w0 w : World} {l l2 : List (Nat × Obj)}
set_option maxHeartbeats 4000000 in
set_option maxRecDepth 100000 in
theorem less11_any (rv pv qv cs ds t u : Value) (cn dn : Bool) (n : Nat) (rs : List Rw) (xs ys : List Int) (w : World) (h : Gz w rv pv qv cn cs dn ds n rs) (hx : Sta w t xs n) (hy : Sta w u ys n) :
    Calls Tryz.prog 11 #[.agg #[.int .i64 n, rv, pv, qv, .bool cn, cs, .bool dn, ds], t, u] w fun e w' => e = .returned (.bool (decide (cost rs xs < cost rs ys))) ∧ Below w.heap.size w w' := by
  obtain ⟨CA, cl, cc, rfl⟩ := h.2.2.1.2.2.sl
  obtain ⟨DA, dl, dc, rfl⟩ := h.2.2.2.1.sl
  have HG := Lib.hid h; have HX := Lib.hid hx; have HY := Lib.hid hy
  obtain ⟨RA, rc, rfl, -⟩ := h.1
  obtain ⟨PA, pc, rfl, -⟩ := h.2.2.1.1
  obtain ⟨QA, qc, rfl, -⟩ := h.2.2.1.2.1
  obtain ⟨B, d, rfl, -⟩ := hx.1
  obtain ⟨E, f, rfl, -⟩ := hy.1
  have K := Lib.hid (Keep.begin1 w (.cells #[.int .i64 n, .slice RA rs.length rc, .slice PA n pc, .slice QA n qc, .bool cn, .slice CA cl cc, .bool dn, .slice DA dl dc] 34))
  clear h hx hy
  go_enter Tryz.func11, Tryz.ntmps11
  go_upto_region 1 with fail
  (refine out_keep K.out ?_; clear K; intro W K; replace K := Lib.hid K)
  (refine region_ord _ 9 (by kernel_rfl) (by kernel_rfl) K.out.drew ?_; clear K; intro W K hbw; replace K := Lib.hid K)
  clear hbw
  have x0 := Keep.acell (k := 0) K (.head _) rfl
  have x1 := Keep.acell (k := 1) K (.head _) rfl
  have x2 := Keep.acell (k := 2) K (.head _) rfl
  have x3 := Keep.acell (k := 3) K (.head _) rfl
  have x4 := Keep.acell (k := 4) K (.head _) rfl
  have x5 := Keep.acell (k := 5) K (.head _) rfl
  have x6 := Keep.acell (k := 6) K (.head _) rfl
  have x7 := Keep.acell (k := 7) K (.head _) rfl
  (refine Ord.take' 0 rfl (by kernel_rfl) (fun _ _ _ _ h => h) K.out (by rfl) ?_; apply Exists.intro; refine ⟨fun p => ?_, ?_⟩; (focus (go_simp; (try (with_reducible rfl)); done)); (try simp only [Act.put, List.setIfInBounds_toArray, List.set_cons_zero, List.set_cons_succ]))
  (refine Ord.take' 1 rfl (by kernel_rfl) (fun _ _ _ _ h => h) K.out (by rfl) ?_; apply Exists.intro; refine ⟨fun p => ?_, ?_⟩; (focus (go_simp; (try (with_reducible rfl)); done)); (try simp only [Act.put, List.setIfInBounds_toArray, List.set_cons_zero, List.set_cons_succ]))
  (refine Ord.take' 3 rfl (by kernel_rfl) (fun _ _ _ _ h => h) K.out (by rfl) ?_; apply Exists.intro; refine ⟨fun p => ?_, ?_⟩; (focus (go_simp; (try (with_reducible rfl)); done)); (try simp only [Act.put, List.setIfInBounds_toArray, List.set_cons_zero, List.set_cons_succ]))
  (refine Ord.take' 4 rfl (by kernel_rfl) (fun _ _ _ _ h => h) K.out (by rfl) ?_; apply Exists.intro; refine ⟨fun p => ?_, ?_⟩; (focus (go_simp; (try (with_reducible rfl)); done)); (try simp only [Act.put, List.setIfInBounds_toArray, List.set_cons_zero, List.set_cons_succ]))
  clear x0 x1 x2 x3 x4 x5 x6 x7
  (refine Ord.call 2 (g := 14) (args := (#[.agg #[.int .i64 n, .slice RA rs.length rc, .slice PA n pc, .slice QA n qc, .bool cn, .slice CA cl cc, .bool dn, .slice DA dl dc], .slice B xs.length d])) rfl (by kernel_rfl) (by rfl) (by (go_simp; try (with_reducible rfl))) ?_)
  refine (value_any _ _ _ _ _ _ cn dn n rs xs _ (HG.out.below K.out.B) (HX.out.below K.out.B)).mono ?_
  rintro e w2 ⟨q1, A1, l1, c1, rfl, hN1, hb⟩
  (refine ⟨_, rfl, Keep.stays _ _ K.out hb, ?_⟩; replace K := Lib.hid (Keep.stays _ _ K.out hb); simp only [Act.put, List.setIfInBounds_toArray, List.set_cons_zero, List.set_cons_succ])
  clear hb
  (refine Ord.call 5 (g := 14) (args := (#[.agg #[.int .i64 n, .slice RA rs.length rc, .slice PA n pc, .slice QA n qc, .bool cn, .slice CA cl cc, .bool dn, .slice DA dl dc], .slice E ys.length f])) rfl (by kernel_rfl) (by rfl) (by (go_simp; try (with_reducible rfl))) ?_)
  refine (value_any _ _ _ _ _ _ cn dn n rs ys _ (HG.out.below K.out.B) (HY.out.below K.out.B)).mono ?_
  rintro e w3 ⟨q2, A2, l2, c2, rfl, hN2, hb⟩
  (refine ⟨_, rfl, Keep.stays _ _ K.out hb, ?_⟩; replace K := Lib.hid (Keep.stays _ _ K.out hb); simp only [Act.put, List.setIfInBounds_toArray, List.set_cons_zero, List.set_cons_succ])
  replace hN1 := hN1.below hb
  clear hb
  (refine Ord.call 6 (g := 24) (args := (#[.agg #[.bool q1, .slice A1 l1 c1], .agg #[.bool q2, .slice A2 l2 c2]])) rfl (by kernel_rfl) (by rfl) (by (go_simp; try (with_reducible rfl))) ?_)
  refine (icmp_nz hN1 hN2 (by omega) (by omega)).mono ?_
  rintro e w4 ⟨rfl, hb⟩
  (refine ⟨_, rfl, Keep.stays _ _ K.out hb, ?_⟩; replace K := Lib.hid (Keep.stays _ _ K.out hb); simp only [Act.put, List.setIfInBounds_toArray, List.set_cons_zero, List.set_cons_succ])
  clear hb hN1 hN2
  have HS := Lib.hid (sgn_lt (cost rs xs - cost rs ys))
  generalize sgn (cost rs xs - cost rs ys) = sg at *
  (refine Ord.take' 7 rfl (by kernel_rfl) (fun _ _ _ _ h => h) K.out (by rfl) ?_; apply Exists.intro; refine ⟨fun p => ?_, ?_⟩; (focus (go_simp; (try (with_reducible rfl)); done)); (try simp only [Act.put, List.setIfInBounds_toArray, List.set_cons_zero, List.set_cons_succ]))
  (refine Ord.take' 8 rfl (by kernel_rfl) (fun _ _ _ _ h => h) K.out (by rfl) ?_; apply Exists.intro; refine ⟨fun p => ?_, ?_⟩; (focus (go_simp; (try (with_reducible rfl)); done)); (try simp only [Act.put, List.setIfInBounds_toArray, List.set_cons_zero, List.set_cons_succ]))
  (refine Ord.done (by kernel_rfl) ?_; simp only [List.drop_succ_cons, List.drop_zero, Act.put, List.setIfInBounds_toArray, List.set_cons_zero, List.set_cons_succ])
  go_wp2_with fail
  go_ret
  have hd : decide (sg < 0) = decide (cost rs xs < cost rs ys) := by
    by_cases h : cost rs xs < cost rs ys
    · rw [decide_eq_true h, decide_eq_true (HS.out.2 (by omega))]
    · rw [decide_eq_false h, decide_eq_false (fun h2 => h (by have := HS.out.1 h2; omega))]
  exact ⟨ret_bool hd, K.out.B⟩

set_option maxHeartbeats 4000000 in
set_option maxRecDepth 100000 in
theorem qslope_any (vp vq t cs : Value) (cn : Bool) (n N M : Nat) (P : Nat → Nat → Int) (q : Nat → Int) (c : Int) (x : Nat → Int) (w : World) (h : Qg w vp vq cn cs n N P q c) (hx : Lv w t n M x) (hn : n ≤ 11) (hN : N ≤ 20000) (hM : M ≤ 20000) :
    Calls Tryz.prog 54 #[.agg #[vp, vq, .bool cn, cs], t] w fun e w' => ∃ v, e = .returned v ∧ Lo w' w.heap.size v n (2 * N + M + n + 2) (fun i => sumTo (fun k => P i k * x k) n - q i) ∧ Below w.heap.size w w' := by
  obtain ⟨CA, cl, cc, rfl⟩ := h.2.2.sl
  have K := Lib.hid (Keep.begin1 w (.cells #[vp, vq, .bool cn, .slice CA cl cc] 32))
  have HQ := Lib.hid h; have HX := Lib.hid hx
  obtain ⟨⟨PA, pc, rfl, -⟩, ⟨QA, qc, rfl, -⟩, -⟩ := h
  obtain ⟨B, d, rfl, -⟩ := hx
  go_enter Tryz.func54, Tryz.ntmps54
  go_upto_region 1 with fail
  (refine out_keep K.out ?_; clear K; intro W K; replace K := Lib.hid K)
  (refine region_ord _ 8 (by kernel_rfl) (by kernel_rfl) K.out.drew ?_; clear K; intro W K hbw; replace K := Lib.hid K)
  clear hbw
  have x0 := Keep.acell (k := 0) K (.head _) rfl
  have x1 := Keep.acell (k := 1) K (.head _) rfl
  (refine Ord.take' 0 rfl (by kernel_rfl) (fun _ _ _ _ h => h) K.out (by rfl) ?_; apply Exists.intro; refine ⟨fun p => ?_, ?_⟩; (focus (go_simp; (try (with_reducible rfl)); done)); (try simp only [Act.put, List.setIfInBounds_toArray, List.set_cons_zero, List.set_cons_succ]))
  (refine Ord.take' 1 rfl (by kernel_rfl) (fun _ _ _ _ h => h) K.out (by rfl) ?_; apply Exists.intro; refine ⟨fun p => ?_, ?_⟩; (focus (go_simp; (try (with_reducible rfl)); done)); (try simp only [Act.put, List.setIfInBounds_toArray, List.set_cons_zero, List.set_cons_succ]))
  (refine Ord.take' 2 rfl (by kernel_rfl) (fun _ _ _ _ h => h) K.out (by rfl) ?_; apply Exists.intro; refine ⟨fun p => ?_, ?_⟩; (focus (go_simp; (try (with_reducible rfl)); done)); (try simp only [Act.put, List.setIfInBounds_toArray, List.set_cons_zero, List.set_cons_succ]))
  (refine Ord.take' 4 rfl (by kernel_rfl) (fun _ _ _ _ h => h) K.out (by rfl) ?_; apply Exists.intro; refine ⟨fun p => ?_, ?_⟩; (focus (go_simp; (try (with_reducible rfl)); done)); (try simp only [Act.put, List.setIfInBounds_toArray, List.set_cons_zero, List.set_cons_succ]))
  (refine Ord.take' 5 rfl (by kernel_rfl) (fun _ _ _ _ h => h) K.out (by rfl) ?_; apply Exists.intro; refine ⟨fun p => ?_, ?_⟩; (focus (go_simp; (try (with_reducible rfl)); done)); (try simp only [Act.put, List.setIfInBounds_toArray, List.set_cons_zero, List.set_cons_succ]))
  clear x0 x1
  (refine Ord.call 3 (g := 61) (args := (#[.slice PA n pc, .slice B n d])) rfl (by kernel_rfl) (by rfl) (by (go_simp; try (with_reducible rfl))) ?_)
  refine (apply_any _ _ n N M P x _ (HQ.out.1.below K.out.B) (HX.out.below K.out.B) (by omega)).mono ?_
  rintro e w2 ⟨u1, rfl, hL1, hb⟩
  (refine ⟨_, rfl, Keep.stays _ _ K.out hb, ?_⟩; replace K := Lib.hid (Keep.stays _ _ K.out hb); simp only [Act.put, List.setIfInBounds_toArray, List.set_cons_zero, List.set_cons_succ])
  clear hb
  obtain ⟨g1, L1, rfl, -⟩ : ∃ g L, u1 = .slice (some ⟨g, 0, none⟩) n n ∧ L = () := by obtain ⟨g, L, h, -⟩ := hL1; exact ⟨g, (), h, rfl⟩
  (refine Ord.call 6 (g := 83) (args := (#[.slice (some ⟨g1, 0, none⟩) n n, .slice QA n qc])) rfl (by kernel_rfl) (by rfl) (by (go_simp; try (with_reducible rfl))) ?_)
  refine (qless_any _ _ n (N + M + 1 + n) N _ _ _ hL1.lv (HQ.out.2.1.below K.out.B) (by omega)).mono ?_
  rintro e w3 ⟨u2, rfl, hL2, hb⟩
  have KB := Lib.hid K.out.B.size
  (refine ⟨_, rfl, Keep.stays _ _ K.out hb, ?_⟩; replace K := Lib.hid (Keep.stays _ _ K.out hb); simp only [Act.put, List.setIfInBounds_toArray, List.set_cons_zero, List.set_cons_succ])
  have H2 := Lib.hid hL2
  clear hb hL1
  obtain ⟨g2, L2, rfl, -⟩ : ∃ g L, u2 = .slice (some ⟨g, 0, none⟩) n n ∧ L = () := by obtain ⟨g, L, h, -⟩ := hL2; exact ⟨g, (), h, rfl⟩
  clear hL2
  (refine Ord.take' 7 rfl (by kernel_rfl) (fun _ _ _ _ h => h) K.out (by rfl) ?_; apply Exists.intro; refine ⟨fun p => ?_, ?_⟩; (focus (go_simp; (try (with_reducible rfl)); done)); (try simp only [Act.put, List.setIfInBounds_toArray, List.set_cons_zero, List.set_cons_succ]))
  (refine Ord.done (by kernel_rfl) ?_; simp only [List.drop_succ_cons, List.drop_zero, Act.put, List.setIfInBounds_toArray, List.set_cons_zero, List.set_cons_succ])
  go_wp2_with fail
  go_ret
  obtain ⟨g', L', e', hg', hh, hlen, he⟩ := H2.out
  exact ⟨_, rfl, ⟨g', L', e', Nat.le_trans KB.out hg', hh, hlen, he.more (by omega) (fun _ _ => rfl)⟩, K.out.B⟩
end Go.Proofs.YtmidifgnpjlgcaaGreat
