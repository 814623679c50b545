/- The walk of the document's Small. -/
import Derived.Test.YtehjfjdopeadfaaDp
set_option linter.unusedVariables false
set_option linter.unusedSimpArgs false
namespace Go.Proofs.Ytehjfjdopeadfaa
open Go.RowKit

theorem val_split (ds : List Int) (k : Nat) : val ds = val (ds.take k) + p10 k * val (ds.drop k) := by
  induction ds generalizing k with
  | nil => simp [val]
  | cons d l ih =>
    cases k with
    | zero => show _ = 0 + 1 * _; rw [List.drop_zero]; omega
    | succ k =>
      show d + 10 * val l = d + 10 * val (l.take k) + 10 * p10 k * val (l.drop k)
      rw [ih k, Int.mul_add, Int.mul_assoc, Int.add_assoc]
theorem digits_drop {ds : List Int} (h : digits ds) (k : Nat) : digits (ds.drop k) := fun d hd => h d (List.mem_of_mem_drop hd)
theorem val_drop_le {ds : List Int} (h : digits ds) (k : Nat) : 0 ≤ val (ds.drop k) ∧ val (ds.drop k) ≤ val ds := by
  have e := val_split ds k
  have b1 := (val_bounds _ (digits_take h k)).1
  have b2 := (val_bounds _ (digits_drop h k)).1
  have := Int.mul_le_mul_of_nonneg_right (show 1 ≤ p10 k by have := p10_pos k; omega) b2
  omega
theorem val_drop {ds : List Int} {k : Nat} (hk : k < ds.length) : val (ds.drop k) = ds.getD k 0 + 10 * val (ds.drop (k + 1)) := by
  rw [List.drop_eq_getElem_cons hk]
  simp [val, hk]

theorem below_one (w : World) (o : Obj) : Below w.heap.size w (w.alloc o) := (Below.refl _ _).alloc (Nat.le_refl _) o

set_option maxHeartbeats 4000000 in
set_option maxRecDepth 100000 in
theorem small_any (n : Bool) (s : Value) (ds : List Int) (w : World) (h : Num w n s ds) (l : ds.length ≤ 1000) (h1 : -9223372036854775808 ≤ zof n ds) (h2 : zof n ds ≤ 9223372036854775807) :
    Calls Try.prog 95 #[.agg #[.bool n, s]] w fun e w' => e = .returned (.tuple #[.int .i64 (zof n ds), .bool true]) ∧ Below w.heap.size w w' := by
  have K := Lib.hid (Keep.begin1 w (Obj.num n s))
  have H := Lib.hid h
  obtain ⟨A, c, rfl, hrow⟩ := h.1.len
  have HR := Lib.hid hrow
  have S1 : ¬ sgn (zof n ds - -9223372036854775808) < 0 := by unfold sgn; split <;> (try split) <;> omega
  have S2 : ¬ 0 < sgn (zof n ds - 9223372036854775807) := by unfold sgn; split <;> (try split) <;> omega
  have DS := Lib.hid (fun k => getD_mem h.2.1 k)
  have VB := Lib.hid (fun k => val_drop_le h.2.1 k)
  have VD := Lib.hid (fun k (hk : k < ds.length) => val_drop hk)
  have HZ1 := Lib.hid h1
  have HZ2 := Lib.hid h2
  clear h hrow h1 h2
  go_enter Try.func95, Try.ntmps95
  go_upto_region 1 with fail
  (refine out_keep K.out ?_; clear K; intro W K; replace K := Lib.hid K)
  go_wp2_with fail
  refine (int_any (-9223372036854775808) _ (by omega) (by omega)).mono ?_
  rintro e w2 ⟨m1, t1, b1, rfl, hN, hz1, hl1, hb⟩
  obtain ⟨A1, c1, rfl, -⟩ := hN.1.len
  replace K := Lib.hid (Keep.stays _ _ K.out hb)
  have N1 := Lib.hid hN
  have Z1 := Lib.hid hz1
  clear hb hN hz1
  go_upto_region 2 with fail
  refine out_keep (I := fun W' => Keep w _ W' ∧ Num W' m1 (.slice A1 b1.length c1) b1) ⟨K.out.alloc (Obj.num m1 (.slice A1 b1.length c1)), N1.out.below (below_one _ _)⟩ ?_
  generalize w2.heap.size = g1 at *
  clear K N1 w2
  rintro W ⟨k, n1⟩
  have K := Lib.hid k
  have N1 := Lib.hid n1
  clear k n1
  go_wp2_with fail
  refine (int_any 9223372036854775807 _ (by omega) (by omega)).mono ?_
  rintro e w2 ⟨m2, t2, b2, rfl, hN, hz2, hl2, hb⟩
  obtain ⟨A2, c2, rfl, -⟩ := hN.1.len
  replace K := Lib.hid (Keep.stays _ _ K.out hb)
  replace N1 := Lib.hid (N1.out.below hb)
  have N2 := Lib.hid hN
  have Z2 := Lib.hid hz2
  clear hb hN hz2
  go_upto_region 3 with fail
  refine out_keep (I := fun W' => Keep w _ W' ∧ Num W' m1 (.slice A1 b1.length c1) b1 ∧ Num W' m2 (.slice A2 b2.length c2) b2) ⟨K.out.alloc (Obj.num m2 (.slice A2 b2.length c2)), N1.out.below (below_one _ _), N2.out.below (below_one _ _)⟩ ?_
  generalize w2.heap.size = g2 at *
  clear K N1 N2 w2
  rintro W ⟨k, n1, n2⟩
  have K := Lib.hid k
  have N1 := Lib.hid n1
  have N2 := Lib.hid n2
  clear k n1 n2
  obtain ⟨f1, c10, c11⟩ := K.out.nm (.tail _ (.tail _ (.head _)))
  obtain ⟨f2, c20, c21⟩ := K.out.nm (.tail _ (.head _))
  go_wp2_with fail
  refine (cmp_any n m1 _ _ ds b1 _ (H.out.below K.out.B) N1.out (by omega) (by omega)).mono ?_
  rintro e w2 ⟨rfl, hb⟩
  replace K := Lib.hid (Keep.stays _ _ K.out hb)
  replace N2 := Lib.hid (N2.out.below hb)
  clear hb N1 f1 c10 c11 f2 c20 c21
  rw [Z1.out]
  obtain ⟨f1, c10, c11⟩ := K.out.nm (.tail _ (.tail _ (.head _)))
  obtain ⟨f2, c20, c21⟩ := K.out.nm (.head _)
  go_wp2_with fail
  refine (cmp_any n m2 _ _ ds b2 _ (H.out.below K.out.B) N2.out (by omega) (by omega)).mono ?_
  rintro e w2 ⟨rfl, hb⟩
  replace K := Lib.hid (Keep.stays _ _ K.out hb)
  clear hb N2 f1 c10 c11 f2 c20 c21
  rw [Z2.out]
  obtain ⟨f1, c10, c11⟩ := K.out.nm (.tail _ (.tail _ (.head _)))
  go_wp2_with fail
  clear S1 S2
  cases n with
  | false =>
    have HZZ : Hid (zof false ds = val ds) := rfl
    rw [HZZ.out] at HZ1 HZ2
    go_loopg [6, 7] ds.length (fun g nv iv wr => nv = .int .i64 (val (ds.drop g)) ∧ iv = .int .i64 ((g : Int) - 1) ∧ g ≤ ds.length ∧ wr = w2)
    case atStart => exact ⟨congrArg (Value.int .i64) (by rw [List.drop_length]; rfl), rfl, Nat.le_refl _, rfl⟩
    case round =>
      obtain ⟨rfl, rfl, hg, rfl⟩ := hrel
      cases gk with
      | zero =>
        have HE : Hid (val (ds.drop 0) = zof false ds) := by show _ = _; rw [List.drop_zero]; rfl
        go_wp2_with fail
        go_ret2
        exact ⟨by rw [← HE.out]; rfl, K.out.B⟩
      | succ k =>
        obtain ⟨x, rfl, hx, hxc⟩ := HR.out (by omega)
        have X := kept_cell K.out hx (hxc k (by omega))
        clear hx hxc
        obtain ⟨p1, p2⟩ := DS.out k
        obtain ⟨v1, v2⟩ := VB.out k
        have e := VD.out k (by omega)
        have z1 := HZ1.out
        have z2 := HZ2.out
        have HK := Lib.hid e
        obtain ⟨u1, u2⟩ := VB.out (k + 1)
        generalize ds.getD k 0 = p at *
        have g1' : -9223372036854775808 ≤ 10 * (val (ds.drop (k + 1))) ∧ 10 * (val (ds.drop (k + 1))) ≤ 9223372036854775807 := by omega
        obtain ⟨g1', g2'⟩ := g1'
        have g3' : -9223372036854775808 ≤ 10 * (val (ds.drop (k + 1))) + p ∧ 10 * (val (ds.drop (k + 1))) + p ≤ 9223372036854775807 := by omega
        obtain ⟨g3', g4'⟩ := g3'
        clear e
        go_wp2_with fail
        go_roundg k
        case measure => omega
        case rel => exact ⟨congrArg (Value.int .i64) (by have := HK.out; omega), congrArg (Value.int .i64) (by omega), by omega, rfl⟩
  | true =>
    have HZZ : Hid (zof true ds = -val ds) := rfl
    rw [HZZ.out] at HZ1 HZ2
    go_loopg [6, 7] ds.length (fun g nv iv wr => nv = .int .i64 (-val (ds.drop g)) ∧ iv = .int .i64 ((g : Int) - 1) ∧ g ≤ ds.length ∧ wr = w2)
    case atStart => exact ⟨congrArg (Value.int .i64) (by rw [List.drop_length]; rfl), rfl, Nat.le_refl _, rfl⟩
    case round =>
      obtain ⟨rfl, rfl, hg, rfl⟩ := hrel
      cases gk with
      | zero =>
        have HE : Hid (-val (ds.drop 0) = zof true ds) := by show _ = _; rw [List.drop_zero]; rfl
        go_wp2_with fail
        go_ret2
        exact ⟨by rw [← HE.out]; rfl, K.out.B⟩
      | succ k =>
        obtain ⟨x, rfl, hx, hxc⟩ := HR.out (by omega)
        have X := kept_cell K.out hx (hxc k (by omega))
        clear hx hxc
        obtain ⟨p1, p2⟩ := DS.out k
        obtain ⟨v1, v2⟩ := VB.out k
        have e := VD.out k (by omega)
        have z1 := HZ1.out
        have z2 := HZ2.out
        have HK := Lib.hid e
        obtain ⟨u1, u2⟩ := VB.out (k + 1)
        generalize ds.getD k 0 = p at *
        have g1' : -9223372036854775808 ≤ 10 * (-val (ds.drop (k + 1))) ∧ 10 * (-val (ds.drop (k + 1))) ≤ 9223372036854775807 := by omega
        obtain ⟨g1', g2'⟩ := g1'
        have g3' : -9223372036854775808 ≤ 10 * (-val (ds.drop (k + 1))) - p ∧ 10 * (-val (ds.drop (k + 1))) - p ≤ 9223372036854775807 := by omega
        obtain ⟨g3', g4'⟩ := g3'
        clear e
        go_wp2_with fail
        go_roundg k
        case measure => omega
        case rel => exact ⟨congrArg (Value.int .i64) (by have := HK.out; omega), congrArg (Value.int .i64) (by omega), by omega, rfl⟩
end Go.Proofs.Ytehjfjdopeadfaa
