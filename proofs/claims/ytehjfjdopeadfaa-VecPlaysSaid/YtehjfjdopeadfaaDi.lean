/- The walk of the document's Of: a number's digits. -/
import Derived.Test.YtehjfjdopeadfaaDo
set_option linter.unusedVariables false
set_option linter.unusedSimpArgs false
namespace Go.Proofs.Ytehjfjdopeadfaa
open Go.RowKit

theorem p10_19 : p10 19 = 10000000000000000000 := by decide
theorem len_19 {k : Nat} (h : p10 k < 10000000000000000000) : k < 19 := by
  apply Classical.byContradiction
  intro hk
  have := p10_mono (show 19 ≤ k by omega)
  rw [p10_19] at this
  omega

/-- What is left of n once the digits ds are told. -/
def Left (n n' : Int) (ds : List Int) : Prop := digits ds ∧ val ds + p10 ds.length * (n'.natAbs : Int) = (n.natAbs : Int) ∧ ((n < 0 ∧ n' ≤ 0) ∨ (0 ≤ n ∧ 0 ≤ n')) ∧ n'.natAbs ≤ n.natAbs

theorem Left.len {n n' : Int} {ds : List Int} (h : Left n n' ds) (h1 : -9223372036854775808 ≤ n) (h2 : n ≤ 9223372036854775807) (h0 : n' ≠ 0) : ds.length < 19 := by
  refine len_19 ?_
  have b := (val_bounds ds h.1).1
  have := Int.mul_le_mul_of_nonneg_left (show (1 : Int) ≤ (n'.natAbs : Int) by omega) (show 0 ≤ p10 ds.length by have := p10_pos ds.length; omega)
  have := h.2.1
  omega

theorem Left.step {n n' : Int} {ds : List Int} (h : Left n n' ds) (h0 : n' ≠ 0) (c q : Int) (hc : c = (n'.natAbs : Int) % 10) (hq : (q.natAbs : Int) = (n'.natAbs : Int) / 10) (hs : (0 < n' ∧ 0 ≤ q) ∨ (n' < 0 ∧ q ≤ 0)) : Left n q (ds ++ [c]) := by
  obtain ⟨a, b, d, e⟩ := h
  refine ⟨fun x hx => ?_, ?_, by omega, by omega⟩
  · rcases List.mem_append.1 hx with hx | hx
    · exact a x hx
    · rw [List.mem_singleton] at hx; omega
  · rw [val_snoc, List.length_append, List.length_singleton]
    show val ds + p10 ds.length * c + 10 * p10 ds.length * (q.natAbs : Int) = _
    rw [← b, hc, hq]
    have : (n'.natAbs : Int) = (n'.natAbs : Int) % 10 + 10 * ((n'.natAbs : Int) / 10) := by omega
    generalize (n'.natAbs : Int) % 10 = r at *
    generalize (n'.natAbs : Int) / 10 = u at *
    rw [this, Int.mul_add, ← Int.mul_assoc, Int.mul_comm 10 (p10 ds.length), Int.add_assoc]

set_option maxHeartbeats 2000000 in
set_option maxRecDepth 100000 in
theorem int_any (n : Int) (w : World) (h1 : -9223372036854775808 ≤ n) (h2 : n ≤ 9223372036854775807) :
    Calls Try.prog 84 #[.int .i64 n] w fun e w' => ∃ m t b, e = .returned (.agg #[.bool m, t]) ∧ Num w' m t b ∧ zof m b = n ∧ b.length ≤ 19 ∧ Below w.heap.size w w' := by
  have K := Lib.hid (Keep.begin1 w (Obj.num false (.slice none 0 0)))
  have B1 := Lib.hid (show w.heap.size + 1 ≤ (w.alloc (Obj.num false (.slice none 0 0))).heap.size by simp)
  by_cases hneg : n < 0
  all_goals
    have HNEG := Lib.hid hneg
    go_enter Try.func84, Try.ntmps84
    go_upto_region 1 with fail
    refine out_keep (I := fun W => Keep w [(w.heap.size, Obj.num false (.slice none 0 0))] W ∧ w.heap.size + 1 ≤ W.heap.size) ⟨K.out, B1.out⟩ ?_
    clear K B1
    rintro W ⟨k, b1⟩
    have K := Lib.hid k
    have B1 := Lib.hid b1
    clear k b1
    go_wp2_with fail
    go_loopg [0, 3] n.natAbs (fun g nv dv wr => ∃ n' ds, nv = .int .i64 n' ∧ g = n'.natAbs ∧ Own wr (w.heap.size + 1) dv ds ∧ Left n n' ds ∧ ds.length ≤ 19 ∧ Keep w [(w.heap.size, Obj.num false (.slice none 0 0))] wr ∧ w.heap.size + 1 ≤ wr.heap.size)
    case atStart => exact ⟨n, [], rfl, rfl, Own.nil _ _, ⟨digits_nil, by show 0 + 1 * _ = _; omega, by omega, Nat.le_refl _⟩, by simp, K.out, B1.out⟩
    case round =>
      clear K B1
      obtain ⟨n', ds, rfl, rfl, hown, hleft, hlen, k, b1⟩ := hrel
      have K := Lib.hid k
      have B1 := Lib.hid b1
      have HO := Lib.hid hown
      have HL := Lib.hid hleft
      clear k b1 hown hleft
      by_cases h0 : n' = 0
      · have HZ : Hid (val ds = (n.natAbs : Int)) := by
          have := HL.out.2.1
          rw [h0, Int.natAbs_zero, Int.natCast_zero, Int.mul_zero] at this
          show _ = _
          omega
        have HD := Lib.hid HL.out.1
        subst h0
        clear HL
        go_wp2_with fail
        refine (mad_any _ _ ds _ HO.out.dg HD.out (by omega)).mono ?_
        rintro e w2 ⟨m, t, b, rfl, hN, hv, hlen2, hm, hb⟩
        obtain ⟨A, c, rfl, -⟩ := hN.1.len
        have HN := Lib.hid hN
        have HV := Lib.hid hv
        have HM := Lib.hid hm
        replace K := Lib.hid (Keep.stays _ _ K.out hb)
        clear hb hN hv hm
        obtain ⟨f1, c10, c11⟩ := K.out.nm (.head _)
        go_wp2_with fail
        refine ret_nm Try.results84 rfl ((K.out.putn_0 m _).nb (.head _)) ?_
        refine ⟨m, _, b, rfl, HN.out.put (K.out.nm (.head _)).2.1 _ _, ?_, by omega, (K.out.putn_0 m _).B⟩
        have e1 := HM.out
        have e2 := HV.out
        rw [HZ.out] at e2
        have e3 := HNEG.out
        by_cases hbn : b = []
        · have : val b = 0 := by rw [hbn]; rfl
          have e4 : m = false := by rw [e1, hbn]; simp
          rw [e4]
          show val b = n
          omega
        · have e4 : m = decide (n < 0) := by rw [e1]; simp [hbn, e3]
          rw [e4]
          unfold zof
          by_cases hn0 : n < 0
          · rw [decide_eq_true hn0, if_pos rfl]; omega
          · rw [decide_eq_false hn0, if_neg (by simp)]; omega
      · have hl19 := HL.out.len h1 h2 h0
        have LB := HL.out.2.2.2
        have LS := HL.out.2.2.1
        have q1 : -9223372036854775808 ≤ n' := by omega
        have q2 : n' ≤ 9223372036854775807 := by omega
        by_cases hp : 0 < n'
        · first
            | (exfalso; omega)
            | (clear LS LB
               go_wp2_with (at_builtin; refine app1 rfl (.tmp 16) (.tmp 18) rfl (w.heap.size + 1) u3 ds (n' % 10) rfl HO.out rfl (by omega) B1.out ?_; intro v' w' hown' hkeep')
               have K2 := hkeep' _ _ K.out (by simp) (by omega)
               have B2 : w.heap.size + 1 ≤ w'.heap.size := K2.lt (.head _)
               have Y := Lib.hid (And.intro hown' (And.intro K2 B2))
               have L2 := Lib.hid (HL.out.step h0 (n' % 10) (n' / 10) (by omega) (by omega) (by omega))
               clear hown' hkeep' K2 B2 HO HL K B1
               go_roundg (n' / 10).natAbs
               case measure => omega
               case rel => exact ⟨n' / 10, ds ++ [n' % 10], rfl, rfl, Y.out.1, L2.out, by simp; omega, Y.out.2.1, Y.out.2.2⟩)
        · first
            | (exfalso; omega)
            | (clear LS LB
               have e := Int.mul_tdiv_add_tmod n' 10
               have r1 : -10 < n'.tmod 10 ∧ n'.tmod 10 ≤ 0 := by
                 have a := Int.tmod_lt_of_pos (-n') (show (0 : Int) < 10 by decide)
                 have b := Int.tmod_nonneg 10 (show 0 ≤ -n' by omega)
                 rw [Int.neg_tmod] at a b
                 omega
               obtain ⟨r1, r2⟩ := r1
               have d1 : -9223372036854775808 ≤ n'.tdiv 10 := by omega
               have d2 : n'.tdiv 10 ≤ 0 := by omega
               have HE := Lib.hid e
               clear e
               by_cases hr : n'.tmod 10 < 0
               · go_wp2_with (at_builtin; refine app1 rfl (.tmp 16) (.tmp 18) rfl (w.heap.size + 1) u3 ds (-n'.tmod 10) rfl HO.out rfl (by omega) B1.out ?_; intro v' w' hown' hkeep')
                 have K2 := hkeep' _ _ K.out (by simp) (by omega)
                 have B2 : w.heap.size + 1 ≤ w'.heap.size := K2.lt (.head _)
                 have Y := Lib.hid (And.intro hown' (And.intro K2 B2))
                 have L2 := Lib.hid (HL.out.step h0 (-n'.tmod 10) (n'.tdiv 10) (by have := HE.out; omega) (by have := HE.out; omega) (by omega))
                 clear hown' hkeep' K2 B2 HO HL K B1
                 go_roundg (n'.tdiv 10).natAbs
                 case measure => have := HE.out; omega
                 case rel => exact ⟨n'.tdiv 10, ds ++ [-n'.tmod 10], rfl, rfl, Y.out.1, L2.out, by simp; omega, Y.out.2.1, Y.out.2.2⟩
               · go_wp2_with (at_builtin; refine app1 rfl (.tmp 16) (.tmp 18) rfl (w.heap.size + 1) u3 ds (n'.tmod 10) rfl HO.out rfl (by omega) B1.out ?_; intro v' w' hown' hkeep')
                 have K2 := hkeep' _ _ K.out (by simp) (by omega)
                 have B2 : w.heap.size + 1 ≤ w'.heap.size := K2.lt (.head _)
                 have Y := Lib.hid (And.intro hown' (And.intro K2 B2))
                 have L2 := Lib.hid (HL.out.step h0 (n'.tmod 10) (n'.tdiv 10) (by have := HE.out; omega) (by have := HE.out; omega) (by omega))
                 clear hown' hkeep' K2 B2 HO HL K B1
                 go_roundg (n'.tdiv 10).natAbs
                 case measure => have := HE.out; omega
                 case rel => exact ⟨n'.tdiv 10, ds ++ [n'.tmod 10], rfl, rfl, Y.out.1, L2.out, by simp; omega, Y.out.2.1, Y.out.2.2⟩)
end Go.Proofs.Ytehjfjdopeadfaa
