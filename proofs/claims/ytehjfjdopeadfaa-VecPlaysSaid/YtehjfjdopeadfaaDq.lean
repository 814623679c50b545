/- The walk of parted: quotient and rest of digits, by taking away. -/
import Derived.Test.YtehjfjdopeadfaaDx
set_option linter.unusedVariables false
set_option linter.unusedSimpArgs false
namespace Go.Proofs.Ytehjfjdopeadfaa
open Go.RowKit

theorem Dg.setr {w : World} {s : Value} {ds : List Int} {g j : Nat} (h : Dg w s ds) (hne : s.ownBlock ≠ some g) (u : Value) : Dg (w.setCell ⟨g, j, none⟩ u) s ds := by
  rcases h with h | ⟨b, c, rfl, hc, hlt, hcell⟩
  · exact .inl h
  · refine .inr ⟨b, c, rfl, hc, by simpa [World.setCell] using hlt, fun k hk => ?_⟩
    have e : b ≠ g := fun e => hne (by simp [Value.ownBlock, e])
    rw [cell_of_heap (Below.heap_setCell _ _ _ _ e)]
    exact hcell k hk

/-- As mad_any; and where the digits lie. -/
theorem mad_own (neg : Bool) (s : Value) (ds : List Int) (w : World) (h : Dg w s ds) (hd : digits ds) (hl : ds.length ≤ 1000000) :
    Calls Try.prog 96 #[.bool neg, s] w fun e w' => ∃ n s' ds', e = .returned (.agg #[.bool n, s']) ∧ Dg w' s' ds' ∧ digits ds' ∧ canon ds' ∧ val ds' = val ds ∧ ds'.length ≤ ds.length ∧ (s'.ownBlock = s.ownBlock) ∧ Below w.heap.size w w' := by
  rcases h with ⟨rfl, rfl⟩ | ⟨b, c, rfl, hc, hlt, hcell⟩
  · refine (made_nil neg w).mono ?_
    rintro e w' ⟨rfl, hb⟩
    exact ⟨false, _, [], rfl, .inl ⟨rfl, rfl⟩, digits_nil, .inl rfl, rfl, Nat.le_refl _, rfl, hb⟩
  · refine (made_raw neg b c ds w hc hlt hl hcell).mono ?_
    rintro e w' ⟨k, hk, hz, hlast, rfl, hb⟩
    have hlen : (ds.take k).length = k := by simp; omega
    refine ⟨_, _, ds.take k, rfl, .inr ⟨b, c, by rw [hlen], by rw [hlen]; omega, Nat.lt_of_lt_of_le hlt hb.size, fun j hj => ?_⟩, digits_take hd k, ?_, val_take ds k hz, by rw [hlen]; exact hk, rfl, hb⟩
    · rw [hlen] at hj
      rw [hb.cell (p := ⟨b, j, none⟩) hlt, getD_take hj]
      exact hcell j (by omega)
    · rcases hlast with rfl | hlast
      · exact .inl rfl
      · by_cases h0 : k = 0
        · rw [h0]; exact .inl rfl
        · refine .inr ?_
          rw [hlen, getD_take (by omega)]
          exact hlast

theorem ownBlock_some {A : Option Addr} {n c : Nat} : (Value.slice A n c).ownBlock = A.map (·.block) := by cases A <;> rfl

/-- A digit ahead of others. -/
theorem app2 {ops : Array Oper} {rest : List Oper} {o : Oper} {a : Act} {Q : Exit → Act → World → Prop} {w : World} (hgd : o.guard = none) (s x : Operand)
    (ho : o.op = .call { callee := .builtin .append, args := #[s, x], argTypes := #[77, 77] }) (d : Int) (r : Value) (rs : List Int) (hs : a.eval s = .slice (some ⟨w.heap.size, 0, none⟩) 1 1) (hx : a.eval x = r) (hr : Dg w r rs) (hlen : rs.length ≤ 1000000)
    (h : ∀ v' w', Own w' w.heap.size v' (d :: rs) → (∀ w0 l, Keep w0 l w → Keep w0 l w') → (∀ s' ds', Dg w s' ds' → Dg w' s' ds') → wpList Try.prog ops Q rest (a.put o.dst v') w') :
    wpList Try.prog ops Q (o :: rest) a (w.alloc (.cells #[.int .i64 d] 3)) := by
  obtain ⟨i0, hi, hx0⟩ := Option.map_eq_some_iff.1 info3
  simp only [Prod.mk.injEq] at hx0
  obtain ⟨hz0, hz1, hz2⟩ := hx0
  have hown : (w.alloc (.cells #[.int .i64 d] 3)).ownsRow w.heap.size 3 1 (.slice (some ⟨w.heap.size, 0, none⟩) 1 1) 1 [.int .i64 d] :=
    ⟨rfl, .inr ⟨w.heap.size, 1, #[.int .i64 d], rfl, Nat.le_refl _, by show (w.heap.push _)[w.heap.size]? = _; exact Array.getElem?_push_size, Nat.le_refl _, by unfold maxLen; omega, rfl, rfl⟩⟩
  have hkeepA : ∀ w0 l, Keep w0 l w → Keep w0 l (w.alloc (.cells #[.int .i64 d] 3)) := fun w0 l K => (K.alloc _).rest
  have hdgA : ∀ s' ds', Dg w s' ds' → Dg (w.alloc (.cells #[.int .i64 d] 3)) s' ds' := fun s' ds' H => H.below (below_one _ _)
  rcases hr with ⟨rfl, rfl⟩ | ⟨b, c, rfl, hc, hlt, hcell⟩
  · refine wpList_append_own_none hgd s x 77 ho w.heap.size 3 i0 1 Try.underlying77 hi _ 1 _ hs hown hx ?_
    exact h _ _ hown hkeepA hdgA
  · have hbe := below_one w (.cells #[.int .i64 d] 3)
    refine wpList_append_own _ hgd s x 77 ho w.heap.size 3 i0 (.int .i64 0) 1 8 Try.underlying77 hi hz0 hz1 hz2 rfl (by decide) _ 1 _ hs hown ⟨b, 0, none⟩ rs.length c (rs.map (Value.int .i64)) hx (by simp) ?_ ?_ (by unfold maxLen; omega) (by omega) (by simp) ?_
    · intro j u hu
      have hj : j < rs.length := by
        apply Classical.byContradiction
        intro hn
        rw [List.getElem?_eq_none (by simp; omega)] at hu
        cases hu
      have e : ((⟨b, 0, none⟩ : Addr).add j) = ⟨b, j, none⟩ := by unfold Addr.add; split <;> simp_all
      rw [e, hbe.cell (p := ⟨b, j, none⟩) hlt, hcell j hj]
      rw [List.getElem?_map, List.getElem?_eq_getElem hj] at hu
      simpa [hj] using hu
    · intro u hu
      obtain ⟨z, _, rfl⟩ := List.mem_map.1 hu
      rfl
    · intro v' w' hown' hgrow _
      have hg : ∀ k, k < w.heap.size → w'.heap[k]? = (w.alloc (.cells #[.int .i64 d] 3)).heap[k]? := fun k hk => hgrow.block k (by simp; omega) (fun e => by simp [Value.ownBlock] at e; omega)
      refine h v' w' ?_ (fun w0 l K => ?_) (fun s' ds' H => ?_)
      · unfold Own
        rw [List.length_cons, Nat.add_comm, List.map_cons]
        exact hown'
      · have Ka := hkeepA w0 l K
        refine ⟨fun p hp => ?_, Ka.own, Ka.one, ⟨hgrow.os.trans Ka.B.os, hgrow.tape.trans Ka.B.tape, hgrow.output.trans Ka.B.output, Nat.le_trans Ka.B.size hgrow.size, fun k hk => (hg k (by have := K.B.size; omega)).trans (Ka.B.block k hk)⟩⟩
        rw [hg p.1 (K.lt hp)]
        exact Ka.box p hp
      · refine H.below ⟨hgrow.os, hgrow.tape, hgrow.output, Nat.le_trans hbe.size hgrow.size, fun k hk => (hg k hk).trans (hbe.block k hk)⟩

theorem cmpD_ge {a b : List Int} (ha : digits a) (hb : digits b) (ca : canon a) (cb : canon b) : (0 ≤ cmpD a b ↔ val b ≤ val a) ∧ -1 ≤ cmpD a b ∧ cmpD a b ≤ 1 := by
  rw [cmpD_sgn ha hb ca cb]
  unfold sgn
  split <;> (try split) <;> omega

/-- The quotient so far. -/
def Parted (a b : List Int) (g : Nat) (qs rs : List Int) : Prop :=
  qs.length = a.length ∧ digits qs ∧ digits rs ∧ canon rs ∧ (∀ j, j < g → qs.getD j 0 = 0) ∧ val (a.drop g) = val (qs.drop g) * val b + val rs ∧ val rs < val b ∧ rs.length ≤ a.length - g

theorem set_same {qs : List Int} {i : Nat} (h : qs.getD i 0 = 0) (hi : i < qs.length) : qs.set i 0 = qs := by
  have e : qs[i] = 0 := by simpa [hi] using h
  rw [← e]
  exact List.set_getElem_self hi
theorem drop_set_at {qs : List Int} {i : Nat} {t : Int} (h : i < qs.length) : val ((qs.set i t).drop i) = t + 10 * val (qs.drop (i + 1)) := by
  rw [val_drop (by simpa using h), getD_set_at h, List.drop_set_of_lt (by omega)]
theorem len_of_val {a b : List Int} (ha : digits a) (hb : digits b) (cb : canon b) (h : val b ≤ val a) : b.length ≤ a.length := by
  apply Classical.byContradiction
  intro hn
  have hne : b ≠ [] := by intro e; rw [e] at hn; simp at hn
  have := val_canon hb cb hne
  have := (val_bounds a ha).2
  have := p10_mono (show a.length ≤ b.length - 1 by omega)
  omega

theorem Parted.step {a b : List Int} {i : Nat} {qs rs rs2 : List Int} {t : Int} (h : Parted a b (i + 1) qs rs) (hi : i < a.length) (d2 : digits rs2) (c2 : canon rs2) (ht : 0 ≤ t ∧ t ≤ 9) (e : val rs2 + t * val b = a.getD i 0 + 10 * val rs) (hlt : val rs2 < val b) (hl : rs2.length ≤ a.length - i) :
    Parted a b i (qs.set i t) rs2 := by
  obtain ⟨h1, h2, h3, h4, h5, h6, h7, h8⟩ := h
  refine ⟨by simp [h1], digits_set h2 _ ht, d2, c2, fun j hj => ?_, ?_, hlt, hl⟩
  · have := h5 j (by omega)
    rw [List.getD_eq_getElem?_getD] at this ⊢
    rwa [List.getElem?_set_ne (by omega)]
  · rw [val_drop hi, drop_set_at (by omega), h6]
    generalize val (qs.drop (i + 1)) = u at *
    generalize a.getD i 0 = p at *
    generalize val b = v at *
    generalize val rs = r at *
    generalize val rs2 = r2 at *
    grind

theorem field_num (n : Bool) (v : Value) : ∀ w : World, Sem.run Try.prog (Instr.field 79 (.agg #[.bool n, v]) 1) w = .ok v w := fun _ => by kernel_rfl

theorem mul_lt_ten {t B : Int} (hB : 0 < B) (h : t * B < 10 * B) : t < 10 := Int.lt_of_mul_lt_mul_right h (by omega)

set_option maxHeartbeats 8000000 in
set_option maxRecDepth 100000 in
theorem parted_any (s t : Value) (a b : List Int) (w : World) (h1 : Dg w s a) (h2 : Dg w t b) (da : digits a) (db : digits b) (cb : canon b) (hb0 : 0 < val b) (l1 : a.length ≤ 1000) (l2 : b.length ≤ 1000) :
    Calls Try.prog 101 #[s, t] w fun e w' => ∃ u v qs rs, e = .returned (.tuple #[u, v]) ∧ Dg w' u qs ∧ Dg w' v rs ∧ digits qs ∧ digits rs ∧ canon rs ∧ qs.length = a.length ∧ rs.length ≤ a.length ∧ val a = val qs * val b + val rs ∧ val rs < val b ∧ Below w.heap.size w w' := by
  have H2 := Lib.hid h2
  obtain ⟨A, c, rfl, ha⟩ := h1.len
  obtain ⟨B, d, rfl, hb⟩ := h2.len
  have HA := Lib.hid ha
  have DA := Lib.hid (fun k => getD_mem da k)
  have DB := Lib.hid (And.intro db cb)
  have HB0 := Lib.hid hb0
  clear ha hb h1 h2 da db cb hb0
  have K := Lib.hid (Keep.start w)
  have hmk := mk_row a.length (by omega) (a.length : Int) rfl
  go_enter Try.func101, Try.ntmps101
  go_upto_region 2 with fail
  replace K := Lib.hid (K.out.alloc (Obj.row (List.replicate a.length 0)))
  clear hmk
  (refine out_keep K.out ?_; clear K; intro W K; replace K := Lib.hid K)
  go_wp2_with fail
  go_loopg [7, 8] a.length (fun g rv iv wr => ∃ (qs : List Int) (rs : List Int), iv = .int .i64 ((g : Int) - 1) ∧ g ≤ a.length ∧ Parted a b g qs rs ∧ Dg wr rv rs ∧ rv.ownBlock ≠ some w.heap.size ∧ Keep w [(w.heap.size, Obj.row qs)] wr)
  case atStart =>
    refine ⟨List.replicate a.length 0, [], rfl, Nat.le_refl _, ⟨by simp, digits_zero _, digits_nil, .inl rfl, fun j hj => ?_, ?_, HB0.out, by simp⟩, .inl ⟨rfl, rfl⟩, by simp [Value.ownBlock], K.out⟩
    · simp [hj]
    · rw [List.drop_length, List.drop_eq_nil_of_le (by simp)]; simp [val]
  case round =>
    clear K
    obtain ⟨qs, rs, rfl, hg, hpt, hdr, hne, k⟩ := hrel
    have K := Lib.hid k
    have HP := Lib.hid hpt
    have HDR := Lib.hid hdr
    have HNE := Lib.hid hne
    clear k hpt hdr hne
    cases gk with
    | zero =>
      have hqd : Dg wr (.slice (some ⟨w.heap.size, 0, none⟩) a.length a.length) qs := by
        have := K.out.rowd (.head _) (c := a.length) (by have := HP.out.1; omega)
        rwa [HP.out.1] at this
      have HQD := Lib.hid hqd
      clear hqd
      go_wp2_with fail
      go_ret2
      obtain ⟨h1, h2, h3, h4, h5, h6, h7, h8⟩ := HP.out
      rw [List.drop_zero, List.drop_zero] at h6
      exact ⟨_, _, qs, rs, rfl, HQD.out, HDR.out, h2, h3, h4, h1, by omega, h6, h7, K.out.B⟩
    | succ i =>
      obtain ⟨x, rfl, hx, hxc⟩ := HA.out (by omega)
      have X := kept_cell K.out hx (hxc i (by omega))
      have HXC := Lib.hid (And.intro hx hxc)
      clear hx hxc
      obtain ⟨p1, p2⟩ := DA.out i
      have hrl := HP.out.2.2.2.2.2.2.2
      have HST := Lib.hid (fun rs2 t d2 c2 ht e hlt hl => HP.out.step (rs2 := rs2) (t := t) (by omega) d2 c2 ht e hlt hl)
      have HQ0 := Lib.hid (set_same (HP.out.2.2.2.2.1 i (by omega)) (by have := HP.out.1; omega))
      have HQL := Lib.hid HP.out.1
      have HRB := Lib.hid HP.out.2.2.2.2.2.2.1
      have HDS := Lib.hid HP.out.2.2.1
      have HI : Hid (i < a.length) := by show i < _; omega
      generalize a.getD i 0 = p at *
      have HVP : Hid (val (p :: rs) = p + 10 * val rs) := rfl
      have hdp : digits (p :: rs) := by
        intro z hz
        rcases List.mem_cons.1 hz with rfl | hz
        · exact ⟨p1, p2⟩
        · exact HDS.out z hz
      have HDP := Lib.hid hdp
      clear hdp
      go_wp2_with (at_builtin; refine app2 rfl (.tmp 23) (.tmp 24) rfl p u7 rs rfl rfl HDR.out (by omega) ?_; intro v' w' hown' hkeep' hdg')
      have Y := Lib.hid (And.intro hown' (hkeep' _ _ K.out))
      have HGB : Hid (w.heap.size < wr.heap.size) := K.out.lt (.head _)
      clear hown' hkeep' hdg' HDR HNE K HP X
      refine (mad_own false v' (p :: rs) _ Y.out.1.dg HDP.out (by simp; omega)).mono ?_
      rintro e w2 ⟨n0, s0, r0, rfl, hd0, dg0, cn0, v0, ln0, ob0, hb⟩
      obtain ⟨A0, c0, rfl, -⟩ := hd0.len
      have K := Lib.hid (Keep.stays _ _ Y.out.2 hb)
      have R0 := Lib.hid hd0
      have G0 := Lib.hid dg0
      have C0 := Lib.hid cn0
      have V0 : Hid (val r0 = p + 10 * val rs) := by show _ = _; rw [v0, HVP.out]
      have L0 : Hid (r0.length ≤ rs.length + 1) := by have : (p :: rs).length = rs.length + 1 := rfl; show _ ≤ _; omega
      have O0 : Hid ((Value.slice A0 r0.length c0).ownBlock ≠ some w.heap.size) := by
        show _ ≠ _
        rw [ob0]
        intro e
        have := Y.out.1.base _ e
        have := HGB.out
        omega
      clear hb hd0 dg0 cn0 v0 ln0 ob0 Y HGB HDP HVP
      have hfd := field_num n0 (.slice A0 r0.length c0)
      go_wp2_with fail
      clear hfd
      rw [← HQ0.out] at K
      go_loopg [7] 10 (fun g2 rv2 wr2 => ∃ (t : Nat) (rs2 : List Int), g2 + t = 10 ∧ t ≤ 9 ∧ digits rs2 ∧ canon rs2 ∧ val rs2 + (t : Int) * val b = p + 10 * val rs ∧ rs2.length ≤ rs.length + 1 ∧ Dg wr2 rv2 rs2 ∧ rv2.ownBlock ≠ some w.heap.size ∧ Keep w [(w.heap.size, Obj.row (qs.set i (t : Int)))] wr2)
      case atStart => exact ⟨0, r0, by omega, by omega, G0.out, C0.out, by rw [V0.out]; simp, L0.out, R0.out, O0.out, K.out⟩
      case round =>
        clear K R0 G0 C0 V0 L0 O0
        obtain ⟨t, rs2, hg2, ht9, hd2, hc2, hv2, hl2, hr2, hn2, kk⟩ := hrel
        have K := Lib.hid kk
        have D2 := Lib.hid hd2
        have C2 := Lib.hid hc2
        have V2 := Lib.hid hv2
        have R2 := Lib.hid hr2
        have N2 := Lib.hid hn2
        have HCM := Lib.hid (cmpD_ge hd2 DB.out.1 hc2 DB.out.2)
        clear hd2 hc2 hv2 hr2 hn2 kk
        go_wp2_with fail
        refine (size_any _ _ rs2 b _ R2.out (H2.out.below K.out.B) (by omega) (by omega)).mono ?_
        rintro e w3 ⟨rfl, hb⟩
        replace K := Lib.hid (Keep.stays _ _ K.out hb)
        replace R2 := Lib.hid (R2.out.below hb)
        clear hb
        obtain ⟨hcm, cm1, cm2⟩ := HCM.out
        have HCM2 := Lib.hid hcm
        clear hcm HCM
        generalize cmpD rs2 b = cm at *
        by_cases hge : 0 ≤ cm
        · have hvb := HCM2.out.1 hge
          have HVB := Lib.hid hvb
          have hlb := len_of_val D2.out DB.out.1 DB.out.2 hvb
          have ht8 : (t : Int) + 1 < 10 := by
            refine mul_lt_ten HB0.out ?_
            have := V2.out
            have := HRB.out
            rw [Int.add_mul, Int.one_mul]
            omega
          clear hvb
          go_wp2_with fail
          refine (less_any _ _ rs2 b _ R2.out (H2.out.below K.out.B) D2.out DB.out.1 (by omega) hlb HVB.out).mono ?_
          rintro e w4 ⟨lv, lout, rfl, lown, ldg, lln, lval, hb⟩
          have HGB2 : Hid (w.heap.size < w3.heap.size) := K.out.lt (.head _)
          replace K := Lib.hid (Keep.stays _ _ K.out hb)
          have LO := Lib.hid lown
          have LD := Lib.hid ldg
          have LV := Lib.hid lval
          clear hb lown ldg lval
          go_wp2_with fail
          refine (mad_own false lv lout _ LO.out.dg LD.out (by omega)).mono ?_
          rintro e w5 ⟨n6, s6, r6, rfl, hd6, dg6, cn6, v6, ln6, ob6, hb⟩
          obtain ⟨A6, c6, rfl, -⟩ := hd6.len
          replace K := Lib.hid (Keep.stays _ _ K.out hb)
          have R6 := Lib.hid hd6
          have G6 := Lib.hid dg6
          have C6 := Lib.hid cn6
          have V6 := Lib.hid v6
          have O6 : Hid ((Value.slice A6 r6.length c6).ownBlock ≠ some w.heap.size) := by
            show _ ≠ _
            rw [ob6]
            intro e
            have := LO.out.base _ e
            have := HGB2.out
            omega
          clear hb hd6 dg6 cn6 v6 ob6
          have hfd := field_num n6 (.slice A6 r6.length c6)
          have hqi : i < (qs.set i (t : Int)).length := by have := HQL.out; simp; omega
          have Z := K.out.rowc (.head _) i hqi
          have f3 := K.out.roww (.head _)
          have HAT : Hid ((qs.set i (t : Int)).getD i 0 = t) := getD_set_at (by have := HQL.out; omega) _
          rw [HAT.out] at Z
          go_wp2_with fail
          have K7 := K.out.setr_0 i ((t : Int) + 1)
          rw [List.set_set] at K7
          replace K := Lib.hid K7
          have R7 := Lib.hid (R6.out.setr (j := i) O6.out (.int .i64 ((t : Int) + 1)))
          clear K7 f3 Z R6
          go_roundg (gk - 1)
          case measure => omega
          case rel => exact ⟨t + 1, r6, by omega, by omega, G6.out, C6.out, by have := V6.out; have := LV.out; have := V2.out; rw [Int.natCast_add, Int.add_mul]; omega, by omega, R7.out, O6.out, K.out⟩
        · have hnb : ¬ val b ≤ val rs2 := fun h => hge (HCM2.out.2 h)
          have HP2 := Lib.hid (HST.out rs2 (t : Int) D2.out C2.out (by omega) V2.out (by omega) (by omega))
          clear hnb HCM2
          go_wp2_with fail
          go_roundg i
          case measure => omega
          case rel => exact ⟨_, rs2, congrArg (Value.int .i64) (by omega), by omega, HP2.out, R2.out, N2.out, K.out⟩
end Go.Proofs.Ytehjfjdopeadfaa
