/- The walk of the document's Root. -/
import Derived.Test.YtehjfjdopeadfaaDz
set_option linter.unusedVariables false
set_option linter.unusedSimpArgs false
namespace Go.Proofs.Ytehjfjdopeadfaa
open Go.RowKit

/-- A copy of digits. -/
theorem app3 {ops : Array Oper} {rest : List Oper} {o : Oper} {a : Act} {Q : Exit → Act → World → Prop} {w : World} (hgd : o.guard = none) (s x : Operand)
    (ho : o.op = .call { callee := .builtin .append, args := #[s, x], argTypes := #[77, 77] }) (r : Value) (rs : List Int) (hs : a.eval s = .slice (some ⟨w.heap.size, 0, none⟩) 0 0) (hx : a.eval x = r) (hr : Dg w r rs) (hlen : rs.length ≤ 1000000)
    (h : ∀ v' w', Own w' w.heap.size v' rs → (∀ w0 l, Keep w0 l w → Keep w0 l w') → (∀ s' ds', Dg w s' ds' → Dg w' s' ds') → wpList Try.prog ops Q rest (a.put o.dst v') w') :
    wpList Try.prog ops Q (o :: rest) a (w.alloc (.cells #[] 3)) := by
  obtain ⟨i0, hi, hx0⟩ := Option.map_eq_some_iff.1 info3
  simp only [Prod.mk.injEq] at hx0
  obtain ⟨hz0, hz1, hz2⟩ := hx0
  have hown : (w.alloc (.cells #[] 3)).ownsRow w.heap.size 3 1 (.slice (some ⟨w.heap.size, 0, none⟩) 0 0) 0 [] :=
    ⟨rfl, .inr ⟨w.heap.size, 0, #[], rfl, Nat.le_refl _, by show (w.heap.push _)[w.heap.size]? = _; exact Array.getElem?_push_size, Nat.le_refl _, by unfold maxLen; omega, rfl, rfl⟩⟩
  have hkeepA : ∀ w0 l, Keep w0 l w → Keep w0 l (w.alloc (.cells #[] 3)) := fun w0 l K => (K.alloc _).rest
  have hdgA : ∀ s' ds', Dg w s' ds' → Dg (w.alloc (.cells #[] 3)) s' ds' := fun s' ds' H => H.below (below_one _ _)
  rcases hr with ⟨rfl, rfl⟩ | ⟨b, c, rfl, hc, hlt, hcell⟩
  · refine wpList_append_own_none hgd s x 77 ho w.heap.size 3 i0 1 Try.underlying77 hi _ 0 _ hs hown hx ?_
    exact h _ _ hown hkeepA hdgA
  · have hbe := below_one w (.cells #[] 3)
    refine wpList_append_own _ hgd s x 77 ho w.heap.size 3 i0 (.int .i64 0) 1 8 Try.underlying77 hi hz0 hz1 hz2 rfl (by decide) _ 0 _ hs hown ⟨b, 0, none⟩ rs.length c (rs.map (Value.int .i64)) hx (by simp) ?_ ?_ (by unfold maxLen; omega) (by omega) (by simp) ?_
    · intro j u hu
      have hj : j < rs.length := by
        apply Classical.byContradiction
        intro hn
        rw [List.getElem?_eq_none (by simp; omega)] at hu
        cases hu
      have e : ((⟨b, 0, none⟩ : Addr).add j) = ⟨b, j, none⟩ := by unfold Addr.add; split <;> simp_all
      rw [e, hbe.cell (p := ⟨b, j, none⟩) hlt, hcell j hj]
      rw [List.getElem?_map, List.getElem?_eq_getElem hj] at hu
      simpa [hj] using hu
    · intro u hu
      obtain ⟨z, _, rfl⟩ := List.mem_map.1 hu
      rfl
    · intro v' w' hown' hgrow _
      have hg : ∀ k, k < w.heap.size → w'.heap[k]? = (w.alloc (.cells #[] 3)).heap[k]? := fun k hk => hgrow.block k (by simp; omega) (fun e => by simp [Value.ownBlock] at e; omega)
      refine h v' w' ?_ (fun w0 l K => ?_) (fun s' ds' H => ?_)
      · unfold Own
        rw [Nat.zero_add] at hown'
        exact hown'
      · have Ka := hkeepA w0 l K
        refine ⟨fun p hp => ?_, Ka.own, Ka.one, ⟨hgrow.os.trans Ka.B.os, hgrow.tape.trans Ka.B.tape, hgrow.output.trans Ka.B.output, Nat.le_trans Ka.B.size hgrow.size, fun k hk => (hg k (by have := K.B.size; omega)).trans (Ka.B.block k hk)⟩⟩
        rw [hg p.1 (K.lt hp)]
        exact Ka.box p hp
      · refine H.below ⟨hgrow.os, hgrow.tape, hgrow.output, Nat.le_trans hbe.size hgrow.size, fun k hk => (hg k hk).trans (hbe.block k hk)⟩

/-- The root so far: digits from number g on are found. -/
def Rooted (X : Int) (g : Nat) (ds : List Int) : Prop := digits ds ∧ (∀ j, j < g → ds.getD j 0 = 0) ∧ val ds * val ds ≤ X ∧ X < (val ds + p10 g) * (val ds + p10 g)

theorem Rooted.start {a : List Int} (ha : digits a) : Rooted (val a) (a.length / 2 + 1) (List.replicate (a.length / 2 + 1) 0) := by
  refine ⟨digits_zero _, fun j hj => by simp [hj], ?_, ?_⟩
  · rw [val_zero]; have := (val_bounds a ha).1; omega
  · rw [val_zero]
    have h1 := (val_bounds a ha).2
    have h2 := p10_mono (show a.length ≤ (a.length / 2 + 1) + (a.length / 2 + 1) by omega)
    rw [p10_add] at h2
    have : (0 + p10 (a.length / 2 + 1)) * (0 + p10 (a.length / 2 + 1)) = p10 (a.length / 2 + 1) * p10 (a.length / 2 + 1) := by rw [Int.zero_add]
    rw [this]
    omega

/-- Within one digit's search. -/
def InRoot (X : Int) (i : Nat) (ds : List Int) (t : Int) (fits : Bool) : Prop :=
  ds.getD i 0 = t ∧ (0 ≤ t ∧ t ≤ 9) ∧ digits ds ∧ (∀ j, j < i → ds.getD j 0 = 0) ∧ val ds * val ds ≤ X ∧ X < (val ds + p10 i * (10 - t)) * (val ds + p10 i * (10 - t)) ∧ (fits = false → X < (val ds + p10 i) * (val ds + p10 i))

theorem Rooted.inn {X : Int} {i : Nat} {ds : List Int} (h : Rooted X (i + 1) ds) : InRoot X i ds 0 true := by
  obtain ⟨h1, h2, h3, h4⟩ := h
  refine ⟨h2 i (by omega), by omega, h1, fun j hj => h2 j (by omega), h3, ?_, fun h => by cases h⟩
  rw [show p10 i * (10 - 0) = p10 (i + 1) by show _ = 10 * p10 i; omega]
  exact h4
theorem InRoot.out {X : Int} {i : Nat} {ds : List Int} {t : Int} {f : Bool} (h : InRoot X i ds t f) (hx : 9 ≤ t ∨ f = false) : Rooted X i ds := by
  obtain ⟨h1, h2, h3, h4, h5, h6, h7⟩ := h
  refine ⟨h3, h4, h5, ?_⟩
  rcases hx with hx | hx
  · rw [show t = 9 by omega, show p10 i * (10 - 9) = p10 i by omega] at h6
    exact h6
  · exact h7 hx
theorem set_val {ds : List Int} {i : Nat} {t : Int} (h : ds.getD i 0 = t) (hi : i < ds.length) : val (ds.set i (t + 1)) = val ds + p10 i := by
  rw [val_set _ _ _ hi, h, show t + 1 - t = 1 by omega, Int.mul_one]
theorem set_back {ds : List Int} {i : Nat} {t u : Int} (h : ds.getD i 0 = t) (hi : i < ds.length) : (ds.set i u).set i t = ds := by
  rw [List.set_set]
  have e : ds[i] = t := by simpa [hi] using h
  rw [← e]
  exact List.set_getElem_self hi
theorem InRoot.more {X : Int} {i : Nat} {ds : List Int} {t : Int} {f : Bool} (h : InRoot X i ds t f) (hi : i < ds.length) (ht : t < 9) (hle : (val ds + p10 i) * (val ds + p10 i) ≤ X) : InRoot X i (ds.set i (t + 1)) (t + 1) true := by
  obtain ⟨h1, h2, h3, h4, h5, h6, h7⟩ := h
  refine ⟨getD_set_at hi _, by omega, digits_set h3 _ (by omega), fun j hj => ?_, by rw [set_val h1 hi]; exact hle, ?_, fun h => by cases h⟩
  · have := h4 j hj
    rw [List.getD_eq_getElem?_getD] at this ⊢
    rwa [List.getElem?_set_ne (by omega)]
  · rw [set_val h1 hi]
    have e : val ds + p10 i + p10 i * (10 - (t + 1)) = val ds + p10 i * (10 - t) := by
      rw [show 10 - t = 1 + (10 - (t + 1)) by omega, Int.mul_add, Int.mul_one]; omega
    rw [e]
    exact h6
theorem InRoot.less {X : Int} {i : Nat} {ds : List Int} {t : Int} {f : Bool} (h : InRoot X i ds t f) (hle : X < (val ds + p10 i) * (val ds + p10 i)) : InRoot X i ds t false :=
  ⟨h.1, h.2.1, h.2.2.1, h.2.2.2.1, h.2.2.2.2.1, h.2.2.2.2.2.1, fun _ => hle⟩

set_option maxHeartbeats 8000000 in
set_option maxRecDepth 100000 in
theorem root_any (s : Value) (a : List Int) (w : World) (h : Num w false s a) (l1 : a.length ≤ 300) :
    Calls Try.prog 90 #[.agg #[.bool false, s]] w fun e w' => ∃ n v out, e = .returned (.tuple #[.agg #[.bool n, v], .int .i64 0]) ∧ Num w' n v out ∧ 0 ≤ zof n out ∧ zof n out * zof n out ≤ val a ∧ val a < (zof n out + 1) * (zof n out + 1) ∧ out.length ≤ a.length + 1 ∧ Below w.heap.size w w' := by
  obtain ⟨A, c, rfl, ha⟩ := h.1.len
  have K := Lib.hid (Keep.begin2 w (Obj.num false (.slice A a.length c)) (Obj.num false (.slice none 0 0)))
  have H := Lib.hid h
  have HS := Lib.hid (Rooted.start h.2.1)
  clear ha h
  have hmk := mk_row (a.length / 2 + 1) (by omega) ((a.length : Int) / 2 + 1) (by omega)
  go_enter Try.func90, Try.ntmps90
  go_upto_region 1 with fail
  (refine out_keep K.out ?_; clear K; intro W K; replace K := Lib.hid K)
  obtain ⟨f1, c10, c11⟩ := K.out.nm (.tail _ (.head _))
  go_upto_region 4 with fail
  replace K := Lib.hid (K.out.alloc (Obj.row (List.replicate (a.length / 2 + 1) 0)))
  clear f1 c10 c11 hmk
  generalize W.heap.size = gg at *
  (refine out_keep K.out ?_; clear K; intro W K; replace K := Lib.hid K)
  go_wp2_with fail
  go_loopg [5] (a.length / 2 + 1) (fun g iv wr => ∃ (ds : List Int), iv = .int .i64 ((g : Int) - 1) ∧ g ≤ a.length / 2 + 1 ∧ ds.length = a.length / 2 + 1 ∧ Rooted (val a) g ds ∧ Keep w [(gg, Obj.row ds), (w.heap.size + 1, Obj.num false (.slice none 0 0)), (w.heap.size, Obj.num false (.slice A a.length c))] wr)
  case atStart => exact ⟨List.replicate (a.length / 2 + 1) 0, congrArg (Value.int .i64) (by omega), Nat.le_refl _, by simp, HS.out, K.out⟩
  case round =>
    clear K HS
    obtain ⟨ds, rfl, hg, hlen, hrt, k⟩ := hrel
    have K := Lib.hid k
    have HR := Lib.hid hrt
    have HL := Lib.hid hlen
    clear k hrt hlen
    cases gk with
    | zero =>
      have hqd : Dg wr (.slice (some ⟨gg, 0, none⟩) (a.length / 2 + 1) (a.length / 2 + 1)) ds := by
        have := K.out.rowd (.head _) (c := a.length / 2 + 1) (by have := HL.out; omega)
        rwa [HL.out] at this
      have HQD := Lib.hid hqd
      clear hqd
      go_wp2_with fail
      refine (mad_any false _ ds _ HQD.out HR.out.1 (by rw [HL.out]; omega)).mono ?_
      rintro e w3 ⟨n3, s3, d3, rfl, hN, hv3, hl3, hn3, hb⟩
      obtain rfl : n3 = false := by simpa using hn3
      obtain ⟨A3, k3, rfl, -⟩ := hN.1.len
      replace K := Lib.hid (Keep.stays _ _ K.out hb)
      have HN := Lib.hid hN
      have HV : Hid (zof false d3 = val ds) := hv3
      clear hb hN hv3 hn3 HQD
      obtain ⟨f1, c10, c11⟩ := K.out.nm (.tail _ (.head _))
      go_wp2_with fail
      refine ret_nm2 Try.results90 rfl ((K.out.putn_1 false _).nb (.tail _ (.head _))) ?_
      obtain ⟨r1, r2, r3, r4⟩ := HR.out
      refine ⟨false, _, d3, rfl, HN.out.put (K.out.nm (.tail _ (.head _))).2.1 _ _, ?_, ?_, ?_, by have := HL.out; omega, (K.out.putn_1 false _).B⟩
      · rw [HV.out]; exact (val_bounds _ r1).1
      · rw [HV.out]; exact r3
      · rw [HV.out]; exact r4
    | succ i =>
      have HI : Hid (i < ds.length) := by show _ < _; rw [HL.out]; omega
      have HN := Lib.hid HR.out.inn
      clear HR
      rw [show (((i + 1 : Nat) : Int) - 1) = (i : Int) by omega]
      go_wp2_with fail
      go_loopg [6, 7] 10 (fun g2 fv pv wr2 => ∃ (t : Int) (f : Bool) (ds2 : List Int), fv = .bool f ∧ (9 - t).toNat + f.toNat ≤ g2 ∧ ds2.length = a.length / 2 + 1 ∧ InRoot (val a) i ds2 t f ∧ Keep w [(gg, Obj.row ds2), (w.heap.size + 1, Obj.num false (.slice none 0 0)), (w.heap.size, Obj.num false (.slice A a.length c))] wr2)
      case atStart => exact ⟨0, true, ds, rfl, by decide, HL.out, HN.out, K.out⟩
      case round =>
        clear K HN HL HI
        obtain ⟨t, f, ds2, rfl, hg2, hl2, hin, kk⟩ := hrel
        have K := Lib.hid kk
        have HN := Lib.hid hin
        have HL := Lib.hid hl2
        obtain ⟨t0, t9⟩ := hin.2.1
        have HI : Hid (i < ds2.length) := by show _ < _; rw [hl2]; omega
        have HT := Lib.hid hin.1
        clear kk hin hl2
        have Z := K.out.rowc (.head _) i HI.out
        have f3 := K.out.roww (.head _)
        rw [HT.out] at Z
        by_cases ht : t < 9
        · cases f with
          | false =>
            have HO := Lib.hid (HN.out.out (.inr rfl))
            go_wp2_with fail
            go_roundg i
            case measure => omega
            case rel => exact ⟨ds2, congrArg (Value.int .i64) (by omega), by omega, HL.out, HO.out, K.out⟩
          | true =>
            go_upto_region 10 with fail
            replace K := Lib.hid (K.out.setr_0 i (t + 1))
            clear Z f3
            (refine out_keep K.out ?_; clear K; intro W K; replace K := Lib.hid K)
            have HLS : Hid ((ds2.set i (t + 1)).length = a.length / 2 + 1) := by show _ = _; rw [List.length_set, HL.out]
            have hqd : Dg W (.slice (some ⟨gg, 0, none⟩) (a.length / 2 + 1) (a.length / 2 + 1)) (ds2.set i (t + 1)) := by
              have := K.out.rowd (.head _) (c := a.length / 2 + 1) (by have := HLS.out; omega)
              rwa [HLS.out] at this
            have HQD := Lib.hid hqd
            clear hqd
            go_wp2_with (at_builtin; refine app3 rfl (.tmp 38) (.tmp 39) rfl _ _ rfl rfl HQD.out (by rw [HLS.out]; omega) ?_; intro v' w' hown' hkeep' hdg')
            have Y := Lib.hid (And.intro hown' (hkeep' _ _ K.out))
            clear hown' hkeep' hdg' K HQD
            refine (mad_any false v' _ _ Y.out.1.dg (digits_set HN.out.2.2.1 _ (by omega)) (by rw [HLS.out]; omega)).mono ?_
            rintro e w3 ⟨n3, s3, d3, rfl, hN, hv3, hl3, hn3, hb⟩
            obtain rfl : n3 = false := by simpa using hn3
            obtain ⟨A3, k3, rfl, -⟩ := hN.1.len
            have K := Lib.hid (Keep.stays _ _ Y.out.2 hb)
            have HN3 := Lib.hid hN
            have HV3 : Hid (zof false d3 = val ds2 + p10 i) := hv3.trans (set_val HT.out HI.out)
            have hl4 : d3.length ≤ a.length / 2 + 1 := by rw [HLS.out] at hl3; exact hl3
            clear hb hN hv3 hl3 hn3 Y
            go_upto_region 11 with fail
            replace K := Lib.hid (K.out.alloc (Obj.num false (.slice A3 d3.length k3)))
            replace HN3 := Lib.hid (HN3.out.below (below_one _ (Obj.num false (.slice A3 d3.length k3))))
            generalize w3.heap.size = g7 at *
            refine out_with (B := fun W => Num W false (.slice A3 d3.length k3) d3) K.out HN3.out ?_
            clear K HN3
            intro W4 K hh
            replace K := Lib.hid K
            have HN3 := Lib.hid hh
            clear hh
            (refine region_ord _ 6 (by kernel_rfl) (by kernel_rfl) K.out.drew ?_; clear K; intro W K hbw; replace K := Lib.hid K)
            replace HN3 := Lib.hid (HN3.out.below hbw)
            clear hbw
            obtain ⟨e10, e11⟩ := Keep.anm K (.head _)
            obtain ⟨e20, e21⟩ := Keep.anm K (.tail _ (.tail _ (.tail _ (.head _))))
            (refine Ord.take' 0 rfl (by kernel_rfl) (fun _ _ _ _ h => h) K.out (by rfl) ?_; apply Exists.intro; refine ⟨fun p => ?_, ?_⟩; (focus (go_simp; (try (with_reducible rfl)); done)); (try simp only [Act.put, List.setIfInBounds_toArray, List.set_cons_zero, List.set_cons_succ]))
            (refine Ord.take' 1 rfl (by kernel_rfl) (fun _ _ _ _ h => h) K.out (by rfl) ?_; apply Exists.intro; refine ⟨fun p => ?_, ?_⟩; (focus (go_simp; (try (with_reducible rfl)); done)); (try simp only [Act.put, List.setIfInBounds_toArray, List.set_cons_zero, List.set_cons_succ]))
            (refine Ord.take' 3 rfl (by kernel_rfl) (fun _ _ _ _ h => h) K.out (by rfl) ?_; apply Exists.intro; refine ⟨fun p => ?_, ?_⟩; (focus (go_simp; (try (with_reducible rfl)); done)); (try simp only [Act.put, List.setIfInBounds_toArray, List.set_cons_zero, List.set_cons_succ]))
            (refine Ord.call 2 (g := 88) (args := (#[.agg #[.bool false, .slice A3 d3.length k3], .agg #[.bool false, .slice A3 d3.length k3]])) rfl (by kernel_rfl) (by rfl) (by (go_simp; try (with_reducible rfl))) ?_)
            refine (times_any false false _ _ d3 d3 _ HN3.out HN3.out (by omega) (by omega)).mono ?_
            rintro e w5 ⟨n5, s5, d5, rfl, hN5, hz5, hl5, hb⟩
            obtain ⟨A5, k5, rfl, -⟩ := hN5.1.len
            (refine ⟨_, rfl, Keep.stays _ _ K.out hb, ?_⟩; replace K := Lib.hid (Keep.stays _ _ K.out hb); simp only [Act.put, List.setIfInBounds_toArray, List.set_cons_zero, List.set_cons_succ])
            clear hb
            (refine Ord.call 4 (g := 89) (args := (#[.agg #[.bool n5, .slice A5 d5.length k5], .agg #[.bool false, .slice A a.length c]])) rfl (by kernel_rfl) (by rfl) (by (go_simp; try (with_reducible rfl))) ?_)
            refine (cmp_any n5 false _ _ d5 a _ hN5 (H.out.below K.out.B) (by omega) (by omega)).mono ?_
            rintro e w6 ⟨rfl, hb⟩
            (refine ⟨_, rfl, Keep.stays _ _ K.out hb, ?_⟩; replace K := Lib.hid (Keep.stays _ _ K.out hb); simp only [Act.put, List.setIfInBounds_toArray, List.set_cons_zero, List.set_cons_succ])
            have HC : Hid ((sgn (zof n5 d5 - zof false a) ≤ 0 ↔ (val ds2 + p10 i) * (val ds2 + p10 i) ≤ val a) ∧ -1 ≤ sgn (zof n5 d5 - zof false a) ∧ sgn (zof n5 d5 - zof false a) ≤ 1) := by
              rw [hz5, HV3.out, show zof false a = val a from rfl]
              unfold sgn
              show _ ∧ _
              split <;> (try split) <;> omega
            clear hb hN5 hz5 HN3 HV3
            obtain ⟨hc1, hc2, hc3⟩ := HC.out
            have HC1 := Lib.hid hc1
            clear hc1 HC
            generalize sgn (zof n5 d5 - zof false a) = cm at *
            (refine Ord.take' 5 rfl (by kernel_rfl) (fun _ _ _ _ h => h) K.out (by rfl) ?_; apply Exists.intro; refine ⟨fun p => ?_, ?_⟩; (focus (go_simp; (try (with_reducible rfl)); done)); (try simp only [Act.put, List.setIfInBounds_toArray, List.set_cons_zero, List.set_cons_succ]))
            clear e10 e11 e20 e21
            (refine Ord.done (by kernel_rfl) ?_; simp only [List.drop_succ_cons, List.drop_zero, Act.put, List.setIfInBounds_toArray, List.set_cons_zero, List.set_cons_succ])
            replace K := Lib.hid K.out.rest
            by_cases hle : cm ≤ 0
            · have HM := Lib.hid (HN.out.more HI.out ht (HC1.out.1 hle))
              go_wp2_with fail
              go_roundg (gk - 1)
              case measure => omega
              case rel => exact ⟨t + 1, decide (cm ≤ 0), _, rfl, by rw [decide_eq_true hle]; simp [Bool.toNat] at *; omega, HLS.out, by rw [decide_eq_true hle]; exact HM.out, K.out⟩
            · have HM := Lib.hid (HN.out.less (by have : ¬ (val ds2 + p10 i) * (val ds2 + p10 i) ≤ val a := fun h => hle (HC1.out.2 h); omega))
              have HI2 : Hid (i < (ds2.set i (t + 1)).length) := by show _ < _; rw [List.length_set]; exact HI.out
              have Z := K.out.rowc (.head _) i HI2.out
              have f3 := K.out.roww (.head _)
              rw [getD_set_at HI.out] at Z
              go_wp2_with fail
              have K7 := K.out.setr_0 i t
              rw [set_back HT.out HI.out] at K7
              replace K := Lib.hid K7
              clear K7 Z f3
              go_roundg (gk - 1)
              case measure => omega
              case rel => exact ⟨t, decide (cm ≤ 0), ds2, rfl, by rw [show decide (cm ≤ 0) = false from decide_eq_false (by omega)]; simp [Bool.toNat] at *; omega, HL.out, by rw [show decide (cm ≤ 0) = false from decide_eq_false (by omega)]; exact HM.out, K.out⟩
        · have HO := Lib.hid (HN.out.out (.inl (by omega)))
          go_wp2_with fail
          go_roundg i
          case measure => omega
          case rel => exact ⟨ds2, congrArg (Value.int .i64) (by omega), by omega, HL.out, HO.out, K.out⟩
end Go.Proofs.Ytehjfjdopeadfaa
