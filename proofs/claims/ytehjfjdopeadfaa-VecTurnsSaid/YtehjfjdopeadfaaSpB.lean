/- As SpA, but what follows the head may come up in more than one order: it is left to be shown. -/
import Derived.Test.YtehjfjdopeadfaaSpA
set_option linter.unusedVariables false
namespace Go.Proofs.Ytehjfjdopeadfaa
open Go.RowKit

section
variable {P : Program} {ops : Array Oper} {md : Region.Mode} {U : World → Prop} {F : Act} {h m : Nat} {L : Array Bool → Prop}

/-- What came up, and all that it waited for. -/
structure Inv (md : Region.Mode) (ops : Array Oper) (b : Array Bool) : Prop where
  size : b.size = ops.size
  closed : ∀ j oj, ops[j]? = some oj → b.getD j false = true → ∀ e ∈ oj.after, Region.binds md e = true → b.getD e.on false = true

theorem Inv.set {i : Nat} {b : Array Bool} (inv : Inv md ops b) (hi : i ∈ Region.ready md ops b) : Inv md ops (b.setIfInBounds i true) := by
  obtain ⟨_, oi, hoi, hall⟩ := mem_ready.1 hi
  refine ⟨by simp [inv.size], fun j oj hj hl e he hb => ?_⟩
  by_cases hij : i = j
  · subst hij
    obtain rfl : oj = oi := Option.some.inj (hj.symm.trans hoi)
    exact getD_set_true (hall e he hb)
  · rw [getD_set_ne false hij] at hl
    exact getD_set_true (inv.closed j oj hj hl e he hb)

theorem last_unlisted {n : Nat} {b : Array Bool} (inv : Inv md ops b) (hs : Region.sinkB md ops n = true) (hn : n < ops.size) : ∀ (d i : Nat), n - i = d → i < n → b.getD i true = false → b.getD n true = false := by
  intro d
  induction d using Nat.strongRecOn with
  | _ d ih =>
    intro i hd hi hun
    have h1 := List.all_eq_true.1 hs i (List.mem_range.2 hi)
    obtain ⟨j, hj, hj2⟩ := List.any_eq_true.1 h1
    simp only [Bool.and_eq_true, decide_eq_true_eq] at hj2
    obtain ⟨oj, hoj, e, he, hb, hon⟩ := Region.waitsFor_spec hj2.2
    have hjle : j ≤ n := by have := List.mem_range.1 hj; omega
    have hju : b.getD j true = false := by
      cases hl : b.getD j false with
      | true =>
        have h2 := inv.closed j oj hoj hl e he hb
        rw [hon, getD_both hun] at h2
        cases h2
      | false => exact getD_in (by rw [inv.size]; omega) hl
    by_cases hjn : j = n
    · rw [← hjn]; exact hju
    · exact ih (n - j) (by omega) j rfl (by omega) hju

/-- Every operation from h on, but m, waits for number h - 1. -/
def tailsB (md : Region.Mode) (ops : Array Oper) (h m : Nat) : Bool := (List.range ops.size).all fun t => decide (t < h) || t == m || Region.waitsFor md ops t (h - 1)

theorem ready_head {b : Array Bool} {i : Nat} (h0 : 0 < h) (hh : h ≤ ops.size) (inv : Inv md ops b) (hs : Region.sinkB md ops (h - 1) = true) (ht : tailsB md ops h m = true) (hi : i < h) (hun : b.getD i true = false) :
    ∀ j ∈ Region.ready md ops b, j < h ∨ j = m := by
  intro j hj
  have hl : b.getD (h - 1) true = false := by
    by_cases e : i = h - 1
    · rw [← e]; exact hun
    · exact last_unlisted inv hs (by omega) _ i rfl (by omega) hun
  obtain ⟨_, oj, hoj, hall⟩ := mem_ready.1 hj
  have h1 := List.all_eq_true.1 ht j (List.mem_range.2 (Array.getElem?_eq_some_iff.1 hoj).1)
  simp only [Bool.or_eq_true, decide_eq_true_eq, beq_iff_eq] at h1
  rcases h1 with (h1 | h1) | h1
  · exact .inl h1
  · exact .inr h1
  · obtain ⟨o', ho', e, he, hb, hon⟩ := Region.waitsFor_spec h1
    obtain rfl : o' = oj := Option.some.inj (ho'.symm.trans hoj)
    have h2 := hall e he hb
    rw [hon, getD_both hl] at h2
    cases h2

def endOf : Nat → Nat → Array Bool → Array Bool
  | 0, _, b => b
  | f + 1, k, b => endOf f (k + 1) (b.setIfInBounds k true)

def lexC (md : Region.Mode) (ops : Array Oper) (h : Nat) : Nat → Nat → Array Bool → Bool
  | 0, _, b => (Region.ready md ops b).all (fun j => decide (h ≤ j))
  | f + 1, k, b => (Region.ready md ops b).contains k && Region.free md ops b k && lexC md ops h f (k + 1) (b.setIfInBounds k true)

theorem uniT_lexC (hsel : Region.noSelect ops = true) (l : List Oper) : ∀ (k : Nat) (b : Array Bool) (a : Act), (∀ j, j < l.length → l[j]? = ops[k + j]?) → k + l.length = h → lexC md ops h l.length k b = true → L (endOf l.length k b) →
    Chain P ops U F l a → uniT P ops md U h L F l.length b a := by
  induction l with
  | nil =>
    intro k b a _ _ hB hL hc
    simp only [List.length_nil, lexC, List.all_eq_true, decide_eq_true_eq] at hB
    exact ⟨hL, hc, hB⟩
  | cons o l ih =>
    intro k b a hl hk hB hL hc
    have h0 : ops[k]? = some o := by have := hl 0 (by simp); simpa using this.symm
    rw [List.length_cons] at hB hk
    simp only [lexC, Bool.and_eq_true] at hB
    obtain ⟨⟨hr, hf⟩, hB'⟩ := hB
    obtain ⟨v, hy, hn⟩ := hc
    refine uniT_first h0 hsel (by omega) l.length b a (Region.free_spec h0 hf) (by simpa using hr) hy ?_
    refine ih (k + 1) _ _ (fun j hj => ?_) (by omega) hB' hL hn
    have := hl (j + 1) (by rw [List.length_cons]; omega)
    rw [List.getElem?_cons_succ] at this
    rw [this, Nat.add_assoc, Nat.add_comm 1 j]

theorem phaseD2 {D : World → Prop} (hD : Stays D ∧ ∀ w, D w → U w) {om : Oper} {p : Value} {g : Nat} {Q : Exit → Act → World → Prop} (hsel : Region.noSelect ops = true) (hhm : h ≤ m)
    (hno : ∀ i o, i < h → ops[i]? = some o → ∀ e ∈ o.after, Region.binds md e = true → e.on ≠ m) (hap : ∀ i o, i < h → ops[i]? = some o → om.apart ops o = true)
    (h0 : 0 < h) (hh : h ≤ ops.size) (hs : Region.sinkB md ops (h - 1) = true) (ht : tailsB md ops h m = true)
    (hL : ∀ b w, L b → D w → wpAny P md ops Q g (b.setIfInBounds m true) (F.put om.dst p) w) (f : Nat) :
    ∀ (b : Array Bool) (a : Act) (w : World), Inv md ops (b.setIfInBounds m true) → m < b.size → uniT P ops md U h L F f b a → D w → wpAny P md ops Q (f + g) (b.setIfInBounds m true) (a.put om.dst p) w := by
  have nosel := Region.noSelect_spec hsel
  induction f with
  | zero =>
    intro b a w _ _ hu hw
    obtain ⟨hl, rfl, _⟩ := hu
    rw [Nat.zero_add]
    exact hL b w hl hw
  | succ f ih =>
    intro b a w inv hbs hu hw
    rw [Nat.add_right_comm]
    obtain ⟨⟨i0, hi0, hi0m⟩, hall⟩ := hu
    have r0 : i0 ∈ Region.ready md ops (b.setIfInBounds m true) := ready_mono hi0 (by omega)
    refine ⟨fun e => absurd e (List.ne_nil_of_mem r0), fun i hi => ?_⟩
    have hin := ready_head h0 hh inv hs ht hi0m (mem_ready.1 r0).1 i hi
    obtain ⟨hun, o', ho', hdeps⟩ := mem_ready.1 hi
    have him : i ≠ m := by
      intro e
      rw [e] at hun
      simp [hbs] at hun
    have hih : i < h := hin.resolve_right him
    have hib : i ∈ Region.ready md ops b := mem_ready.2 ⟨by rwa [getD_set_ne true (Ne.symm him)] at hun, o', ho', fun e he hb => by
      have := hdeps e he hb
      rwa [getD_set_ne false (Ne.symm (hno i o' hih ho' e he hb))] at this⟩
    obtain ⟨o, v, ho, hy, hnext⟩ := hall i hib hih
    obtain ⟨h1, h2, h3⟩ := Oper.apart_spec (hap i o hih ho)
    have hy' := (hy D ⟨hD.1, hD.2, w, hw⟩).of_same (execOp_put o (fun cs d => nosel i o cs d ho) a om.dst p h1) (wanted_put o a om.dst p h1)
    have hq : qOp P ops (Cls D) i (fun a' => a' = (a.put om.dst p).put o.dst v) (a.put om.dst p) := hy'.qOp ho rfl
    refine wpOp_of_qOp ⟨⟨w, hw⟩, rfl⟩ (fun a' w' hw' e => ?_) hq
    obtain ⟨pp, rfl⟩ := hw'
    rw [e, Act.put_comm a p v h2, Array.setIfInBounds_comm _ _ (Ne.symm him)]
    refine ih (b.setIfInBounds i true) (a.put o.dst v) pp.w ?_ (by simpa using hbs) hnext pp.h
    rw [Array.setIfInBounds_comm _ _ him]
    exact inv.set hi

theorem phaseN2 {D : Nat → World → Prop} (hU : Stays U) (hD : ∀ g, Stays (D g) ∧ ∀ w, D g w → U w) {om : Oper} {g : Nat} {Q : Exit → Act → World → Prop} (hsel : Region.noSelect ops = true) (hhm : h ≤ m) (hom : ops[m]? = some om) (hafter : om.after = #[]) (hguard : om.guard = none)
    (hno : ∀ i o, i < h → ops[i]? = some o → ∀ e ∈ o.after, Region.binds md e = true → e.on ≠ m) (hap : ∀ i o, i < h → ops[i]? = some o → om.apart ops o = true)
    (h0 : 0 < h) (hh : h ≤ ops.size) (hs : Region.sinkB md ops (h - 1) = true) (ht : tailsB md ops h m = true)
    (hA : ∀ a w, U w → ∀ K : Act → World → Prop, (∀ b w', D b w' → K (a.put om.dst (.pointer (some ⟨b, 0, none⟩))) w') → om.wp P a w K Q)
    (hLN : ∀ b w, L b → U w → wpAny P md ops Q (1 + g) b F w)
    (hL : ∀ k b w, L b → D k w → wpAny P md ops Q g (b.setIfInBounds m true) (F.put om.dst (.pointer (some ⟨k, 0, none⟩))) w) (f : Nat) :
    ∀ (b : Array Bool) (a : Act) (w : World), Inv md ops b → b.getD m true = false → m < b.size → uniT P ops md U h L F f b a → U w → wpAny P md ops Q (f + 1 + g) b a w := by
  have nosel := Region.noSelect_spec hsel
  induction f with
  | zero =>
    intro b a w _ _ _ hu hw
    obtain ⟨hl, rfl, _⟩ := hu
    rw [Nat.zero_add]
    exact hLN b w hl hw
  | succ f ih =>
    intro b a w inv hbm hbs hu hw
    have rm : m ∈ Region.ready md ops b := mem_ready.2 ⟨hbm, om, hom, fun e he => by rw [hafter] at he; simp at he⟩
    rw [Nat.add_right_comm]
    refine ⟨fun e => absurd e (List.ne_nil_of_mem rm), fun i hi => ?_⟩
    obtain ⟨i0, hi0, hi0m⟩ := hu.1
    have hin := ready_head h0 hh inv hs ht hi0m (mem_ready.1 hi0).1 i hi
    by_cases e : i = m
    · subst e
      unfold wpOp
      simp only [hom]
      rw [if_pos (by simp [Region.wanted, hguard])]
      exact .inl (hA a w hw _ fun k w' hw' => phaseD2 (hD k) hsel hhm hno hap h0 hh hs ht (hL k) (f + 1) b a w' (inv.set rm) hbs hu hw')
    · obtain ⟨o, v, ho, hy, hnext⟩ := hu.2 i hi (hin.resolve_right e)
      have hq : qOp P ops (Cls U) i (fun a' => a' = a.put o.dst v) a := (hy U ⟨hU, fun _ k => k, w, hw⟩).qOp ho rfl
      refine wpOp_of_qOp ⟨⟨w, hw⟩, rfl⟩ (fun a' w' hw' e' => ?_) hq
      obtain ⟨pp, rfl⟩ := hw'
      rw [e', Nat.add_right_comm]
      have := ih (b.setIfInBounds i true) (a.put o.dst v) pp.w (inv.set hi) (by rw [getD_set_ne true e]; exact hbm) (by simpa using hbs) hnext pp.h
      rwa [Nat.add_right_comm] at this

def allocB2 (ops : Array Oper) (h m : Nat) (om : Oper) : Bool :=
  Region.noSelect ops && decide (0 < h ∧ h ≤ m ∧ m < ops.size) && Region.sinkB .any ops (h - 1) && tailsB .any ops h m && lexC .any ops h h 0 (Array.replicate ops.size false) &&
  (List.range h).all fun i => match ops[i]? with | some o => om.apart ops o && o.after.all (fun e => !(Region.binds .any e) || e.on != m) | none => false

theorem region_alloc2 {id : Nat} {Q : Exit → Act → World → Prop} {a : Act} {w : World} {l : List Oper} (U : World → Prop) (D : Nat → World → Prop) (h m : Nat) (om : Oper) (hm : P.follows .mixedOrders = true) (hom : l.toArray[m]? = some om) (hafter : om.after = #[]) (hguard : om.guard = none)
    (hB : allocB2 l.toArray h m om = true) (hd : dstB a.tmps.size (l.take h) = true) (hU : Stays U) (hD : ∀ g, Stays (D g) ∧ ∀ w, D g w → U w) (hw : U { w with drawn := w.drawn + 1 })
    (hA : ∀ a w, U w → ∀ K : Act → World → Prop, (∀ b w', D b w' → K (a.put om.dst (.pointer (some ⟨b, 0, none⟩))) w') → om.wp P a w K Q)
    (hE : ∃ F : Act, (∀ S, Fit U S → wpQuiet P l.toArray (Cls S) (fun a' => a' = F) (l.take h) a) ∧
      (∀ w', U w' → wpAny P .any l.toArray Q (1 + (l.length - (h + 1))) (endOf h 0 (Array.replicate l.length false)) F w') ∧
      ∀ k w', D k w' → wpAny P .any l.toArray Q (l.length - (h + 1)) ((endOf h 0 (Array.replicate l.length false)).setIfInBounds m true) (F.put om.dst (.pointer (some ⟨k, 0, none⟩))) w') : (Code.region id l.toArray true).wp P Q a w := by
  obtain ⟨F, hq, hQN, hQ⟩ := hE
  unfold allocB2 at hB
  simp only [Bool.and_eq_true, decide_eq_true_eq, List.all_eq_true, List.mem_range] at hB
  obtain ⟨⟨⟨⟨⟨hsel, h0, hhm, hms⟩, hs⟩, ht⟩, hlex⟩, hall⟩ := hB
  have hms' : m < l.length := by simpa using hms
  have htl : (l.take h).length = h := by simp; omega
  have inv : Inv .any l.toArray (Array.replicate l.toArray.size false) := ⟨by simp, fun j oj _ hl => by rw [getD_replicate_false] at hl; cases hl⟩
  have H := uniT_lexC (P := P) (U := U) (F := F) (h := h) (md := .any) (L := fun b => b = endOf h 0 (Array.replicate l.length false)) hsel (l.take h) 0 (Array.replicate l.toArray.size false) a
    (fun j hj => by rw [htl] at hj; simp [hj]) (by simpa using htl) (by rw [htl]; exact hlex) (by rw [htl]; simp) (chain_of ⟨hU, fun _ k => k, _, hw⟩ _ a hd hq)
  rw [htl] at H
  refine wp_region_any hm ?_
  have key := phaseN2 (md := .any) (Q := Q) (g := l.length - (h + 1)) hU hD hsel hhm hom hafter hguard
    (fun i o hi ho e he hb => by
      have := hall i hi
      simp only [ho, Bool.and_eq_true, Array.all_eq_true'] at this
      have h2 := this.2 e he
      simp only [Bool.or_eq_true, Bool.not_eq_true', bne_iff_ne, ne_eq] at h2
      rcases h2 with h2 | h2
      · rw [hb] at h2; cases h2
      · exact h2)
    (fun i o hi ho => by
      have := hall i hi
      simp only [ho, Bool.and_eq_true] at this
      exact this.1)
    h0 (by simp; omega) hs ht hA (fun b w' hb hw' => by rw [hb]; exact hQN w' hw') (fun k b w' hb hw' => by rw [hb]; exact hQ k w' hw') h _ a _ inv (getD_in (by simpa using hms') (getD_replicate_false _ _)) (by simpa using hms') H hw
  rw [show h + 1 + (l.length - (h + 1)) = l.toArray.size by simp; omega] at key
  exact key
end
end Go.Proofs.Ytehjfjdopeadfaa
