/- A region that draws its order, in which a new block is laid at whatever time between reads and calls, and is stored to in the end. -/
import Derived.Test.YtehjfjdopeadfaaSpK
set_option linter.unusedVariables false
namespace Go.Proofs.Ytehjfjdopeadfaa
open Go.RowKit

/-- A kind of worlds within U that blocks that are laid do not leave. -/
def Fit (U S : World → Prop) : Prop := Stays S ∧ (∀ w, S w → U w) ∧ ∃ w, S w

section
variable {P : Program} {ops : Array Oper} {md : Region.Mode} {U : World → Prop} {F : Act} {m : Nat} {L : Array Bool → Prop}

/-- One value in all kinds of worlds within U. -/
def UY (P : Program) (ops : Array Oper) (U : World → Prop) (o : Oper) (v : Value) (a : Act) : Prop := ∀ S, Fit U S → YieldsIn P ops (Cls S) o v a

theorem UY.put {o oj : Oper} {v u : Value} {a : Act} (hy : UY P ops U o v a) (hs : ∀ cs b, o.op ≠ .select cs b) (h : ∀ d, oj.dst = some d → d ∉ o.looksAt ops) : UY P ops U o v (a.put oj.dst u) :=
  fun S hS => (hy S hS).of_same (execOp_put o hs a oj.dst u h) (wanted_put o a oj.dst u h)
theorem UY.unput {o oj : Oper} {v u : Value} {a : Act} (hy : UY P ops U o v (a.put oj.dst u)) (hs : ∀ cs b, o.op ≠ .select cs b) (h : ∀ d, oj.dst = some d → d ∉ o.looksAt ops) : UY P ops U o v a :=
  fun S hS => (hy S hS).of_same (execOp_put o hs a oj.dst u h).symm (wanted_put o a oj.dst u h).symm

/-- Whatever order the operations before number m are taken in, each has its one value, and the frame is F in the end. -/
def uniT (P : Program) (ops : Array Oper) (md : Region.Mode) (U : World → Prop) (m : Nat) (L : Array Bool → Prop) (F : Act) : Nat → Array Bool → Act → Prop
  | 0, b, a => L b ∧ a = F ∧ ∀ j ∈ Region.ready md ops b, m ≤ j
  | f + 1, b, a => (∃ i ∈ Region.ready md ops b, i < m) ∧ ∀ i ∈ Region.ready md ops b, i < m → ∃ o v, ops[i]? = some o ∧ UY P ops U o v a ∧ uniT P ops md U m L F f (b.setIfInBounds i true) (a.put o.dst v)

theorem uniT_first {i : Nat} {oi : Oper} {v : Value} (hi : ops[i]? = some oi) (hsel : Region.noSelect ops = true) (him : i < m) (f : Nat) : ∀ (b : Array Bool) (a : Act),
    (∀ j oj, ops[j]? = some oj → j ≠ i → b.getD j true = false → (∀ e ∈ oj.after, Region.binds md e = true → e.on ≠ i) → oi.apart ops oj = true) →
    i ∈ Region.ready md ops b → UY P ops U oi v a → uniT P ops md U m L F f (b.setIfInBounds i true) (a.put oi.dst v) → uniT P ops md U m L F (f + 1) b a := by
  have nosel := Region.noSelect_spec hsel
  induction f with
  | zero =>
    intro b a _ hr hy H
    refine ⟨⟨i, hr, him⟩, fun j hj hjm => ?_⟩
    by_cases e : j = i
    · rw [e]; exact ⟨oi, v, hi, hy, H⟩
    · exact absurd (H.2.2 j (ready_mono hj e)) (by omega)
  | succ f ih =>
    intro b a hfree hr hy H
    refine ⟨⟨i, hr, him⟩, fun j hj hjm => ?_⟩
    by_cases e : j = i
    · rw [e]; exact ⟨oi, v, hi, hy, H⟩
    · obtain ⟨hjun, oj', hoj', hall⟩ := mem_ready.1 hj
      obtain ⟨oj, u, hoj, hu, H'⟩ := H.2 j (ready_mono hj e) hjm
      obtain rfl : oj' = oj := Option.some.inj (hoj'.symm.trans hoj)
      have hnot : ∀ x ∈ oj'.after, Region.binds md x = true → x.on ≠ i := by
        intro x hx hb hxe
        have h1 := hall x hx hb
        rw [hxe, getD_both (mem_ready.1 hr).1] at h1
        cases h1
      obtain ⟨h1, h2, h3⟩ := Oper.apart_spec (hfree j oj' hoj e hjun hnot)
      refine ⟨oj', u, hoj, hu.unput (fun cs d => nosel j oj' cs d hoj) h1, ih (b.setIfInBounds j true) (a.put oj'.dst u) ?_ (ready_mono hr (Ne.symm e)) (hy.put (fun cs d => nosel i oi cs d hi) h3) ?_⟩
      · intro k ok hk hki hun hno
        refine hfree k ok hk hki ?_ hno
        by_cases hjk : j = k
        · rw [← hjk]; exact hjun
        · rwa [getD_set_ne true hjk] at hun
      · rw [Array.setIfInBounds_comm _ _ e, ← Act.put_comm a v u h2]
        exact H'

def lexA (md : Region.Mode) (ops : Array Oper) (m g : Nat) : Nat → Nat → Array Bool → Bool
  | 0, _, b => (Region.ready md ops b).all (fun j => decide (m ≤ j)) && Region.seqB md ops g (m + 1) (b.setIfInBounds m true)
  | f + 1, k, b => (Region.ready md ops b).contains k && Region.free md ops b k && lexA md ops m g f (k + 1) (b.setIfInBounds k true)

/-- One value each, in the order of the text, F in the end. -/
def Chain (P : Program) (ops : Array Oper) (U : World → Prop) (F : Act) : List Oper → Act → Prop
  | [], a => a = F
  | o :: l, a => ∃ v, UY P ops U o v a ∧ Chain P ops U F l (a.put o.dst v)

theorem uniT_lex {g : Nat} (hsel : Region.noSelect ops = true) (l : List Oper) : ∀ (k : Nat) (b : Array Bool) (a : Act), (∀ j, j < l.length → l[j]? = ops[k + j]?) → k + l.length = m → lexA md ops m g l.length k b = true →
    Chain P ops U F l a → uniT P ops md U m (fun b' => Region.seqB md ops g (m + 1) (b'.setIfInBounds m true) = true) F l.length b a := by
  induction l with
  | nil =>
    intro k b a _ _ hB h
    simp only [List.length_nil, lexA, Bool.and_eq_true, List.all_eq_true, decide_eq_true_eq] at hB
    exact ⟨hB.2, h, hB.1⟩
  | cons o l ih =>
    intro k b a hl hk hB h
    have h0 : ops[k]? = some o := by have := hl 0 (by simp); simpa using this.symm
    rw [List.length_cons] at hB hk
    simp only [lexA, Bool.and_eq_true] at hB
    obtain ⟨⟨hr, hf⟩, hB'⟩ := hB
    obtain ⟨v, hy, hn⟩ := h
    refine uniT_first h0 hsel (by omega) l.length b a (Region.free_spec h0 hf) (by simpa using hr) hy ?_
    refine ih (k + 1) _ _ (fun j hj => ?_) (by omega) hB' hn
    have := hl (j + 1) (by rw [List.length_cons]; omega)
    rw [List.getElem?_cons_succ] at this
    rw [this, Nat.add_assoc, Nat.add_comm 1 j]

theorem put_size (a : Act) (x : Option Tmp) (v : Value) : (a.put x v).tmps.size = a.tmps.size := by cases x <;> simp [Act.put]
theorem put_getD_ne (a : Act) (x : Option Tmp) (v : Value) (d : Tmp) (h : x ≠ some d) : (a.put x v).tmps.getD d undef = a.tmps.getD d undef := by
  cases x with
  | none => rfl
  | some y =>
    have : y ≠ d := fun e => h (by rw [e])
    simp [Act.put, Array.getElem?_setIfInBounds_ne this]
theorem put_getD_eq (a : Act) (d : Tmp) (v : Value) (h : d < a.tmps.size) : (a.put (some d) v).tmps.getD d undef = v := by
  simp [Act.put, h]

theorem quiet_val {C : World → Prop} (l : List Oper) (d : Tmp) : ∀ (a : Act), (∀ o ∈ l, o.dst ≠ some d) → wpQuiet P ops C (fun a' => a' = F) l a → a.tmps.getD d undef = F.tmps.getD d undef := by
  induction l with
  | nil => intro a _ h; rw [show a = F from h]
  | cons o l ih =>
    intro a hd h
    have ho := hd o (List.mem_cons_self)
    unfold wpQuiet at h
    split at h
    · obtain ⟨v, _, h⟩ := h
      have := ih _ (fun o' ho' => hd o' (List.mem_cons_of_mem _ ho')) h
      rwa [put_getD_ne _ _ _ _ ho] at this
    · have := ih _ (fun o' ho' => hd o' (List.mem_cons_of_mem _ ho')) h
      rwa [put_getD_ne _ _ _ _ ho] at this

def dstB (n : Nat) : List Oper → Bool
  | [] => true
  | o :: l => (match o.dst with | some d => decide (d < n) && l.all (fun p => p.dst != some d) | none => false) && dstB n l

theorem chain_of (hU : Fit U U) (l : List Oper) : ∀ (a : Act), dstB a.tmps.size l = true → (∀ S, Fit U S → wpQuiet P ops (Cls S) (fun a' => a' = F) l a) → Chain P ops U F l a := by
  induction l with
  | nil => intro a _ h; exact h U hU
  | cons o l ih =>
    intro a hB h
    unfold dstB at hB
    cases hd : o.dst with
    | none => rw [hd] at hB; simp at hB
    | some d =>
      rw [hd] at hB
      simp only [Bool.and_eq_true, decide_eq_true_eq, List.all_eq_true, bne_iff_ne, ne_eq] at hB
      obtain ⟨⟨hlt, hne⟩, hB'⟩ := hB
      have key : ∀ S, Fit U S → YieldsIn P ops (Cls S) o (F.tmps.getD d undef) a ∧ wpQuiet P ops (Cls S) (fun a' => a' = F) l (a.put o.dst (F.tmps.getD d undef)) := by
        intro S hS
        have h' := h S hS
        obtain ⟨v, hy, hn⟩ : ∃ v, YieldsIn P ops (Cls S) o v a ∧ wpQuiet P ops (Cls S) (fun a' => a' = F) l (a.put o.dst v) := by
          unfold wpQuiet at h'
          split at h'
          next hw => obtain ⟨v, h1, h2⟩ := h'; exact ⟨v, .inl ⟨hw, h1⟩, h2⟩
          next hw => exact ⟨undef, .inr ⟨by simpa using hw, rfl⟩, h'⟩
        have e := quiet_val l d _ hne hn
        rw [hd, put_getD_eq _ _ _ hlt] at e
        rw [← e]
        exact ⟨hy, hn⟩
      exact ⟨_, fun S hS => (key S hS).1, ih _ (by rw [put_size]; exact hB') fun S hS => (key S hS).2⟩

/-- Behind the new block. -/
theorem phaseD {D : World → Prop} (hD : Stays D ∧ ∀ w, D w → U w) {om : Oper} {p : Value} {g : Nat} {Q : Exit → Act → World → Prop} (hsel : Region.noSelect ops = true)
    (hno : ∀ i o, i < m → ops[i]? = some o → ∀ e ∈ o.after, Region.binds md e = true → e.on ≠ m) (hap : ∀ i o, i < m → ops[i]? = some o → om.apart ops o = true)
    (hs : Region.sinkB md ops (m + 1) = true) (hc : Region.chainB md ops (m + 1) = true) (hn : m + 1 < ops.size)
    (hL : ∀ b w, L b → D w → wpAny P md ops Q g (b.setIfInBounds m true) (F.put om.dst p) w) (f : Nat) :
    ∀ (b : Array Bool) (a : Act) (w : World), HeadInv md ops (m + 1) (b.setIfInBounds m true) → m < b.size → uniT P ops md U m L F f b a → D w → wpAny P md ops Q (f + g) (b.setIfInBounds m true) (a.put om.dst p) w := by
  have nosel := Region.noSelect_spec hsel
  induction f with
  | zero =>
    intro b a w _ _ h hw
    obtain ⟨hl, rfl, _⟩ := h
    rw [Nat.zero_add]
    exact hL b w hl hw
  | succ f ih =>
    intro b a w inv hbs h hw
    rw [Nat.add_right_comm]
    obtain ⟨⟨i0, hi0, hi0m⟩, hall⟩ := h
    have r0 : i0 ∈ Region.ready md ops (b.setIfInBounds m true) := ready_mono hi0 (by omega)
    refine ⟨fun e => absurd e (List.ne_nil_of_mem r0), fun i hi => ?_⟩
    have hin := ready_below hs hc hn (by omega) inv r0 i hi
    obtain ⟨hun, o', ho', hdeps⟩ := mem_ready.1 hi
    have him : i ≠ m := by
      intro e
      rw [e] at hun
      simp [hbs] at hun
    have hib : i ∈ Region.ready md ops b := mem_ready.2 ⟨by rwa [getD_set_ne true (Ne.symm him)] at hun, o', ho', fun e he hb => by
      have := hdeps e he hb
      rwa [getD_set_ne false (Ne.symm (hno i o' (by omega) ho' e he hb))] at this⟩
    obtain ⟨o, v, ho, hy, hnext⟩ := hall i hib (by omega)
    obtain ⟨h1, h2, h3⟩ := Oper.apart_spec (hap i o (by omega) ho)
    have hy' := (hy D ⟨hD.1, hD.2, w, hw⟩).of_same (execOp_put o (fun cs d => nosel i o cs d ho) a om.dst p h1) (wanted_put o a om.dst p h1)
    have hq : qOp P ops (Cls D) i (fun a' => a' = (a.put om.dst p).put o.dst v) (a.put om.dst p) := hy'.qOp ho rfl
    refine wpOp_of_qOp ⟨⟨w, hw⟩, rfl⟩ (fun a' w' hw' e => ?_) hq
    obtain ⟨pp, rfl⟩ := hw'
    rw [e, Act.put_comm a p v h2, Array.setIfInBounds_comm _ _ (Ne.symm him)]
    refine ih (b.setIfInBounds i true) (a.put o.dst v) pp.w ?_ (by simpa using hbs) hnext pp.h
    rw [Array.setIfInBounds_comm _ _ him]
    exact inv.set hi hin

/-- Ahead of the new block. -/
theorem phaseN {D : Nat → World → Prop} (hU : Stays U) (hD : ∀ g, Stays (D g) ∧ ∀ w, D g w → U w) {om : Oper} {g : Nat} {Q : Exit → Act → World → Prop} (hsel : Region.noSelect ops = true) (hom : ops[m]? = some om) (hafter : om.after = #[]) (hguard : om.guard = none)
    (hno : ∀ i o, i < m → ops[i]? = some o → ∀ e ∈ o.after, Region.binds md e = true → e.on ≠ m) (hap : ∀ i o, i < m → ops[i]? = some o → om.apart ops o = true)
    (hs : Region.sinkB md ops (m + 1) = true) (hc : Region.chainB md ops (m + 1) = true) (hn : m + 1 < ops.size)
    (hA : ∀ a w, U w → ∀ K : Act → World → Prop, (∀ b w', D b w' → K (a.put om.dst (.pointer (some ⟨b, 0, none⟩))) w') → om.wp P a w K Q)
    (hL : ∀ k b w, L b → D k w → wpAny P md ops Q g (b.setIfInBounds m true) (F.put om.dst (.pointer (some ⟨k, 0, none⟩))) w) (f : Nat) :
    ∀ (b : Array Bool) (a : Act) (w : World), HeadInv md ops (m + 1) b → b.getD m true = false → m < b.size → uniT P ops md U m L F f b a → U w → wpAny P md ops Q (f + 1 + g) b a w := by
  have nosel := Region.noSelect_spec hsel
  induction f with
  | zero =>
    intro b a w inv hbm hbs h hw
    have rm : m ∈ Region.ready md ops b := mem_ready.2 ⟨hbm, om, hom, fun e he => by rw [hafter] at he; simp at he⟩
    rw [Nat.add_right_comm]
    refine ⟨fun e => absurd e (List.ne_nil_of_mem rm), fun i hi => ?_⟩
    have hin := ready_below hs hc hn (Nat.lt_succ_self m) inv rm i hi
    have him := h.2.2 i hi
    obtain rfl : i = m := by omega
    unfold wpOp
    simp only [hom]
    rw [if_pos (by simp [Region.wanted, hguard])]
    exact .inl (hA a w hw _ fun k w' hw' => phaseD (hD k) hsel hno hap hs hc hn (hL k) 0 b a w' (inv.set rm (by omega)) hbs h hw')
  | succ f ih =>
    intro b a w inv hbm hbs h hw
    have rm : m ∈ Region.ready md ops b := mem_ready.2 ⟨hbm, om, hom, fun e he => by rw [hafter] at he; simp at he⟩
    rw [Nat.add_right_comm]
    refine ⟨fun e => absurd e (List.ne_nil_of_mem rm), fun i hi => ?_⟩
    have hin := ready_below hs hc hn (Nat.lt_succ_self m) inv rm i hi
    by_cases e : i = m
    · subst e
      unfold wpOp
      simp only [hom]
      rw [if_pos (by simp [Region.wanted, hguard])]
      exact .inl (hA a w hw _ fun k w' hw' => phaseD (hD k) hsel hno hap hs hc hn (hL k) (f + 1) b a w' (inv.set rm (by omega)) hbs h hw')
    · obtain ⟨o, v, ho, hy, hnext⟩ := h.2 i hi (by omega)
      have hq : qOp P ops (Cls U) i (fun a' => a' = a.put o.dst v) a := (hy U ⟨hU, fun _ k => k, w, hw⟩).qOp ho rfl
      refine wpOp_of_qOp ⟨⟨w, hw⟩, rfl⟩ (fun a' w' hw' e' => ?_) hq
      obtain ⟨pp, rfl⟩ := hw'
      rw [e', Nat.add_right_comm]
      have := ih (b.setIfInBounds i true) (a.put o.dst v) pp.w (inv.set hi hin) (by rw [getD_set_ne true e]; exact hbm) (by simpa using hbs) hnext pp.h
      rwa [Nat.add_right_comm] at this

def allocB (ops : Array Oper) (m : Nat) (om : Oper) : Bool :=
  Region.noSelect ops && decide (m + 1 < ops.size) && Region.sinkB .any ops (m + 1) && Region.chainB .any ops (m + 1) && lexA .any ops m (ops.size - (m + 1)) m 0 (Array.replicate ops.size false) &&
  (List.range m).all fun i => match ops[i]? with | some o => om.apart ops o && o.after.all (fun e => !(Region.binds .any e) || e.on != m) | none => false

theorem region_alloc {id : Nat} {Q : Exit → Act → World → Prop} {a : Act} {w : World} {l : List Oper} (U : World → Prop) (D : Nat → World → Prop) (m : Nat) (om : Oper) (hm : P.follows .mixedOrders = true) (hom : l.toArray[m]? = some om) (hafter : om.after = #[]) (hguard : om.guard = none)
    (hB : allocB l.toArray m om = true) (hd : dstB a.tmps.size (l.take m) = true) (hU : Stays U) (hD : ∀ g, Stays (D g) ∧ ∀ w, D g w → U w) (hw : U { w with drawn := w.drawn + 1 })
    (hA : ∀ a w, U w → ∀ K : Act → World → Prop, (∀ b w', D b w' → K (a.put om.dst (.pointer (some ⟨b, 0, none⟩))) w') → om.wp P a w K Q)
    (hE : ∃ F : Act, (∀ S, Fit U S → wpQuiet P l.toArray (Cls S) (fun a' => a' = F) (l.take m) a) ∧
      ∀ k w', D k w' → wpList P l.toArray Q (l.drop (m + 1)) (F.put om.dst (.pointer (some ⟨k, 0, none⟩))) w') : (Code.region id l.toArray true).wp P Q a w := by
  obtain ⟨F, hq, hQ⟩ := hE
  unfold allocB at hB
  simp only [Bool.and_eq_true, decide_eq_true_eq, List.all_eq_true, List.mem_range] at hB
  obtain ⟨⟨⟨⟨⟨hsel, hn⟩, hs⟩, hc⟩, hlex⟩, hall⟩ := hB
  have hn' : m + 1 < l.length := by simpa using hn
  have htl : (l.take m).length = m := by simp; omega
  have hdl : (l.drop (m + 1)).length = l.toArray.size - (m + 1) := by simp
  have inv : HeadInv .any l.toArray (m + 1) (Array.replicate l.toArray.size false) := by
    refine ⟨by simp, fun j oj _ hl => ?_, fun t _ ht => ?_⟩
    · rw [getD_replicate_false] at hl; cases hl
    · exact getD_in (by simpa using ht) (getD_replicate_false _ _)
  have H := uniT_lex (P := P) (U := U) (F := F) (m := m) (md := .any) (g := l.toArray.size - (m + 1)) hsel (l.take m) 0 (Array.replicate l.toArray.size false) a
    (fun j hj => by rw [htl] at hj; simp [hj]) (by simpa using htl) (by rw [htl]; exact hlex) (chain_of ⟨hU, fun _ k => k, _, hw⟩ _ a hd hq)
  rw [htl] at H
  refine wp_region_any hm ?_
  have key := phaseN (md := .any) (Q := Q) (g := l.toArray.size - (m + 1)) hU hD hsel hom hafter hguard
    (fun i o hi ho e he hb => by
      have := hall i hi
      simp only [ho, Bool.and_eq_true, Array.all_eq_true'] at this
      have h2 := this.2 e he
      simp only [Bool.or_eq_true, Bool.not_eq_true', bne_iff_ne, ne_eq] at h2
      rcases h2 with h2 | h2
      · rw [hb] at h2; cases h2
      · exact h2)
    (fun i o hi ho => by
      have := hall i hi
      simp only [ho, Bool.and_eq_true] at this
      exact this.1)
    hs hc hn hA (fun k b w' hb hw' => by
      have := wpAny_of_seq (md := .any) (Q' := Q) (l.drop (m + 1)) (m + 1) (b.setIfInBounds m true) (F.put om.dst (.pointer (some ⟨k, 0, none⟩))) w' (fun j => by simp [List.getElem?_drop]) (by rw [hdl]; exact hb) (hQ k w' hw')
      rwa [hdl] at this) m _ a _ inv (getD_in (by simpa using (by omega : m < l.length)) (getD_replicate_false _ _)) (by simpa using (by omega : m < l.length)) H hw
  rw [show m + 1 + (l.toArray.size - (m + 1)) = l.toArray.size by omega] at key
  exact key
end

theorem Keep.rest {w0 w : World} {p : Nat × Obj} {l : List (Nat × Obj)} (K : Keep w0 (p :: l) w) : Keep w0 l w :=
  ⟨fun q hq => K.box q (List.mem_cons_of_mem _ hq), fun q hq => K.own q (List.mem_cons_of_mem _ hq), (List.nodup_cons.1 (by have := K.one; rwa [List.map_cons] at this)).2, K.B⟩
theorem Keep.more (w0 : World) (p : Nat → Nat × Obj) (l : List (Nat × Obj)) (g : Nat) : Stays (Keep w0 (p g :: l)) ∧ ∀ w, Keep w0 (p g :: l) w → Keep w0 l w := ⟨Keep.stays, fun _ => Keep.rest⟩
theorem Fit.ne {U S : World → Prop} (h : Fit U S) : Nonempty (At S) := by obtain ⟨_, _, w, hw⟩ := h; exact ⟨⟨w, hw⟩⟩
end Go.Proofs.Ytehjfjdopeadfaa
