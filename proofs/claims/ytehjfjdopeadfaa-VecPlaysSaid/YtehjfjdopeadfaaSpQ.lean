/- A region that draws its order, whose operations read or make calls that keep a fact on the world, and then store: walked once. -/
import Derived.Test.YtehjfjdopeadfaaProg
import Derived.Deep.QuietTactic
import Derived.BigQuiet
import Derived.StillTail
set_option linter.unusedVariables false
namespace Go.Proofs.Ytehjfjdopeadfaa

/-- A world that has a fact. -/
structure At (I : World → Prop) where
  w : World
  h : I w

/-- The worlds that have a fact, as a class. -/
abbrev Cls (I : World → Prop) : World → Prop := fun w' => ∃ p : At I, w' = p.w

section
variable {P : Program} {ops : Array Oper} {md : Region.Mode} {C : World → Prop}

/-- Before number n nothing but reads, whatever their order; then L. -/
def anyHead (P : Program) (md : Region.Mode) (ops : Array Oper) (C : World → Prop) (n : Nat) (L : Array Bool → Act → Prop) : Nat → Array Bool → Act → Prop
  | 0, b, a => L b a
  | f + 1, b, a => Region.ready md ops b ≠ [] ∧ ∀ i ∈ Region.ready md ops b, i < n ∧ qOp P ops C i (anyHead P md ops C n L f (b.setIfInBounds i true)) a

theorem anyHead_world {n g : Nat} {L : Array Bool → Act → Prop} {Q : Exit → Act → World → Prop} (hL : ∀ b a w, C w → L b a → wpAny P md ops Q g b a w) (f : Nat) :
    ∀ (b : Array Bool) (a : Act) (w : World), C w → anyHead P md ops C n L f b a → wpAny P md ops Q (f + g) b a w := by
  induction f with
  | zero => intro b a w hw h; rw [Nat.zero_add]; exact hL _ _ _ hw h
  | succ f ih =>
    intro b a w hw h
    rw [Nat.add_right_comm]
    exact ⟨fun e => absurd e h.1, fun i hi => wpOp_of_qOp hw (fun a' w' hw' h' => ih _ a' w' hw' h') (h.2 i hi).2⟩

theorem ready_below {n i : Nat} {b : Array Bool} (hs : Region.sinkB md ops n = true) (hc : Region.chainB md ops n = true) (hn : n < ops.size) (hin : i < n) (inv : HeadInv md ops n b)
    (hr : i ∈ Region.ready md ops b) : ∀ j ∈ Region.ready md ops b, j < n := by
  intro j hj
  apply Classical.byContradiction
  intro h
  exact tail_waits hs hc hn inv _ i rfl hin (mem_ready.1 hr).1 j (by omega) hj

theorem anyHead_first {n i : Nat} {oi : Oper} {v : Value} {L : Array Bool → Act → Prop} (hi : ops[i]? = some oi) (hsel : Region.noSelect ops = true)
    (hs : Region.sinkB md ops n = true) (hc : Region.chainB md ops n = true) (hn : n < ops.size) (hin : i < n) (hL : ∀ b a, L b a → ∀ j ∈ Region.ready md ops b, n ≤ j) (f : Nat) :
    ∀ (b : Array Bool) (a : Act), HeadInv md ops n b →
      (∀ j oj, ops[j]? = some oj → j ≠ i → b.getD j true = false → (∀ e ∈ oj.after, Region.binds md e = true → e.on ≠ i) → oi.apart ops oj = true) →
      i ∈ Region.ready md ops b → YieldsIn P ops C oi v a → anyHead P md ops C n L f (b.setIfInBounds i true) (a.put oi.dst v) → anyHead P md ops C n L (f + 1) b a := by
  have nosel := Region.noSelect_spec hsel
  induction f with
  | zero =>
    intro b a inv _ hr hy H
    refine ⟨List.ne_nil_of_mem hr, fun j hj => ?_⟩
    have hjn := ready_below hs hc hn hin inv hr j hj
    refine ⟨hjn, ?_⟩
    by_cases e : j = i
    · rw [e]; exact hy.qOp hi (e ▸ H)
    · exact absurd (hL _ _ H j (ready_mono hj e)) (by omega)
  | succ f ih =>
    intro b a inv hfree hr hy H
    refine ⟨List.ne_nil_of_mem hr, fun j hj => ?_⟩
    have hjn := ready_below hs hc hn hin inv hr j hj
    refine ⟨hjn, ?_⟩
    by_cases e : j = i
    · rw [e]; exact hy.qOp hi (e ▸ H)
    · obtain ⟨hjun, oj, hoj, hall⟩ := mem_ready.1 hj
      have hnot : ∀ x ∈ oj.after, Region.binds md x = true → x.on ≠ i := by
        intro x hx hb hxe
        have h1 := hall x hx hb
        rw [hxe, getD_both (mem_ready.1 hr).1] at h1
        cases h1
      have h2 := qOp_put hoj (hfree j oj hoj e hjun hnot) (fun cs d => nosel i oi cs d hi) (fun cs d => nosel j oj cs d hoj) hy (H.2 j (ready_mono hj e)).2
      refine qOp_mono (fun a' h3 => ih (b.setIfInBounds j true) a' (inv.set hj hjn) ?_ (ready_mono hr (Ne.symm e)) h3.1 ?_) h2
      · intro k ok hk hki hun hno
        refine hfree k ok hk hki ?_ hno
        by_cases hjk : j = k
        · rw [← hjk]; exact hjun
        · rwa [getD_set_ne true hjk] at hun
      · rw [Array.setIfInBounds_comm _ _ e]
        exact h3.2

theorem anyHead_lex {n g : Nat} {R : Act → Prop} (hsel : Region.noSelect ops = true) (hs : Region.sinkB md ops n = true) (hc : Region.chainB md ops n = true) (hn : n < ops.size) (l : List Oper) :
    ∀ (k : Nat) (b : Array Bool) (a : Act), (∀ j, j < l.length → l[j]? = ops[k + j]?) → k + l.length = n → HeadInv md ops n b → Region.lexHead md ops g l.length k b = true →
      wpQuiet P ops C R l a → anyHead P md ops C n (fun b' a' => Region.seqB md ops g n b' = true ∧ R a') l.length b a := by
  induction l with
  | nil =>
    intro k b a _ hk _ hB h
    have e : k = n := by simpa using hk
    rw [e] at hB
    exact ⟨hB, h⟩
  | cons o l ih =>
    intro k b a hl hk inv hB h
    have h0 : ops[k]? = some o := by have := hl 0 (by simp); simpa using this.symm
    rw [List.length_cons] at hB hk
    simp only [Region.lexHead, Bool.and_eq_true] at hB
    obtain ⟨⟨hr, hf⟩, hB'⟩ := hB
    have hr' : k ∈ Region.ready md ops b := by simpa using hr
    have hq : qOp P ops C k (wpQuiet P ops C R l) a := by unfold qOp; rw [h0]; exact h
    obtain ⟨v, hy, hK⟩ := yieldsIn_of_qOp h0 hq
    refine anyHead_first h0 hsel hs hc hn (by omega) (fun b' a' hL => seqB_ready hL.1) l.length b a inv (Region.free_spec h0 hf) hr' hy ?_
    refine ih (k + 1) _ _ (fun j hj => ?_) (by omega) (inv.set hr' (by omega)) hB' hK
    have := hl (j + 1) (by rw [List.length_cons]; omega)
    rw [List.getElem?_cons_succ] at this
    rw [this, Nat.add_assoc, Nat.add_comm 1 j]

/-- The first n operations read or call, in the order of the text; the others, each waiting for the one ahead, follow in any world that has the fact. -/
theorem region_tail {id : Nat} {Q : Exit → Act → World → Prop} {a : Act} {w : World} {l : List Oper} (I : World → Prop) (n : Nat) (hm : P.follows .mixedOrders = true) (hB : Region.lexTailB .any l.toArray n = true)
    (hI : I { w with drawn := w.drawn + 1 }) (h : wpQuiet P l.toArray (Cls I) (fun a' => ∀ w', I w' → wpList P l.toArray Q (l.drop n) a' w') (l.take n) a) : (Code.region id l.toArray true).wp P Q a w := by
  simp only [Region.lexTailB, Bool.and_eq_true, decide_eq_true_eq] at hB
  obtain ⟨⟨⟨⟨hsel, hn⟩, hs⟩, hc⟩, hlex⟩ := hB
  have hn' : n < l.length := by simpa using hn
  have htl : (l.take n).length = n := by simp; omega
  have hdl : (l.drop n).length = l.toArray.size - n := by simp
  have inv : HeadInv .any l.toArray n (Array.replicate l.toArray.size false) := by
    refine ⟨by simp, fun j oj _ hl => ?_, fun t _ ht => ?_⟩
    · rw [getD_replicate_false] at hl; cases hl
    · exact getD_in (by simpa using ht) (getD_replicate_false _ _)
  have H := anyHead_lex (P := P) (C := Cls I) (md := .any) (g := l.toArray.size - n) hsel hs hc hn (l.take n) 0 _ a
    (fun j hj => by rw [htl] at hj; simp [hj]) (by simpa using htl) inv (by rw [htl]; exact hlex) h
  refine wp_region_any hm ?_
  have key := anyHead_world (Q := Q) (g := l.toArray.size - n) (fun b a' w' hw' hL => by
    obtain ⟨p, rfl⟩ := hw'
    have := wpAny_of_seq (md := .any) (Q' := Q) (l.drop n) n b a' p.w (fun j => by simp [List.getElem?_drop]) (by rw [hdl]; exact hL.1) (hL.2 p.w p.h)
    rwa [hdl] at this) _ _ _ _ ⟨⟨_, hI⟩, rfl⟩ H
  rw [htl, show n + (l.toArray.size - n) = l.toArray.size by omega] at key
  exact key

/-- All operations read or call. -/
theorem region_quiet {id : Nat} {Q : Exit → Act → World → Prop} {a : Act} {w : World} {l : List Oper} (I : World → Prop) (hm : P.follows .mixedOrders = true) (hB : Region.lexB .any l.toArray = true)
    (hI : I { w with drawn := w.drawn + 1 }) (h : wpQuiet P l.toArray (Cls I) (fun a' => ∀ w', I w' → Q .normal a' w') l a) : (Code.region id l.toArray true).wp P Q a w :=
  wp_region_quiet (C := Cls I) hm hB ⟨⟨_, hI⟩, rfl⟩ (by
    have e : (fun a' => ∀ w', Cls I w' → Q .normal a' w') = (fun a' => ∀ w', I w' → Q .normal a' w') := by
      funext a'
      apply propext
      exact ⟨fun h w' hw' => h w' ⟨⟨w', hw'⟩, rfl⟩, fun h w' hw' => by obtain ⟨p, rfl⟩ := hw'; exact h p.w p.h⟩
    rw [e]
    simpa using h)

/-- A call in a world of the class. -/
theorem Cls.call {I : World → Prop} {f : FuncId} {args : Array Value} {w : World} {v : Value} {R : World → Prop} (h : Calls P f args w fun e w' => e = .returned v ∧ R w') (hI : ∀ w', R w' → I w') :
    Calls P f args w fun e w'' => e = .returned v ∧ Cls I w'' :=
  h.mono fun _ w'' ⟨he, hr⟩ => ⟨he, ⟨w'', hI _ hr⟩, rfl⟩
end
end Go.Proofs.Ytehjfjdopeadfaa
