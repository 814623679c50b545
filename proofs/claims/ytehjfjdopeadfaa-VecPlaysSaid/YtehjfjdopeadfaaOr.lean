/- A region that draws its order: what reads the own boxes is taken first, what changes the world comes in the one order that is left. -/
import Derived.Test.YtehjfjdopeadfaaDq
import Derived.OrdersHeld
set_option linter.unusedVariables false
namespace Go.Proofs.Ytehjfjdopeadfaa
open Go.RowKit

section
variable {P : Program} {ops : Array Oper} {md : Region.Mode} {Q : Exit → Act → World → Prop} {S : World → Prop} {n : Nat} {L : Array Bool → Act → World → Prop}

/-- As anyHead, with the world. -/
def headW (P : Program) (md : Region.Mode) (ops : Array Oper) (Q : Exit → Act → World → Prop) (S : World → Prop) (n : Nat) (L : Array Bool → Act → World → Prop) : Nat → Array Bool → Act → World → Prop
  | 0, b, a, w => L b a w
  | f + 1, b, a, w => Region.ready md ops b ≠ [] ∧ ∀ i ∈ Region.ready md ops b, i < n ∧ wpOp P ops Q i (fun a' w' => S w' ∧ headW P md ops Q S n L f (b.setIfInBounds i true) a' w') a w

theorem headW_world {g : Nat} (hL : ∀ b a w, L b a w → wpAny P md ops Q g b a w) (f : Nat) : ∀ (b : Array Bool) (a : Act) (w : World), headW P md ops Q S n L f b a w → wpAny P md ops Q (f + g) b a w := by
  induction f with
  | zero => intro b a w h; rw [Nat.zero_add]; exact hL _ _ _ h
  | succ f ih =>
    intro b a w h
    rw [Nat.add_right_comm]
    exact ⟨fun e => absurd e h.1, fun i hi => wpOp_mono (fun a' w' h' => ih _ a' w' h'.2) (h.2 i hi).2⟩

theorem headW_first {i : Nat} {oi : Oper} {v : Value} (hi : ops[i]? = some oi) (hsel : Region.noSelect ops = true) (hQ : ∀ c a w, Q (.panic c) (a.put oi.dst v) w → Q (.panic c) a w)
    (hlow : ∀ b, HeadInv md ops n b → ∀ i ∈ Region.ready md ops b, i < n → ∀ j ∈ Region.ready md ops b, j < n) (hin : i < n) (hL : ∀ b a w, L b a w → ∀ j ∈ Region.ready md ops b, n ≤ j) (f : Nat) :
    ∀ (b : Array Bool) (a : Act) (w : World), HeadInv md ops n b →
      (∀ j oj, ops[j]? = some oj → j ≠ i → b.getD j true = false → (∀ e ∈ oj.after, Region.binds md e = true → e.on ≠ i) → oi.apart ops oj = true) →
      i ∈ Region.ready md ops b → YieldsIf P ops S oi v a → S w → headW P md ops Q S n L f (b.setIfInBounds i true) (a.put oi.dst v) w → headW P md ops Q S n L (f + 1) b a w := by
  have nosel := Region.noSelect_spec hsel
  induction f with
  | zero =>
    intro b a w inv _ hr hy hS H
    refine ⟨List.ne_nil_of_mem hr, fun j hj => ?_⟩
    have hjn := hlow b inv i hr hin j hj
    refine ⟨hjn, ?_⟩
    by_cases e : j = i
    · rw [e]; exact hy.wpOp hi hS ⟨hS, e ▸ H⟩
    · exact absurd (hL _ _ _ H j (ready_mono hj e)) (by omega)
  | succ f ih =>
    intro b a w inv hfree hr hy hS H
    refine ⟨List.ne_nil_of_mem hr, fun j hj => ?_⟩
    have hjn := hlow b inv i hr hin j hj
    refine ⟨hjn, ?_⟩
    by_cases e : j = i
    · rw [e]; exact hy.wpOp hi hS ⟨hS, e ▸ H⟩
    · obtain ⟨hjun, oj, hoj, hall⟩ := mem_ready.1 hj
      have hnot : ∀ x ∈ oj.after, Region.binds md x = true → x.on ≠ i := by
        intro x hx hb hxe
        have h1 := hall x hx hb
        rw [hxe, getD_both (mem_ready.1 hr).1] at h1
        cases h1
      have h2 := wpOp_putIf hoj (hfree j oj hoj e hjun hnot) (fun cs d => nosel i oi cs d hi) (fun cs d => nosel j oj cs d hoj) hQ hy (H.2 j (ready_mono hj e)).2
      refine wpOp_mono (fun a' w' h3 => ⟨h3.2.1, ih (b.setIfInBounds j true) a' w' (inv.set hj hjn) ?_ (ready_mono hr (Ne.symm e)) h3.1 h3.2.1 ?_⟩) h2
      · intro k ok hk hki hun hno
        refine hfree k ok hk hki ?_ hno
        by_cases hjk : j = k
        · rw [← hjk]; exact hjun
        · rwa [getD_set_ne true hjk] at hun
      · rw [Array.setIfInBounds_comm _ _ e]
        exact h3.2.2

def globB (md : Region.Mode) (ops : Array Oper) (n : Nat) : Bool := Region.noSelect ops && (decide (n = ops.size) || decide (n < ops.size) && Region.sinkB md ops n && Region.chainB md ops n)

/-- What is left of a region: f operations ahead of number n. -/
def Ord (P : Program) (md : Region.Mode) (ops : Array Oper) (Q : Exit → Act → World → Prop) (S : World → Prop) (n f : Nat) (b : Array Bool) (a : Act) (w : World) : Prop :=
  globB md ops n = true → HeadInv md ops n b → headW P md ops Q S n (fun b' a' w' => Region.seqB md ops (ops.size - n) n b' = true ∧ wpList P ops Q (ops.toList.drop n) a' w') f b a w

theorem glob_low (G : globB md ops n = true) : ∀ b, HeadInv md ops n b → ∀ i ∈ Region.ready md ops b, i < n → ∀ j ∈ Region.ready md ops b, j < n := by
  intro b inv i hi hin j hj
  simp only [globB, Bool.and_eq_true, Bool.or_eq_true, decide_eq_true_eq] at G
  rcases G.2 with e | ⟨⟨hn, hs⟩, hc⟩
  · obtain ⟨_, o, ho, _⟩ := mem_ready.1 hj
    have := (Array.getElem?_eq_some_iff.1 ho).1
    omega
  · exact ready_below hs hc hn hin inv hi j hj

theorem Ord.take {f : Nat} {b : Array Bool} {a : Act} {w : World} (i : Nat) {oi : Oper} {v : Value} (hi : ops[i]? = some oi) (hc : (decide (i < n) && Region.free md ops b i && (Region.ready md ops b).contains i) = true)
    (hQ : ∀ c a w, Q (.panic c) (a.put oi.dst v) w → Q (.panic c) a w) (hS : S w) (hw : Region.wanted oi (yielded ops a.tmps) = true) (hy : ∀ p : At S, (execOp a.eval oi).run P p.w = .ok (.value v) p.w)
    (h : Ord P md ops Q S n f (b.setIfInBounds i true) (a.put oi.dst v) w) : Ord P md ops Q S n (f + 1) b a w := by
  intro G inv
  simp only [Bool.and_eq_true, decide_eq_true_eq] at hc
  obtain ⟨⟨hin, hf⟩, hr⟩ := hc
  have hr' : i ∈ Region.ready md ops b := by simpa using hr
  refine headW_first hi (by simp only [globB, Bool.and_eq_true] at G; exact G.1) hQ (glob_low G) hin (fun b a w hL => seqB_ready hL.1) f b a w inv (Region.free_spec hi hf) hr' (.inl ⟨hw, fun w h => hy ⟨w, h⟩⟩) hS (h G (inv.set hr' hin))

theorem Ord.take' {f : Nat} {b : Array Bool} {a : Act} {w : World} (i : Nat) {oi : Oper} (hi : ops.toList[i]? = some oi) (hc : (decide (i < n) && Region.free md ops b i && (Region.ready md ops b).contains i) = true)
    (hQ : ∀ v c (a : Act) w, Q (.panic c) (a.put oi.dst v) w → Q (.panic c) a w) (hS : S w) (hw : Region.wanted oi (yielded ops a.tmps) = true)
    (h : ∃ v, (∀ p : At S, (execOp a.eval oi).run P p.w = .ok (.value v) p.w) ∧ Ord P md ops Q S n f (b.setIfInBounds i true) (a.put oi.dst v) w) : Ord P md ops Q S n (f + 1) b a w := by
  obtain ⟨v, h1, h2⟩ := h
  exact Ord.take i (by simpa using hi) hc (hQ v) hS hw h1 h2

/-- As take, of what is not wanted. -/
theorem Ord.skip {f : Nat} {b : Array Bool} {a : Act} {w : World} (i : Nat) {oi : Oper} (hi : ops.toList[i]? = some oi) (hc : (decide (i < n) && Region.free md ops b i && (Region.ready md ops b).contains i) = true)
    (hQ : ∀ c a w, Q (.panic c) (a.put oi.dst undef) w → Q (.panic c) a w) (hS : S w) (hw : Region.wanted oi (yielded ops a.tmps) = false)
    (h : Ord P md ops Q S n f (b.setIfInBounds i true) (a.put oi.dst undef) w) : Ord P md ops Q S n (f + 1) b a w := by
  intro G inv
  simp only [Bool.and_eq_true, decide_eq_true_eq] at hc
  obtain ⟨⟨hin, hf⟩, hr⟩ := hc
  have hr' : i ∈ Region.ready md ops b := by simpa using hr
  have hi : ops[i]? = some oi := by simpa using hi
  refine headW_first hi (by simp only [globB, Bool.and_eq_true] at G; exact G.1) hQ (glob_low G) hin (fun b a w hL => seqB_ready hL.1) f b a w inv (Region.free_spec hi hf) hr' (.inr ⟨hw, rfl⟩) hS (h G (inv.set hr' hin))

/-- The one that may come up. -/
theorem Ord.step {f : Nat} {b : Array Bool} {a : Act} {w : World} (i : Nat) {o : Oper} (hi : ops.toList[i]? = some o) (hc : (decide (i < n) && decide (Region.ready md ops b = [i])) = true)
    (hw : Region.wanted o (yielded ops a.tmps) = true) (h : o.wp P a w (fun a' w' => S w' ∧ Ord P md ops Q S n f (b.setIfInBounds i true) a' w') Q) : Ord P md ops Q S n (f + 1) b a w := by
  intro G inv
  have hi : ops[i]? = some o := by simpa using hi
  simp only [Bool.and_eq_true, decide_eq_true_eq] at hc
  obtain ⟨hin, hr⟩ := hc
  have hm : i ∈ Region.ready md ops b := by rw [hr]; exact List.mem_singleton_self _
  refine ⟨List.ne_nil_of_mem hm, fun j hj => ?_⟩
  obtain rfl : j = i := by rw [hr] at hj; exact List.mem_singleton.1 hj
  refine ⟨hin, ?_⟩
  unfold wpOp
  simp only [hi]
  rw [if_pos hw]
  exact .inl (Oper.wp_mono (fun a' w' h' => ⟨h'.1, h'.2 G (inv.set hm hin)⟩) h)

theorem Ord.call {f : Nat} {b : Array Bool} {a : Act} {w : World} (i : Nat) {o : Oper} {g : FuncId} {args : Array Value} (hi : ops.toList[i]? = some o) (hc : (decide (i < n) && decide (Region.ready md ops b = [i])) = true)
    (hw : Region.wanted o (yielded ops a.tmps) = true) (hrun : (execOp a.eval o).run P w = .ok (.enter g args) w)
    (h : Calls P g args w fun e w' => ∃ v, e = .returned v ∧ S w' ∧ Ord P md ops Q S n f (b.setIfInBounds i true) (a.put o.dst v) w') : Ord P md ops Q S n (f + 1) b a w := by
  refine Ord.step i hi hc hw ?_
  unfold Oper.wp
  rw [hrun]
  refine h.mono ?_
  rintro e w' ⟨v, rfl, h1, h2⟩
  exact ⟨h1, h2⟩

theorem Ord.done {b : Array Bool} {a : Act} {w : World} (hB : Region.seqB md ops (ops.size - n) n b = true) (h : wpList P ops Q (ops.toList.drop n) a w) : Ord P md ops Q S n 0 b a w := fun _ _ => ⟨hB, h⟩

theorem below_drew (w : World) : Below w.heap.size w { w with drawn := w.drawn + 1 } := ⟨rfl, rfl, rfl, Nat.le_refl _, fun _ _ => rfl⟩

/-- The beginning. -/
theorem region_ord {id : Nat} {a : Act} {w : World} {l : List Oper} (S : World → Prop) (n : Nat) (hm : P.follows .mixedOrders = true) (hB : globB .any l.toArray n = true) (hS : S { w with drawn := w.drawn + 1 })
    (h : ∀ W, S W → Below w.heap.size w W → Ord P .any l.toArray Q S n n (Array.replicate l.toArray.size false) a W) : (Code.region id l.toArray true).wp P Q a w := by
  refine wp_region_any hm ?_
  have inv : HeadInv .any l.toArray n (Array.replicate l.toArray.size false) := by
    refine ⟨by simp, fun j oj _ hl => ?_, fun t _ ht => ?_⟩
    · rw [getD_replicate_false] at hl; cases hl
    · exact getD_in (by simpa using ht) (getD_replicate_false _ _)
  have hn : n ≤ l.toArray.size := by
    simp only [globB, Bool.and_eq_true, Bool.or_eq_true, decide_eq_true_eq] at hB
    rcases hB.2 with e | e
    · exact Nat.le_of_eq e
    · exact Nat.le_of_lt e.1.1
  have hdl : (l.toArray.toList.drop n).length = l.toArray.size - n := by simp
  have key := headW_world (g := l.toArray.size - n) (fun b a' w' hL => by
    have := wpAny_of_seq (md := .any) (Q' := Q) (l.toArray.toList.drop n) n b a' w' (fun j => by simp [List.getElem?_drop]) (by rw [hdl]; exact hL.1) hL.2
    rwa [hdl] at this) n _ a _ (h _ hS (below_drew w) hB inv)
  rw [show n + (l.toArray.size - n) = l.toArray.size by omega] at key
  exact key
end
end Go.Proofs.Ytehjfjdopeadfaa
