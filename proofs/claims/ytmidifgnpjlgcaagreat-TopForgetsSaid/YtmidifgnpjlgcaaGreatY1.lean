/- The texts Ba of the walk of the law and of all that it calls, in one file. No condition. -/
import Derived.Test.YtmidifgnpjlgcaaGreatProg
import Derived.WalkKit
import Derived.WalkSpells
import Derived.WalkLawsBesides
import Derived.Lib.Hide
import Derived.Below
import Derived.Deep.RegionWith
import Derived.Deep.QuietTactic
import Derived.Laws.Rows
import Derived.Laws.ResultCell
import Derived.Deep.Cut
import Derived.Deep.LoopGhost
import Derived.BigQuiet
import Derived.StillTail
import Derived.OrdersHeld
import Derived.Lib.SmallJoins
import Derived.Laws.AppendOwn
import Derived.Laws.AppendOwnNone
import Derived.Maps.AppendAt
import Derived.Laws.MakeOwn
/- The general theory: a call's own blocks; regions that draw their order, walked once. -/
set_option linter.unusedVariables false
set_option linter.unusedSimpArgs false
namespace Go.Proofs.YtmidifgnpjlgcaaGreat


/-- A world that has a fact. -/
structure At (I : World → Prop) where
  w : World
  h : I w

/-- The worlds that have a fact, as a class. -/
abbrev Cls (I : World → Prop) : World → Prop := fun w' => ∃ p : At I, w' = p.w

section
variable {P : Program} {ops : Array Oper} {md : Region.Mode} {C : World → Prop}

/-- Before number n nothing but reads, whatever their order; then L. -/
def anyHead (P : Program) (md : Region.Mode) (ops : Array Oper) (C : World → Prop) (n : Nat) (L : Array Bool → Act → Prop) : Nat → Array Bool → Act → Prop
  | 0, b, a => L b a
  | f + 1, b, a => Region.ready md ops b ≠ [] ∧ ∀ i ∈ Region.ready md ops b, i < n ∧ qOp P ops C i (anyHead P md ops C n L f (b.setIfInBounds i true)) a

theorem anyHead_world {n g : Nat} {L : Array Bool → Act → Prop} {Q : Exit → Act → World → Prop} (hL : ∀ b a w, C w → L b a → wpAny P md ops Q g b a w) (f : Nat) :
    ∀ (b : Array Bool) (a : Act) (w : World), C w → anyHead P md ops C n L f b a → wpAny P md ops Q (f + g) b a w := by
  induction f with
  | zero => intro b a w hw h; rw [Nat.zero_add]; exact hL _ _ _ hw h
  | succ f ih =>
    intro b a w hw h
    rw [Nat.add_right_comm]
    exact ⟨fun e => absurd e h.1, fun i hi => wpOp_of_qOp hw (fun a' w' hw' h' => ih _ a' w' hw' h') (h.2 i hi).2⟩

theorem ready_below {n i : Nat} {b : Array Bool} (hs : Region.sinkB md ops n = true) (hc : Region.chainB md ops n = true) (hn : n < ops.size) (hin : i < n) (inv : HeadInv md ops n b)
    (hr : i ∈ Region.ready md ops b) : ∀ j ∈ Region.ready md ops b, j < n := by
  intro j hj
  apply Classical.byContradiction
  intro h
  exact tail_waits hs hc hn inv _ i rfl hin (mem_ready.1 hr).1 j (by omega) hj

theorem anyHead_first {n i : Nat} {oi : Oper} {v : Value} {L : Array Bool → Act → Prop} (hi : ops[i]? = some oi) (hsel : Region.noSelect ops = true)
    (hs : Region.sinkB md ops n = true) (hc : Region.chainB md ops n = true) (hn : n < ops.size) (hin : i < n) (hL : ∀ b a, L b a → ∀ j ∈ Region.ready md ops b, n ≤ j) (f : Nat) :
    ∀ (b : Array Bool) (a : Act), HeadInv md ops n b →
      (∀ j oj, ops[j]? = some oj → j ≠ i → b.getD j true = false → (∀ e ∈ oj.after, Region.binds md e = true → e.on ≠ i) → oi.apart ops oj = true) →
      i ∈ Region.ready md ops b → YieldsIn P ops C oi v a → anyHead P md ops C n L f (b.setIfInBounds i true) (a.put oi.dst v) → anyHead P md ops C n L (f + 1) b a := by
  have nosel := Region.noSelect_spec hsel
  induction f with
  | zero =>
    intro b a inv _ hr hy H
    refine ⟨List.ne_nil_of_mem hr, fun j hj => ?_⟩
    have hjn := ready_below hs hc hn hin inv hr j hj
    refine ⟨hjn, ?_⟩
    by_cases e : j = i
    · rw [e]; exact hy.qOp hi (e ▸ H)
    · exact absurd (hL _ _ H j (ready_mono hj e)) (by omega)
  | succ f ih =>
    intro b a inv hfree hr hy H
    refine ⟨List.ne_nil_of_mem hr, fun j hj => ?_⟩
    have hjn := ready_below hs hc hn hin inv hr j hj
    refine ⟨hjn, ?_⟩
    by_cases e : j = i
    · rw [e]; exact hy.qOp hi (e ▸ H)
    · obtain ⟨hjun, oj, hoj, hall⟩ := mem_ready.1 hj
      have hnot : ∀ x ∈ oj.after, Region.binds md x = true → x.on ≠ i := by
        intro x hx hb hxe
        have h1 := hall x hx hb
        rw [hxe, getD_both (mem_ready.1 hr).1] at h1
        cases h1
      have h2 := qOp_put hoj (hfree j oj hoj e hjun hnot) (fun cs d => nosel i oi cs d hi) (fun cs d => nosel j oj cs d hoj) hy (H.2 j (ready_mono hj e)).2
      refine qOp_mono (fun a' h3 => ih (b.setIfInBounds j true) a' (inv.set hj hjn) ?_ (ready_mono hr (Ne.symm e)) h3.1 ?_) h2
      · intro k ok hk hki hun hno
        refine hfree k ok hk hki ?_ hno
        by_cases hjk : j = k
        · rw [← hjk]; exact hjun
        · rwa [getD_set_ne true hjk] at hun
      · rw [Array.setIfInBounds_comm _ _ e]
        exact h3.2

theorem anyHead_lex {n g : Nat} {R : Act → Prop} (hsel : Region.noSelect ops = true) (hs : Region.sinkB md ops n = true) (hc : Region.chainB md ops n = true) (hn : n < ops.size) (l : List Oper) :
    ∀ (k : Nat) (b : Array Bool) (a : Act), (∀ j, j < l.length → l[j]? = ops[k + j]?) → k + l.length = n → HeadInv md ops n b → Region.lexHead md ops g l.length k b = true →
      wpQuiet P ops C R l a → anyHead P md ops C n (fun b' a' => Region.seqB md ops g n b' = true ∧ R a') l.length b a := by
  induction l with
  | nil =>
    intro k b a _ hk _ hB h
    have e : k = n := by simpa using hk
    rw [e] at hB
    exact ⟨hB, h⟩
  | cons o l ih =>
    intro k b a hl hk inv hB h
    have h0 : ops[k]? = some o := by have := hl 0 (by simp); simpa using this.symm
    rw [List.length_cons] at hB hk
    simp only [Region.lexHead, Bool.and_eq_true] at hB
    obtain ⟨⟨hr, hf⟩, hB'⟩ := hB
    have hr' : k ∈ Region.ready md ops b := by simpa using hr
    have hq : qOp P ops C k (wpQuiet P ops C R l) a := by unfold qOp; rw [h0]; exact h
    obtain ⟨v, hy, hK⟩ := yieldsIn_of_qOp h0 hq
    refine anyHead_first h0 hsel hs hc hn (by omega) (fun b' a' hL => seqB_ready hL.1) l.length b a inv (Region.free_spec h0 hf) hr' hy ?_
    refine ih (k + 1) _ _ (fun j hj => ?_) (by omega) (inv.set hr' (by omega)) hB' hK
    have := hl (j + 1) (by rw [List.length_cons]; omega)
    rw [List.getElem?_cons_succ] at this
    rw [this, Nat.add_assoc, Nat.add_comm 1 j]

/-- The first n operations read or call, in the order of the text; the others, each waiting for the one ahead, follow in any world that has the fact. -/
theorem region_tail {id : Nat} {Q : Exit → Act → World → Prop} {a : Act} {w : World} {l : List Oper} (I : World → Prop) (n : Nat) (hm : P.follows .mixedOrders = true) (hB : Region.lexTailB .any l.toArray n = true)
    (hI : I { w with drawn := w.drawn + 1 }) (h : wpQuiet P l.toArray (Cls I) (fun a' => ∀ w', I w' → wpList P l.toArray Q (l.drop n) a' w') (l.take n) a) : (Code.region id l.toArray true).wp P Q a w := by
  simp only [Region.lexTailB, Bool.and_eq_true, decide_eq_true_eq] at hB
  obtain ⟨⟨⟨⟨hsel, hn⟩, hs⟩, hc⟩, hlex⟩ := hB
  have hn' : n < l.length := by simpa using hn
  have htl : (l.take n).length = n := by simp; omega
  have hdl : (l.drop n).length = l.toArray.size - n := by simp
  have inv : HeadInv .any l.toArray n (Array.replicate l.toArray.size false) := by
    refine ⟨by simp, fun j oj _ hl => ?_, fun t _ ht => ?_⟩
    · rw [getD_replicate_false] at hl; cases hl
    · exact getD_in (by simpa using ht) (getD_replicate_false _ _)
  have H := anyHead_lex (P := P) (C := Cls I) (md := .any) (g := l.toArray.size - n) hsel hs hc hn (l.take n) 0 _ a
    (fun j hj => by rw [htl] at hj; simp [hj]) (by simpa using htl) inv (by rw [htl]; exact hlex) h
  refine wp_region_any hm ?_
  have key := anyHead_world (Q := Q) (g := l.toArray.size - n) (fun b a' w' hw' hL => by
    obtain ⟨p, rfl⟩ := hw'
    have := wpAny_of_seq (md := .any) (Q' := Q) (l.drop n) n b a' p.w (fun j => by simp [List.getElem?_drop]) (by rw [hdl]; exact hL.1) (hL.2 p.w p.h)
    rwa [hdl] at this) _ _ _ _ ⟨⟨_, hI⟩, rfl⟩ H
  rw [htl, show n + (l.toArray.size - n) = l.toArray.size by omega] at key
  exact key

/-- All operations read or call. -/
theorem region_quiet {id : Nat} {Q : Exit → Act → World → Prop} {a : Act} {w : World} {l : List Oper} (I : World → Prop) (hm : P.follows .mixedOrders = true) (hB : Region.lexB .any l.toArray = true)
    (hI : I { w with drawn := w.drawn + 1 }) (h : wpQuiet P l.toArray (Cls I) (fun a' => ∀ w', I w' → Q .normal a' w') l a) : (Code.region id l.toArray true).wp P Q a w :=
  wp_region_quiet (C := Cls I) hm hB ⟨⟨_, hI⟩, rfl⟩ (by
    have e : (fun a' => ∀ w', Cls I w' → Q .normal a' w') = (fun a' => ∀ w', I w' → Q .normal a' w') := by
      funext a'
      apply propext
      exact ⟨fun h w' hw' => h w' ⟨⟨w', hw'⟩, rfl⟩, fun h w' hw' => by obtain ⟨p, rfl⟩ := hw'; exact h p.w p.h⟩
    rw [e]
    simpa using h)

/-- A call in a world of the class. -/
theorem Cls.call {I : World → Prop} {f : FuncId} {args : Array Value} {w : World} {v : Value} {R : World → Prop} (h : Calls P f args w fun e w' => e = .returned v ∧ R w') (hI : ∀ w', R w' → I w') :
    Calls P f args w fun e w'' => e = .returned v ∧ Cls I w'' :=
  h.mono fun _ w'' ⟨he, hr⟩ => ⟨he, ⟨w'', hI _ hr⟩, rfl⟩
end

open Go.RowKit
theorem below_then {B : Nat} {w w1 w2 : World} (h : Below B w w1) (hB : B ≤ w1.heap.size) (h2 : Below w1.heap.size w1 w2) : Below B w w2 := h.trans (h2.mono hB)

theorem below_go {B : Nat} {w w1 w1' w2 : World} (h : Below B w w1) (hB : B ≤ w1.heap.size) (hb : Below w1'.heap.size w1' w2) (e1 : w1'.os = w1.os) (e2 : w1'.tape = w1.tape) (e3 : w1'.output = w1.output) (e4 : w1'.heap = w1.heap) : Below B w w2 :=
  h.trans ⟨hb.os.trans e1, hb.tape.trans e2, hb.output.trans e3, by have := hb.size; rw [e4] at this; exact this, fun k hk => by rw [hb.block k (by rw [e4]; omega), e4]⟩

theorem min2_both (ats : Array TypeId) (ty : TypeId) (k : IntKind) (a b : Int) : Builtin.min_ ats ty #[.int k a, .int k b] = pure (.int k (min a b)) := by
  have h2 : ∀ x y : Int, Builtin.min2 (.int k x) (.int k y) = pure (.int k (min x y)) := by
    intro x y
    simp only [Builtin.min2]
    by_cases h : y < x
    · rw [if_pos h, show min x y = y by omega]
    · rw [if_neg h, show min x y = x by omega]
  simp only [Builtin.min_, List.foldlM_cons, List.foldlM_nil, h2, pure_bind]

theorem max2_both (ats : Array TypeId) (ty : TypeId) (k : IntKind) (a b : Int) : Builtin.max_ ats ty #[.int k a, .int k b] = pure (.int k (max a b)) := by
  have h2 : ∀ x y : Int, Builtin.max2 (.int k x) (.int k y) = pure (.int k (max x y)) := by
    intro x y
    simp only [Builtin.max2]
    by_cases h : x < y
    · rw [if_pos h, show max x y = y by omega]
    · rw [if_neg h, show max x y = x by omega]
  simp only [Builtin.max_, List.foldlM_cons, List.foldlM_nil, h2, pure_bind]

attribute [go_sem] min2_both max2_both
theorem ret_bool {a b : Bool} (h : a = b) : Ending.returned (.bool a) = .returned (.bool b) := by rw [h]

theorem ret_int {k : IntKind} {a b : Int} (h : a = b) : Ending.returned (.int k a) = .returned (.int k b) := by rw [h]

/-- What is true of a world stays so where blocks are laid. -/
def Stays (I : World → Prop) : Prop := ∀ w w', I w → Below w.heap.size w w' → I w'

theorem Below.onto {w0 w w' : World} (h : Below w0.heap.size w0 w) (k : Below w.heap.size w w') : Below w0.heap.size w0 w' := below_then h h.size k

/-- A world as it is but for how often the tape was asked, and the same heap. -/
theorem Stays.alike {I : World → Prop} (h : Stays I) {w w' : World} (hw : I w) (e1 : w'.os = w.os) (e2 : w'.tape = w.tape) (e3 : w'.output = w.output) (e4 : w'.heap = w.heap) : I w' :=
  h w w' hw ⟨e1, e2, e3, by rw [e4]; exact Nat.le_refl _, fun k _ => by rw [e4]⟩

theorem Stays.drew {I : World → Prop} (h : Stays I) {w : World} (hw : I w) : I { w with drawn := w.drawn + 1 } := h.alike hw rfl rfl rfl rfl

/-- A call that lays blocks, at a place that draws. -/
theorem At.call {P : Program} {I : World → Prop} (hS : Stays I) {f : FuncId} {args : Array Value} {v : Value} {p : At I} (h : Calls P f args p.w fun e w' => e = .returned v ∧ Below p.w.heap.size p.w w') :
    Calls P f args p.w fun e w'' => e = .returned v ∧ Cls I w'' :=
  h.mono fun _ w'' ⟨he, hb⟩ => ⟨he, ⟨w'', hS _ _ p.h hb⟩, rfl⟩

/-- A call that leaves the world. -/
theorem At.same {P : Program} {I : World → Prop} {f : FuncId} {args : Array Value} {v : Value} {p : At I} (h : Calls P f args p.w fun e w' => e = .returned v ∧ p.w = w') :
    Calls P f args p.w fun e w'' => e = .returned v ∧ Cls I w'' :=
  h.mono fun _ w'' ⟨he, hb⟩ => ⟨he, p, hb.symm⟩

structure Keep (w0 : World) (l : List (Nat × Obj)) (w : World) : Prop where
  box : ∀ p ∈ l, w.heap[p.1]? = some p.2
  own : ∀ p ∈ l, w0.heap.size ≤ p.1
  one : (l.map Prod.fst).Nodup
  B : Below w0.heap.size w0 w

variable {w0 w w' : World} {l l1 l2 : List (Nat × Obj)}

theorem Keep.lt (K : Keep w0 l w) {p : Nat × Obj} (h : p ∈ l) : p.1 < w.heap.size := (Array.getElem?_eq_some_iff.1 (K.box p h)).1

theorem Keep.start (w : World) : Keep w [] w := ⟨fun _ h => (by cases h), fun _ h => (by cases h), List.nodup_nil, Below.refl _ _⟩

theorem Keep.stays : Stays (Keep w0 l) := fun w w' K hb =>
  ⟨fun p h => by rw [hb.block p.1 (K.lt h)]; exact K.box p h, K.own, K.one, Below.onto K.B hb⟩

theorem Keep.drew (K : Keep w0 l w) : Keep w0 l { w with drawn := w.drawn + 1 } := Keep.stays.drew K

theorem Keep.alloc (K : Keep w0 l w) (o : Obj) : Keep w0 ((w.heap.size, o) :: l) (w.alloc o) := by
  refine ⟨fun p h => ?_, fun p h => ?_, ?_, K.B.alloc K.B.size _⟩
  · rcases List.mem_cons.1 h with rfl | h
    · show (w.heap.push o)[w.heap.size]? = some o; exact Array.getElem?_push_size
    · rw [Below.heap_alloc _ _ _ (K.lt h)]; exact K.box p h
  · rcases List.mem_cons.1 h with rfl | h
    · exact K.B.size
    · exact K.own p h
  · rw [List.map_cons, List.nodup_cons]
    refine ⟨fun h => ?_, K.one⟩
    obtain ⟨p, hp, e⟩ := List.mem_map.1 h
    have := K.lt hp
    omega

/-- One block turned. -/
theorem Keep.turn {b : Nat} {o o' : Obj} (K : Keep w0 (l1 ++ (b, o) :: l2) w) (hb : Below b w w') (hs : w'.heap[b]? = some o') (ho : ∀ k, k ≠ b → w'.heap[k]? = w.heap[k]?) : Keep w0 (l1 ++ (b, o') :: l2) w' := by
  have hn : ((l1.map Prod.fst) ++ b :: (l2.map Prod.fst)).Nodup := by have := K.one; simpa using this
  have hne : ∀ p, p ∈ l1 ∨ p ∈ l2 → p.1 ≠ b := by
    intro p hp e
    rw [List.nodup_append] at hn
    obtain ⟨_, h2, h3⟩ := hn
    rcases hp with hp | hp
    · exact h3 p.1 (List.mem_map_of_mem hp) b (List.mem_cons_self) e
    · exact (List.nodup_cons.1 h2).1 (e ▸ List.mem_map_of_mem hp)
  have hob : w0.heap.size ≤ b := K.own (b, o) (by simp)
  refine ⟨fun p h => ?_, fun p h => ?_, by simpa using hn, ⟨hb.os.trans K.B.os, hb.tape.trans K.B.tape, hb.output.trans K.B.output, Nat.le_trans K.B.size hb.size, fun k hk => (hb.block k (by omega)).trans (K.B.block k hk)⟩⟩
  · rcases List.mem_append.1 h with h | h
    · rw [ho _ (hne p (.inl h))]; exact K.box p (by simp [h])
    · rcases List.mem_cons.1 h with rfl | h
      · exact hs
      · rw [ho _ (hne p (.inr h))]; exact K.box p (by simp [h])
  · rcases List.mem_append.1 h with h | h
    · exact K.own p (by simp [h])
    · rcases List.mem_cons.1 h with rfl | h
      · exact hob
      · exact K.own p (by simp [h])

theorem setCell_block (w : World) (b k : Nat) (v : Value) (vs : Array Value) (t : TypeId) (h : w.heap[b]? = some (.cells vs t)) : (w.setCell ⟨b, k, none⟩ v).heap[b]? = some (.cells (vs.setIfInBounds k v) t) := by
  simp [World.setCell, Array.getElem?_modify, h]

/-- A cell of a block stored. -/
theorem Keep.set {b : Nat} {vs : Array Value} {t : TypeId} (l1 : List (Nat × Obj)) (K : Keep w0 (l1 ++ (b, .cells vs t) :: l2) w) (k : Nat) (v : Value) : Keep w0 (l1 ++ (b, .cells (vs.setIfInBounds k v) t) :: l2) (w.setCell ⟨b, k, none⟩ v) := by
  have hw := K.box (b, .cells vs t) (by simp)
  refine K.turn ?_ (setCell_block w b k v vs t hw) (fun j hj => Below.heap_setCell _ _ _ _ hj)
  exact (Below.refl b w).setCell (p := ⟨b, k, none⟩) (Nat.le_refl _) v

theorem Keep.put3 {b : Nat} {a0 a1 a2 : Value} {t : TypeId} (l1 : List (Nat × Obj)) (K : Keep w0 (l1 ++ (b, .cells #[a0, a1, a2] t) :: l2) w) (u0 u1 u2 : Value) :
    Keep w0 (l1 ++ (b, .cells #[u0, u1, u2] t) :: l2) (((w.setCell ⟨b, 0, none⟩ u0).setCell ⟨b, 1, none⟩ u1).setCell ⟨b, 2, none⟩ u2) := by
  have := ((K.set l1 0 u0).set l1 1 u1).set l1 2 u2
  simpa using this

theorem Keep.set_0 {b : Nat} {vs : Array Value} {t : TypeId} (K : Keep w0 ((b, .cells vs t) :: l2) w) (k : Nat) (v : Value) : Keep w0 ((b, .cells (vs.setIfInBounds k v) t) :: l2) (w.setCell ⟨b, k, none⟩ v) := K.set [] k v

theorem Keep.set_1 {b : Nat} {vs : Array Value} {t : TypeId} {p0 : Nat × Obj} (K : Keep w0 (p0 :: (b, .cells vs t) :: l2) w) (k : Nat) (v : Value) : Keep w0 (p0 :: (b, .cells (vs.setIfInBounds k v) t) :: l2) (w.setCell ⟨b, k, none⟩ v) := K.set [p0] k v

theorem Keep.set_2 {b : Nat} {vs : Array Value} {t : TypeId} {p0 p1 : Nat × Obj} (K : Keep w0 (p0 :: p1 :: (b, .cells vs t) :: l2) w) (k : Nat) (v : Value) : Keep w0 (p0 :: p1 :: (b, .cells (vs.setIfInBounds k v) t) :: l2) (w.setCell ⟨b, k, none⟩ v) := K.set [p0, p1] k v

theorem Keep.set_3 {b : Nat} {vs : Array Value} {t : TypeId} {p0 p1 p2 : Nat × Obj} (K : Keep w0 (p0 :: p1 :: p2 :: (b, .cells vs t) :: l2) w) (k : Nat) (v : Value) : Keep w0 (p0 :: p1 :: p2 :: (b, .cells (vs.setIfInBounds k v) t) :: l2) (w.setCell ⟨b, k, none⟩ v) := K.set [p0, p1, p2] k v

theorem Keep.set_4 {b : Nat} {vs : Array Value} {t : TypeId} {p0 p1 p2 p3 : Nat × Obj} (K : Keep w0 (p0 :: p1 :: p2 :: p3 :: (b, .cells vs t) :: l2) w) (k : Nat) (v : Value) : Keep w0 (p0 :: p1 :: p2 :: p3 :: (b, .cells (vs.setIfInBounds k v) t) :: l2) (w.setCell ⟨b, k, none⟩ v) := K.set [p0, p1, p2, p3] k v

theorem Keep.cell {b k : Nat} {vs : Array Value} {t : TypeId} {v : Value} (K : Keep w0 l w) (h : (b, Obj.cells vs t) ∈ l) (hk : vs[k]? = some v) : w.cell? ⟨b, k, none⟩ = some v := by
  have := K.box _ h
  simp only at this
  simp [World.cell?, this, hk]

theorem Keep.warm {b : Nat} {vs : Array Value} {t : TypeId} (K : Keep w0 l w) (h : (b, Obj.cells vs t) ∈ l) (o : Nat) : w.frozen? ⟨b, o, none⟩ = false := by
  have := K.box _ h
  simp only at this
  simp [World.frozen?, this]

theorem Keep.begin1 (w : World) (o : Obj) : Keep w [(w.heap.size, o)] (w.alloc o) := (Keep.start w).alloc o

theorem Keep.begin2 (w : World) (o p : Obj) : Keep w [(w.heap.size + 1, p), (w.heap.size, o)] ((w.alloc o).alloc p) := by
  have := (Keep.begin1 w o).alloc p
  rwa [World.size_alloc] at this

theorem Keep.begin3 (w : World) (o p q : Obj) : Keep w [(w.heap.size + 1 + 1, q), (w.heap.size + 1, p), (w.heap.size, o)] (((w.alloc o).alloc p).alloc q) := by
  have := (Keep.begin2 w o p).alloc q
  rwa [World.size_alloc, World.size_alloc] at this

theorem Keep.begin4 (w : World) (o p q r : Obj) : Keep w [(w.heap.size + 1 + 1 + 1, r), (w.heap.size + 1 + 1, q), (w.heap.size + 1, p), (w.heap.size, o)] ((((w.alloc o).alloc p).alloc q).alloc r) := by
  have := (Keep.begin3 w o p q).alloc r
  rwa [World.size_alloc, World.size_alloc, World.size_alloc] at this

/-- The world a variable, of which the fact is known. -/
theorem out_keep {I f : World → Prop} {w : World} (h : I w) (g : ∀ W, I W → f W) : f w := g w h

theorem Keep.ne (K : Hid (Keep w0 l w)) : Nonempty (At (Keep w0 l)) := ⟨⟨_, K.out⟩⟩

theorem Keep.rest {w0 w : World} {p : Nat × Obj} {l : List (Nat × Obj)} (K : Keep w0 (p :: l) w) : Keep w0 l w :=
  ⟨fun q hq => K.box q (List.mem_cons_of_mem _ hq), fun q hq => K.own q (List.mem_cons_of_mem _ hq), (List.nodup_cons.1 (by have := K.one; rwa [List.map_cons] at this)).2, K.B⟩

theorem out_with {E : World} {A B G : World → Prop} (h1 : A E) (h2 : B E) (g : ∀ W, A W → B W → G W) : G E := g E h1 h2

theorem below_one (w : World) (o : Obj) : Below w.heap.size w (w.alloc o) := (Below.refl _ _).alloc (Nat.le_refl _) o

theorem kept_cell {w0 w : World} {b j : Nat} {v : Value} {l : List (Nat × Obj)} (K : Keep w0 l w) (hlt : b < w0.heap.size) (h : w0.cell? ⟨b, j, none⟩ = some v) : w.cell? ⟨b, j, none⟩ = some v := by
  rw [K.B.cell (p := ⟨b, j, none⟩) hlt]; exact h

theorem cell_of_heap {w w' : World} {b j : Nat} (h : w'.heap[b]? = w.heap[b]?) : w'.cell? ⟨b, j, none⟩ = w.cell? ⟨b, j, none⟩ := by simp [World.cell?, h]

theorem Keep.acell {w0 w : World} {l : List (Nat × Obj)} {b k : Nat} {vs : Array Value} {t : TypeId} {v : Value} (K : Hid (Keep w0 l w)) (h : (b, Obj.cells vs t) ∈ l) (hk : vs[k]? = some v) (p : At (Keep w0 l)) : p.w.cell? ⟨b, k, none⟩ = some v := p.h.cell h hk

end Go.Proofs.YtmidifgnpjlgcaaGreat
namespace Go.Proofs.YtmidifgnpjlgcaaGreat

open Go.RowKit

section
variable {P : Program} {ops : Array Oper} {md : Region.Mode} {Q : Exit → Act → World → Prop} {S : World → Prop} {n : Nat} {L : Array Bool → Act → World → Prop}

/-- As anyHead, with the world. -/
def headW (P : Program) (md : Region.Mode) (ops : Array Oper) (Q : Exit → Act → World → Prop) (S : World → Prop) (n : Nat) (L : Array Bool → Act → World → Prop) : Nat → Array Bool → Act → World → Prop
  | 0, b, a, w => L b a w
  | f + 1, b, a, w => Region.ready md ops b ≠ [] ∧ ∀ i ∈ Region.ready md ops b, i < n ∧ wpOp P ops Q i (fun a' w' => S w' ∧ headW P md ops Q S n L f (b.setIfInBounds i true) a' w') a w

theorem headW_world {g : Nat} (hL : ∀ b a w, L b a w → wpAny P md ops Q g b a w) (f : Nat) : ∀ (b : Array Bool) (a : Act) (w : World), headW P md ops Q S n L f b a w → wpAny P md ops Q (f + g) b a w := by
  induction f with
  | zero => intro b a w h; rw [Nat.zero_add]; exact hL _ _ _ h
  | succ f ih =>
    intro b a w h
    rw [Nat.add_right_comm]
    exact ⟨fun e => absurd e h.1, fun i hi => wpOp_mono (fun a' w' h' => ih _ a' w' h'.2) (h.2 i hi).2⟩

theorem headW_first {i : Nat} {oi : Oper} {v : Value} (hi : ops[i]? = some oi) (hsel : Region.noSelect ops = true) (hQ : ∀ c a w, Q (.panic c) (a.put oi.dst v) w → Q (.panic c) a w)
    (hlow : ∀ b, HeadInv md ops n b → ∀ i ∈ Region.ready md ops b, i < n → ∀ j ∈ Region.ready md ops b, j < n) (hin : i < n) (hL : ∀ b a w, L b a w → ∀ j ∈ Region.ready md ops b, n ≤ j) (f : Nat) :
    ∀ (b : Array Bool) (a : Act) (w : World), HeadInv md ops n b →
      (∀ j oj, ops[j]? = some oj → j ≠ i → b.getD j true = false → (∀ e ∈ oj.after, Region.binds md e = true → e.on ≠ i) → oi.apart ops oj = true) →
      i ∈ Region.ready md ops b → YieldsIf P ops S oi v a → S w → headW P md ops Q S n L f (b.setIfInBounds i true) (a.put oi.dst v) w → headW P md ops Q S n L (f + 1) b a w := by
  have nosel := Region.noSelect_spec hsel
  induction f with
  | zero =>
    intro b a w inv _ hr hy hS H
    refine ⟨List.ne_nil_of_mem hr, fun j hj => ?_⟩
    have hjn := hlow b inv i hr hin j hj
    refine ⟨hjn, ?_⟩
    by_cases e : j = i
    · rw [e]; exact hy.wpOp hi hS ⟨hS, e ▸ H⟩
    · exact absurd (hL _ _ _ H j (ready_mono hj e)) (by omega)
  | succ f ih =>
    intro b a w inv hfree hr hy hS H
    refine ⟨List.ne_nil_of_mem hr, fun j hj => ?_⟩
    have hjn := hlow b inv i hr hin j hj
    refine ⟨hjn, ?_⟩
    by_cases e : j = i
    · rw [e]; exact hy.wpOp hi hS ⟨hS, e ▸ H⟩
    · obtain ⟨hjun, oj, hoj, hall⟩ := mem_ready.1 hj
      have hnot : ∀ x ∈ oj.after, Region.binds md x = true → x.on ≠ i := by
        intro x hx hb hxe
        have h1 := hall x hx hb
        rw [hxe, getD_both (mem_ready.1 hr).1] at h1
        cases h1
      have h2 := wpOp_putIf hoj (hfree j oj hoj e hjun hnot) (fun cs d => nosel i oi cs d hi) (fun cs d => nosel j oj cs d hoj) hQ hy (H.2 j (ready_mono hj e)).2
      refine wpOp_mono (fun a' w' h3 => ⟨h3.2.1, ih (b.setIfInBounds j true) a' w' (inv.set hj hjn) ?_ (ready_mono hr (Ne.symm e)) h3.1 h3.2.1 ?_⟩) h2
      · intro k ok hk hki hun hno
        refine hfree k ok hk hki ?_ hno
        by_cases hjk : j = k
        · rw [← hjk]; exact hjun
        · rwa [getD_set_ne true hjk] at hun
      · rw [Array.setIfInBounds_comm _ _ e]
        exact h3.2.2

def globB (md : Region.Mode) (ops : Array Oper) (n : Nat) : Bool := Region.noSelect ops && (decide (n = ops.size) || decide (n < ops.size) && Region.sinkB md ops n && Region.chainB md ops n)

/-- What is left of a region: f operations ahead of number n. -/
def Ord (P : Program) (md : Region.Mode) (ops : Array Oper) (Q : Exit → Act → World → Prop) (S : World → Prop) (n f : Nat) (b : Array Bool) (a : Act) (w : World) : Prop :=
  globB md ops n = true → HeadInv md ops n b → headW P md ops Q S n (fun b' a' w' => Region.seqB md ops (ops.size - n) n b' = true ∧ wpList P ops Q (ops.toList.drop n) a' w') f b a w

theorem glob_low (G : globB md ops n = true) : ∀ b, HeadInv md ops n b → ∀ i ∈ Region.ready md ops b, i < n → ∀ j ∈ Region.ready md ops b, j < n := by
  intro b inv i hi hin j hj
  simp only [globB, Bool.and_eq_true, Bool.or_eq_true, decide_eq_true_eq] at G
  rcases G.2 with e | ⟨⟨hn, hs⟩, hc⟩
  · obtain ⟨_, o, ho, _⟩ := mem_ready.1 hj
    have := (Array.getElem?_eq_some_iff.1 ho).1
    omega
  · exact ready_below hs hc hn hin inv hi j hj

theorem Ord.take {f : Nat} {b : Array Bool} {a : Act} {w : World} (i : Nat) {oi : Oper} {v : Value} (hi : ops[i]? = some oi) (hc : (decide (i < n) && Region.free md ops b i && (Region.ready md ops b).contains i) = true)
    (hQ : ∀ c a w, Q (.panic c) (a.put oi.dst v) w → Q (.panic c) a w) (hS : S w) (hw : Region.wanted oi (yielded ops a.tmps) = true) (hy : ∀ p : At S, (execOp a.eval oi).run P p.w = .ok (.value v) p.w)
    (h : Ord P md ops Q S n f (b.setIfInBounds i true) (a.put oi.dst v) w) : Ord P md ops Q S n (f + 1) b a w := by
  intro G inv
  simp only [Bool.and_eq_true, decide_eq_true_eq] at hc
  obtain ⟨⟨hin, hf⟩, hr⟩ := hc
  have hr' : i ∈ Region.ready md ops b := by simpa using hr
  refine headW_first hi (by simp only [globB, Bool.and_eq_true] at G; exact G.1) hQ (glob_low G) hin (fun b a w hL => seqB_ready hL.1) f b a w inv (Region.free_spec hi hf) hr' (.inl ⟨hw, fun w h => hy ⟨w, h⟩⟩) hS (h G (inv.set hr' hin))

theorem Ord.take' {f : Nat} {b : Array Bool} {a : Act} {w : World} (i : Nat) {oi : Oper} (hi : ops.toList[i]? = some oi) (hc : (decide (i < n) && Region.free md ops b i && (Region.ready md ops b).contains i) = true)
    (hQ : ∀ v c (a : Act) w, Q (.panic c) (a.put oi.dst v) w → Q (.panic c) a w) (hS : S w) (hw : Region.wanted oi (yielded ops a.tmps) = true)
    (h : ∃ v, (∀ p : At S, (execOp a.eval oi).run P p.w = .ok (.value v) p.w) ∧ Ord P md ops Q S n f (b.setIfInBounds i true) (a.put oi.dst v) w) : Ord P md ops Q S n (f + 1) b a w := by
  obtain ⟨v, h1, h2⟩ := h
  exact Ord.take i (by simpa using hi) hc (hQ v) hS hw h1 h2

/-- As take, of what is not wanted. -/
theorem Ord.skip {f : Nat} {b : Array Bool} {a : Act} {w : World} (i : Nat) {oi : Oper} (hi : ops.toList[i]? = some oi) (hc : (decide (i < n) && Region.free md ops b i && (Region.ready md ops b).contains i) = true)
    (hQ : ∀ c a w, Q (.panic c) (a.put oi.dst undef) w → Q (.panic c) a w) (hS : S w) (hw : Region.wanted oi (yielded ops a.tmps) = false)
    (h : Ord P md ops Q S n f (b.setIfInBounds i true) (a.put oi.dst undef) w) : Ord P md ops Q S n (f + 1) b a w := by
  intro G inv
  simp only [Bool.and_eq_true, decide_eq_true_eq] at hc
  obtain ⟨⟨hin, hf⟩, hr⟩ := hc
  have hr' : i ∈ Region.ready md ops b := by simpa using hr
  have hi : ops[i]? = some oi := by simpa using hi
  refine headW_first hi (by simp only [globB, Bool.and_eq_true] at G; exact G.1) hQ (glob_low G) hin (fun b a w hL => seqB_ready hL.1) f b a w inv (Region.free_spec hi hf) hr' (.inr ⟨hw, rfl⟩) hS (h G (inv.set hr' hin))

/-- The one that may come up. -/
theorem Ord.step {f : Nat} {b : Array Bool} {a : Act} {w : World} (i : Nat) {o : Oper} (hi : ops.toList[i]? = some o) (hc : (decide (i < n) && decide (Region.ready md ops b = [i])) = true)
    (hw : Region.wanted o (yielded ops a.tmps) = true) (h : o.wp P a w (fun a' w' => S w' ∧ Ord P md ops Q S n f (b.setIfInBounds i true) a' w') Q) : Ord P md ops Q S n (f + 1) b a w := by
  intro G inv
  have hi : ops[i]? = some o := by simpa using hi
  simp only [Bool.and_eq_true, decide_eq_true_eq] at hc
  obtain ⟨hin, hr⟩ := hc
  have hm : i ∈ Region.ready md ops b := by rw [hr]; exact List.mem_singleton_self _
  refine ⟨List.ne_nil_of_mem hm, fun j hj => ?_⟩
  obtain rfl : j = i := by rw [hr] at hj; exact List.mem_singleton.1 hj
  refine ⟨hin, ?_⟩
  unfold wpOp
  simp only [hi]
  rw [if_pos hw]
  exact .inl (Oper.wp_mono (fun a' w' h' => ⟨h'.1, h'.2 G (inv.set hm hin)⟩) h)

theorem Ord.call {f : Nat} {b : Array Bool} {a : Act} {w : World} (i : Nat) {o : Oper} {g : FuncId} {args : Array Value} (hi : ops.toList[i]? = some o) (hc : (decide (i < n) && decide (Region.ready md ops b = [i])) = true)
    (hw : Region.wanted o (yielded ops a.tmps) = true) (hrun : (execOp a.eval o).run P w = .ok (.enter g args) w)
    (h : Calls P g args w fun e w' => ∃ v, e = .returned v ∧ S w' ∧ Ord P md ops Q S n f (b.setIfInBounds i true) (a.put o.dst v) w') : Ord P md ops Q S n (f + 1) b a w := by
  refine Ord.step i hi hc hw ?_
  unfold Oper.wp
  rw [hrun]
  refine h.mono ?_
  rintro e w' ⟨v, rfl, h1, h2⟩
  exact ⟨h1, h2⟩

theorem Ord.done {b : Array Bool} {a : Act} {w : World} (hB : Region.seqB md ops (ops.size - n) n b = true) (h : wpList P ops Q (ops.toList.drop n) a w) : Ord P md ops Q S n 0 b a w := fun _ _ => ⟨hB, h⟩

theorem below_drew (w : World) : Below w.heap.size w { w with drawn := w.drawn + 1 } := ⟨rfl, rfl, rfl, Nat.le_refl _, fun _ _ => rfl⟩

/-- The beginning. -/
theorem region_ord {id : Nat} {a : Act} {w : World} {l : List Oper} (S : World → Prop) (n : Nat) (hm : P.follows .mixedOrders = true) (hB : globB .any l.toArray n = true) (hS : S { w with drawn := w.drawn + 1 })
    (h : ∀ W, S W → Below w.heap.size w W → Ord P .any l.toArray Q S n n (Array.replicate l.toArray.size false) a W) : (Code.region id l.toArray true).wp P Q a w := by
  refine wp_region_any hm ?_
  have inv : HeadInv .any l.toArray n (Array.replicate l.toArray.size false) := by
    refine ⟨by simp, fun j oj _ hl => ?_, fun t _ ht => ?_⟩
    · rw [getD_replicate_false] at hl; cases hl
    · exact getD_in (by simpa using ht) (getD_replicate_false _ _)
  have hn : n ≤ l.toArray.size := by
    simp only [globB, Bool.and_eq_true, Bool.or_eq_true, decide_eq_true_eq] at hB
    rcases hB.2 with e | e
    · exact Nat.le_of_eq e
    · exact Nat.le_of_lt e.1.1
  have hdl : (l.toArray.toList.drop n).length = l.toArray.size - n := by simp
  have key := headW_world (g := l.toArray.size - n) (fun b a' w' hL => by
    have := wpAny_of_seq (md := .any) (Q' := Q) (l.toArray.toList.drop n) n b a' w' (fun j => by simp [List.getElem?_drop]) (by rw [hdl]; exact hL.1) hL.2
    rwa [hdl] at this) n _ a _ (h _ hS (below_drew w) hB inv)
  rw [show n + (l.toArray.size - n) = l.toArray.size by omega] at key
  exact key
end



/-- An operation that lays a block: its number, its slot, what is laid. -/
structure Flt where
  m : Nat
  d : Tmp
  o : Obj

abbrev Ext (w w' : World) : Prop := Below w.heap.size w w'
theorem Ext.rfl {w : World} : Ext w w := ⟨Eq.refl _, Eq.refl _, Eq.refl _, Nat.le_refl _, fun _ _ => Eq.refl _⟩
theorem Ext.trans {a b c : World} (h : Ext a b) (k : Ext b c) : Ext a c := Below.onto h k

section
variable {P : Program} {ops : Array Oper} {md : Region.Mode} {Q : Exit → Act → World → Prop} {S : World → Prop} {n : Nat}

/-- Whatever order is picked; ahead of number n S stays. -/
def hW (P : Program) (md : Region.Mode) (ops : Array Oper) (Q : Exit → Act → World → Prop) (S : World → Prop) (n : Nat) : Nat → Array Bool → Act → World → Prop
  | 0, b, a, w => Region.ready md ops b = [] ∧ Q .normal a w
  | f + 1, b, a, w => (Region.ready md ops b = [] → Q .normal a w) ∧ ∀ i ∈ Region.ready md ops b, wpOp P ops Q i (fun a' w' => (i < n → S w → S w') ∧ hW P md ops Q S n f (b.setIfInBounds i true) a' w') a w

theorem hW_any : ∀ (f : Nat) (b : Array Bool) (a : Act) (w : World), hW P md ops Q S n f b a w → wpAny P md ops Q f b a w
  | 0, _, _, _, h => h
  | f + 1, _, _, _, h => ⟨h.1, fun i hi => wpOp_mono (fun a' w' h' => hW_any f _ a' w' h'.2) (h.2 i hi)⟩

theorem hW_first {i : Nat} {oi : Oper} {v : Value} {T : World → Prop} (hi : ops[i]? = some oi) (hsel : Region.noSelect ops = true) (hQ : ∀ c a w, Q (.panic c) (a.put oi.dst v) w → Q (.panic c) a w)
    (hT : ∀ b j w w', i ∈ Region.ready md ops b → j ∈ Region.ready md ops b → T w → (j < n → S w → S w') → T w') (f : Nat) :
    ∀ (b : Array Bool) (a : Act) (w : World),
      (∀ j oj, ops[j]? = some oj → j ≠ i → b.getD j true = false → (∀ e ∈ oj.after, Region.binds md e = true → e.on ≠ i) → oi.apart ops oj = true) →
      i ∈ Region.ready md ops b → YieldsIf P ops T oi v a → T w → hW P md ops Q S n f (b.setIfInBounds i true) (a.put oi.dst v) w → hW P md ops Q S n (f + 1) b a w := by
  have nosel := Region.noSelect_spec hsel
  induction f with
  | zero =>
    intro b a w _ hr hy hw H
    refine ⟨fun h => (by rw [h] at hr; cases hr), fun j hj => ?_⟩
    by_cases e : j = i
    · subst e; exact hy.wpOp hi hw ⟨fun _ h => h, H⟩
    · have := ready_mono hj e
      rw [H.1] at this
      cases this
  | succ f ih =>
    intro b a w hfree hr hy hw H
    refine ⟨fun h => (by rw [h] at hr; cases hr), fun j hj => ?_⟩
    by_cases e : j = i
    · subst e; exact hy.wpOp hi hw ⟨fun _ h => h, H⟩
    · obtain ⟨hjun, oj, hoj, hall⟩ := mem_ready.1 hj
      have hnot : ∀ x ∈ oj.after, Region.binds md x = true → x.on ≠ i := by
        intro x hx hb hxe
        have h1 := hall x hx hb
        rw [hxe, getD_both (mem_ready.1 hr).1] at h1
        cases h1
      have h2 := wpOp_putIf hoj (hfree j oj hoj e hjun hnot) (fun cs d => nosel i oi cs d hi) (fun cs d => nosel j oj cs d hoj) hQ hy (H.2 j (ready_mono hj e))
      refine wpOp_mono (fun a' w' h3 => ⟨h3.2.1, ih (b.setIfInBounds j true) a' w' ?_ (ready_mono hr (Ne.symm e)) h3.1 (hT b j w w' hr hj hw h3.2.1) ?_⟩) h2
      · intro k ok hk hki hun hno
        refine hfree k ok hk hki ?_ hno
        by_cases hjk : j = k
        · rw [← hjk]; exact hjun
        · rwa [getD_set_ne true hjk] at hun
      · rw [Array.setIfInBounds_comm _ _ e]
        exact h3.2.2

/-- The operations that are scheduled, of three kinds: 0 reads what S tells, 1 reads nothing, else it may change the world. L at the end. -/
def Ph (P : Program) (ops : Array Oper) (Q : Exit → Act → World → Prop) (S : World → Prop) (L : Act → World → Prop) : List (Nat × Nat) → Act → World → Prop
  | [], a, w => ∀ w', Ext w w' → L a w'
  | (0, i) :: s, a, w => ∃ o v, ops[i]? = some o ∧ Region.wanted o (yielded ops a.tmps) = true ∧ (∀ p : At S, (execOp a.eval o).run P p.w = .ok (.value v) p.w) ∧ Ph P ops Q S L s (a.put o.dst v) w
  | (1, i) :: s, a, w => ∃ o v, ops[i]? = some o ∧ Region.wanted o (yielded ops a.tmps) = true ∧ (∀ w, (execOp a.eval o).run P w = .ok (.value v) w) ∧ Ph P ops Q S L s (a.put o.dst v) w
  | (_ + 2, i) :: s, a, w => ∀ w', Ext w w' → ∃ o, ops[i]? = some o ∧ Region.wanted o (yielded ops a.tmps) = true ∧ o.wp P a w' (fun a' w'' => Ext w' w'' ∧ Ph P ops Q S L s a' w'') Q

theorem Ph.ext {L : Act → World → Prop} : ∀ (s : List (Nat × Nat)) (a : Act) (w w' : World), Ph P ops Q S L s a w → Ext w w' → Ph P ops Q S L s a w'
  | [], _, _, _, h, e => fun w2 k => h w2 (e.trans k)
  | (0, _) :: s, _, _, _, ⟨o, v, h1, h2, h3, h4⟩, e => ⟨o, v, h1, h2, h3, Ph.ext s _ _ _ h4 e⟩
  | (1, _) :: s, _, _, _, ⟨o, v, h1, h2, h3, h4⟩, e => ⟨o, v, h1, h2, h3, Ph.ext s _ _ _ h4 e⟩
  | (_ + 2, _) :: _, _, _, _, h, e => fun w2 k => h w2 (e.trans k)

theorem Ph.mono {L L' : Act → World → Prop} (hl : ∀ a w, L a w → L' a w) : ∀ (s : List (Nat × Nat)) (a : Act) (w : World), Ph P ops Q S L s a w → Ph P ops Q S L' s a w
  | [], _, _, h => fun w2 k => hl _ _ (h w2 k)
  | (0, _) :: s, _, _, ⟨o, v, h1, h2, h3, h4⟩ => ⟨o, v, h1, h2, h3, Ph.mono hl s _ _ h4⟩
  | (1, _) :: s, _, _, ⟨o, v, h1, h2, h3, h4⟩ => ⟨o, v, h1, h2, h3, Ph.mono hl s _ _ h4⟩
  | (_ + 2, _) :: s, _, _, h => fun w2 k => by
    obtain ⟨o, h1, h2, h3⟩ := h w2 k
    exact ⟨o, h1, h2, Oper.wp_mono (fun a' w' h' => ⟨h'.1, Ph.mono hl s a' w' h'.2⟩) h3⟩

def ptr (g : Nat) : Value := .pointer (some ⟨g, 0, none⟩)
def marks (b : Array Bool) (ms : List Nat) : Array Bool := ms.foldl (fun b m => b.setIfInBounds m true) b
def puts (a : Act) (D : List (Flt × Nat)) : Act := D.foldl (fun a x => a.put (some x.1.d) (ptr x.2)) a

theorem marks_get (ms : List Nat) : ∀ (b : Array Bool) (j : Nat), (marks b ms)[j]? = if j ∈ ms ∧ j < b.size then some true else b[j]? := by
  induction ms with
  | nil => intro b j; simp [marks]
  | cons m ms ih =>
    intro b j
    show (marks (b.setIfInBounds m true) ms)[j]? = _
    rw [ih]
    simp only [Array.size_setIfInBounds, List.mem_cons, Array.getElem?_setIfInBounds]
    by_cases h1 : j ∈ ms
    · by_cases h3 : j < b.size
      · simp [h1, h3]
      · by_cases h2 : m = j
        · subst h2; simp [h3]
        · simp [h2, h3]
    · by_cases h2 : m = j
      · subst h2
        by_cases h3 : m < b.size <;> simp [h1, h3]
      · simp [h1, h2, Ne.symm h2]

/-- What is looked at of the region ahead: that the schedule is one, and that the blocks may be laid at whatever time. -/
def apartAll (ops : Array Oper) (fl : List Flt) (i : Nat) : Bool :=
  match ops[i]? with
  | some o => fl.all fun x => match ops[x.m]? with | some om => om.apart ops o && (x.m != i) | none => false
  | none => false
def chkB (md : Region.Mode) (ops : Array Oper) (n : Nat) (fl : List Flt) : List (Nat × Nat) → Array Bool → Bool
  | [], b => fl.all fun x => decide (Region.ready md ops (marks b ((fl.filter fun y => y.m != x.m).map (·.m))) = [x.m])
  | (0, i) :: s, b => Region.free md ops b i && (Region.ready md ops b).contains i && ((List.range ops.size).all fun t => decide (t < n) || Region.waitsFor md ops t i) && apartAll ops fl i && chkB md ops n fl s (b.setIfInBounds i true)
  | (1, i) :: s, b => Region.free md ops b i && (Region.ready md ops b).contains i && apartAll ops fl i && chkB md ops n fl s (b.setIfInBounds i true)
  | (_ + 2, i) :: s, b => decide (Region.ready md ops (marks b (fl.map (·.m))) = [i]) && (Region.ready md ops b).contains i && apartAll ops fl i && chkB md ops n fl s (b.setIfInBounds i true)

def FltOk (P : Program) (ops : Array Oper) (x : Flt) : Prop :=
  ∃ om, ops[x.m]? = some om ∧ om.dst = some x.d ∧ om.guard = none ∧ (∀ a w, (execOp a om).run P w = .ok (.value (ptr w.heap.size)) (w.alloc x.o)) ∧ ∀ md, ∀ e ∈ om.after, Region.binds md e = false

theorem wp_put1 {o : Oper} {a : Act} {w : World} {K : Act → World → Prop} {d : Tmp} {v : Value} (hs : ∀ cs b, o.op ≠ .select cs b) (h1 : d ∉ o.looksAt ops) (h2 : o.dst ≠ some d) (hQ : ∀ c (a : Act) d v w, Q (.panic c) (a.put d v) w ↔ Q (.panic c) a w)
    (h : o.wp P a w K Q) : o.wp P (a.put (some d) v) w (fun a' w' => ∃ a0, a' = a0.put (some d) v ∧ K a0 w') Q := by
  have cm : ∀ u, (a.put (some d) v).put o.dst u = (a.put o.dst u).put (some d) v := fun u => Act.put_comm a v u fun e he hd => h2 (hd.trans he.symm)
  unfold Oper.wp at *
  rw [execOp_put o hs a (some d) v (fun e he => by cases he; exact h1)]
  generalize (execOp a.eval o).run P w = r at *
  cases r with
  | ok nx w' =>
    cases nx <;> simp only [Oper.upon] at h ⊢
    case value u => exact ⟨_, cm u, h⟩
    case skip => exact ⟨_, cm undef, h⟩
    case defer u =>
      refine ⟨_, ?_, h⟩
      exact Act.put_comm { a with defers := u :: a.defers } v undef (fun e he hd => h2 (hd.trans he.symm))
    case enter f args =>
      refine Calls.mono h fun e w'' he => ?_
      cases e with
      | returned u => exact ⟨_, cm u, he⟩
      | panicked c => exact (hQ _ _ _ _ _).2 he
      | outgrown => exact he
    case row row args => exact Rows.mono h fun u w'' he => ⟨_, cm u, he⟩
  | halt x w' =>
    cases x <;> simp only [Oper.upon] at h ⊢
    case panic u => exact (hQ _ _ _ _ _).2 h

theorem wp_puts {o : Oper} (hs : ∀ cs b, o.op ≠ .select cs b) (hQ : ∀ c (a : Act) d v w, Q (.panic c) (a.put d v) w ↔ Q (.panic c) a w) (D : List (Flt × Nat)) : ∀ (a : Act) (w : World) (K : Act → World → Prop),
    (∀ y ∈ D, y.1.d ∉ o.looksAt ops ∧ o.dst ≠ some y.1.d) → o.wp P a w K Q → o.wp P (puts a D) w (fun a' w' => ∃ a0, a' = puts a0 D ∧ K a0 w') Q := by
  induction D with
  | nil => intro a w K _ h; exact Oper.wp_mono (fun a' w' h' => ⟨a', rfl, h'⟩) h
  | cons y D ih =>
    intro a w K hd h
    obtain ⟨h1, h2⟩ := hd y (List.mem_cons_self)
    have := ih (a.put (some y.1.d) (ptr y.2)) w _ (fun z hz => hd z (List.mem_cons_of_mem _ hz)) (wp_put1 (v := ptr y.2) hs h1 h2 hQ h)
    refine Oper.wp_mono (fun a' w' h' => ?_) this
    obtain ⟨a1, rfl, a0, rfl, hk⟩ := h'
    exact ⟨a0, rfl, hk⟩

theorem puts_same {o : Oper} (hs : ∀ cs b, o.op ≠ .select cs b) (D : List (Flt × Nat)) : ∀ (a : Act), (∀ y ∈ D, y.1.d ∉ o.looksAt ops ∧ o.dst ≠ some y.1.d) →
    execOp (puts a D).eval o = execOp a.eval o ∧ Region.wanted o (yielded ops (puts a D).tmps) = Region.wanted o (yielded ops a.tmps) ∧ ∀ u, (puts a D).put o.dst u = puts (a.put o.dst u) D := by
  induction D with
  | nil => intro a _; exact ⟨rfl, rfl, fun _ => rfl⟩
  | cons y D ih =>
    intro a hd
    obtain ⟨h1, h2⟩ := hd y (List.mem_cons_self)
    obtain ⟨e1, e2, e3⟩ := ih (a.put (some y.1.d) (ptr y.2)) (fun z hz => hd z (List.mem_cons_of_mem _ hz))
    refine ⟨e1.trans (execOp_put o hs a _ _ (fun e he => by cases he; exact h1)), e2.trans (wanted_put o a _ _ (fun e he => by cases he; exact h1)), fun u => (e3 u).trans ?_⟩
    show puts ((a.put (some y.1.d) (ptr y.2)).put o.dst u) D = puts ((a.put o.dst u).put (some y.1.d) (ptr y.2)) D
    rw [Act.put_comm a (ptr y.2) u fun e he hd => h2 (hd.trans he.symm)]

/-- The blocks that are laid by now. -/
def Held (W0 : World) (D : List (Flt × Nat)) (w : World) : Prop := (∀ y ∈ D, w.heap[y.2]? = some y.1.o ∧ W0.heap.size ≤ y.2) ∧ (D.map (·.2)).Nodup

theorem Held.ext {W0 w w' : World} {D : List (Flt × Nat)} (h : Held W0 D w) (e : Ext w w') : Held W0 D w' :=
  ⟨fun y hy => ⟨by rw [e.block y.2 (Array.getElem?_eq_some_iff.1 (h.1 y hy).1).1]; exact (h.1 y hy).1, (h.1 y hy).2⟩, h.2⟩

theorem Ext.alloc (w : World) (o : Obj) : Ext w (w.alloc o) := Below.alloc Ext.rfl (Nat.le_refl _) o

theorem Held.more {W0 w : World} {D : List (Flt × Nat)} (h : Held W0 D w) (x : Flt) (hw : W0.heap.size ≤ w.heap.size) : Held W0 (D ++ [(x, w.heap.size)]) (w.alloc x.o) := by
  have hlt : ∀ y ∈ D, y.2 < w.heap.size := fun y hy => (Array.getElem?_eq_some_iff.1 (h.1 y hy).1).1
  refine ⟨fun y hy => ?_, ?_⟩
  · rcases List.mem_append.1 hy with hy | hy
    · exact (h.ext (Ext.alloc w x.o)).1 y hy
    · obtain rfl := List.mem_singleton.1 hy
      exact ⟨by show (w.heap.push x.o)[w.heap.size]? = _; exact Array.getElem?_push_size, hw⟩
  · rw [List.map_append, List.nodup_append]
    refine ⟨h.2, by simp, fun g hg k hk => ?_⟩
    obtain ⟨y, hy, rfl⟩ := List.mem_map.1 hg
    simp only [List.map_cons, List.map_nil, List.mem_singleton] at hk
    have := hlt y hy
    omega

/-- The true list of what has come up, beside the schedule's. -/
structure Side (fl R : List Flt) (b B : Array Bool) : Prop where
  size : B.size = b.size
  same : ∀ j, (∀ x ∈ fl, x.m ≠ j) → B[j]? = b[j]?
  open' : ∀ x ∈ R, B[x.m]? = some false
  shut : ∀ x ∈ fl, (∀ y ∈ R, y.m ≠ x.m) → B[x.m]? = some true

theorem Side.set {fl R : List Flt} {b B : Array Bool} (h : Side fl R b B) (i : Nat) (hi : ∀ x ∈ fl, x.m ≠ i) (hR : ∀ x ∈ R, x ∈ fl) : Side fl R (b.setIfInBounds i true) (B.setIfInBounds i true) := by
  refine ⟨by simp [h.size], fun j hj => ?_, fun x hx => ?_, fun x hx hn => ?_⟩
  · simp only [Array.getElem?_setIfInBounds, h.size, h.same j hj]
  · rw [Array.getElem?_setIfInBounds_ne (Ne.symm (hi x (hR x hx)))]; exact h.open' x hx
  · rw [Array.getElem?_setIfInBounds_ne (Ne.symm (hi x hx))]; exact h.shut x hx hn

theorem Side.lay {fl R1 R2 : List Flt} {x : Flt} {b B : Array Bool} (h : Side fl (R1 ++ x :: R2) b B) (hx : x ∈ fl) (hn : ∀ y ∈ R1 ++ R2, y.m ≠ x.m) : Side fl (R1 ++ R2) b (B.setIfInBounds x.m true) := by
  have hlt : x.m < B.size := (Array.getElem?_eq_some_iff.1 (h.open' x (by simp))).1
  refine ⟨by simp [h.size], fun j hj => ?_, fun y hy => ?_, fun y hy hn2 => ?_⟩
  · rw [Array.getElem?_setIfInBounds_ne (hj x hx)]; exact h.same j hj
  · rw [Array.getElem?_setIfInBounds_ne (Ne.symm (hn y hy))]
    exact h.open' y (by simp only [List.mem_append, List.mem_cons] at hy ⊢; rcases hy with h | h <;> simp [h])
  · by_cases e : y.m = x.m
    · rw [e, Array.getElem?_setIfInBounds_self_of_lt hlt]
    · rw [Array.getElem?_setIfInBounds_ne (Ne.symm e)]
      refine h.shut y hy fun z hz => ?_
      simp only [List.mem_append, List.mem_cons] at hz
      rcases hz with hz | rfl | hz
      · exact hn2 z (by simp [hz])
      · exact Ne.symm e
      · exact hn2 z (by simp [hz])

/-- What may come up in truth may come up when more has. -/
theorem Side.ready {fl R : List Flt} {b B : Array Bool} (h : Side fl R b B) (ms : List Nat) (hms : ∀ x ∈ fl, (∀ y ∈ R, y.m ≠ x.m) → x.m ∈ ms) (hb : ∀ x ∈ fl, x.m < b.size) {j : Nat} (hj : j ∈ Region.ready md ops B) (hne : j ∉ ms) (hms2 : ∀ m ∈ ms, ∃ x ∈ fl, x.m = m)
    (hR : ∀ x ∈ R, b[x.m]? = some false ∨ x.m ∈ ms) : j ∈ Region.ready md ops (marks b ms) := by
  obtain ⟨hun, o, ho, hall⟩ := mem_ready.1 hj
  have key : ∀ k d, k ∉ ms → (∀ x ∈ fl, x.m ≠ k) → (marks b ms).getD k d = B.getD k d := fun k d hk hx => by
    rw [Array.getD_eq_getD_getElem?, Array.getD_eq_getD_getElem?, marks_get, if_neg (by simp [hk]), h.same k hx]
  refine mem_ready.2 ⟨?_, o, ho, fun e he hb' => ?_⟩
  · by_cases hx : ∀ x ∈ fl, x.m ≠ j
    · rw [key j true hne hx]; exact hun
    · have hx' : ∃ x ∈ fl, x.m = j := Classical.byContradiction fun hc => hx fun x hx1 hx2 => hc ⟨x, hx1, hx2⟩
      obtain ⟨x, hx1, rfl⟩ := hx'
      have hxR : ∃ y ∈ R, y.m = x.m := Classical.byContradiction fun hc => hne (hms x hx1 fun y hy hyx => hc ⟨y, hy, hyx⟩)
      obtain ⟨y, hy, hyx⟩ := hxR
      rw [Array.getD_eq_getD_getElem?, marks_get, if_neg (by simp [hne]), ← hyx]
      rcases hR y hy with h1 | h1
      · rw [h1]; rfl
      · exact absurd (hyx ▸ h1) hne
  · have hl := hall e he hb'
    rw [Array.getD_eq_getD_getElem?, marks_get]
    by_cases hm : e.on ∈ ms
    · obtain ⟨x, hx, hxe⟩ := hms2 _ hm
      rw [if_pos ⟨hm, hxe ▸ hb x hx⟩]; rfl
    · rw [if_neg (by simp [hm])]
      by_cases hx : ∀ x ∈ fl, x.m ≠ e.on
      · rw [← h.same _ hx, ← Array.getD_eq_getD_getElem?]; exact hl
      · have hx' : ∃ x ∈ fl, x.m = e.on := Classical.byContradiction fun hc => hx fun x hx1 hx2 => hc ⟨x, hx1, hx2⟩
        obtain ⟨x, hx1, hx2⟩ := hx'
        have hxR : ∃ y ∈ R, y.m = x.m := Classical.byContradiction fun hc => hm (hx2 ▸ hms x hx1 fun y hy hyx => hc ⟨y, hy, hyx⟩)
        obtain ⟨y, hy, hyx⟩ := hxR
        rw [Array.getD_eq_getD_getElem?, ← hx2, ← hyx, h.open' y hy] at hl
        cases hl

theorem apartAll_spec {fl : List Flt} {i : Nat} {o : Oper} (ho : ops[i]? = some o) (h : apartAll ops fl i = true) (hfl : ∀ x ∈ fl, FltOk P ops x) :
    (∀ x ∈ fl, x.d ∉ o.looksAt ops ∧ o.dst ≠ some x.d) ∧ ∀ x ∈ fl, x.m ≠ i := by
  unfold apartAll at h
  rw [ho] at h
  simp only [List.all_eq_true] at h
  refine ⟨fun x hx => ?_, fun x hx => ?_⟩ <;> obtain ⟨om, h1, h2, h3, h4, -⟩ := hfl x hx <;> have := h x hx <;> rw [h1] at this <;> simp only [Bool.and_eq_true, bne_iff_ne, ne_eq] at this
  · obtain ⟨a1, a2, a3⟩ := Oper.apart_spec this.1
    exact ⟨a1 _ h2, a2 _ h2⟩
  · exact this.2

/-- What lays a block comes up. -/
theorem lay_step {x : Flt} (hx : FltOk P ops x) {K : Act → World → Prop} {a : Act} {w : World} (h : K (a.put (some x.d) (ptr w.heap.size)) (w.alloc x.o)) : wpOp P ops Q x.m K a w := by
  obtain ⟨om, h1, h2, h3, h4, -⟩ := hx
  unfold wpOp
  simp only [h1]
  rw [if_pos (by simp [Region.wanted, h3])]
  refine .inl ?_
  unfold Oper.wp
  rw [h4 a.eval w]
  show K (a.put om.dst (ptr w.heap.size)) (w.alloc x.o)
  rw [h2]
  exact h

theorem nodup_inj {α β : Type} (f : α → β) : ∀ {l : List α}, (l.map f).Nodup → ∀ x ∈ l, ∀ y ∈ l, f x = f y → x = y
  | [], _, x, hx, _, _, _ => by cases hx
  | z :: l, h, x, hx, y, hy, e => by
    rw [List.map_cons, List.nodup_cons] at h
    rcases List.mem_cons.1 hx with rfl | hx' <;> rcases List.mem_cons.1 hy with rfl | hy'
    · rfl
    · exact absurd (e ▸ List.mem_map_of_mem hy') h.1
    · exact absurd (e ▸ List.mem_map_of_mem hx') h.1
    · exact nodup_inj f h.2 x hx' y hy' e

theorem nodup_map {α β : Type} (f : α → β) : ∀ {l : List α}, (l.map f).Nodup → l.Nodup
  | [], _ => List.nodup_nil
  | z :: l, h => by
    rw [List.map_cons, List.nodup_cons] at h
    exact List.nodup_cons.2 ⟨fun hz => h.1 (List.mem_map_of_mem hz), nodup_map f h.2⟩

theorem ph_sound {fl : List Flt} {L : Act → World → Prop} {g : Nat} {W0 : World} {bE : Array Bool} (hfl : ∀ x ∈ fl, FltOk P ops x) (hnd : (fl.map (·.m)).Nodup) (hsel : Region.noSelect ops = true) (hQ : ∀ c (a : Act) d v w, Q (.panic c) (a.put d v) w ↔ Q (.panic c) a w) (hS : Stays S)
    (hE : ∀ B a w D, (D.map (·.1)).Perm fl → Held W0 D w → L a w → B = bE → hW P md ops Q S n g B (puts a D) w) (k : Nat) :
    ∀ (s : List (Nat × Nat)) (R : List Flt) (D : List (Flt × Nat)) (b B : Array Bool) (a : Act) (w : World), s.length + R.length = k → chkB md ops n fl s b = true → bE = marks (s.foldl (fun b x => b.setIfInBounds x.2 true) b) (fl.map (·.m)) →
      Side fl R b B → (∀ x ∈ fl, b[x.m]? = some false) → (D.map (·.1) ++ R).Perm fl → S w → Ext W0 w → Held W0 D w → Ph P ops Q S L s a w → hW P md ops Q S n (k + g) B (puts a D) w := by
  have nosel := Region.noSelect_spec hsel
  induction k with
  | zero =>
    intro s R D b B a w hk hc hbe sd hun hp hw he hd h
    obtain rfl : s = [] := List.length_eq_zero_iff.1 (by omega)
    obtain rfl : R = [] := List.length_eq_zero_iff.1 (by omega)
    rw [Nat.zero_add]
    refine hE _ _ _ _ (by simpa using hp) hd (h w Ext.rfl) ?_
    rw [hbe]
    refine Array.ext_getElem? fun j => ?_
    rw [List.foldl_nil, marks_get]
    by_cases hm : j ∈ fl.map (·.m)
    · obtain ⟨x, hx, rfl⟩ := List.mem_map.1 hm
      rw [sd.shut x hx (by simp), if_pos ⟨hm, (Array.getElem?_eq_some_iff.1 (hun x hx)).1⟩]
    · rw [if_neg (by simp only [hm, false_and, not_false_eq_true])]
      exact sd.same j fun x hx e => hm (List.mem_map.2 ⟨x, hx, e⟩)
  | succ k ih =>
    intro s R D b B a w hk hc hbe sd hun hp hw he hd h
    have hRfl : ∀ x ∈ R, x ∈ fl := fun x hx => hp.subset (List.mem_append_right _ hx)
    have hDfl : ∀ y ∈ D, y.1 ∈ fl := fun y hy => hp.subset (List.mem_append_left _ (List.mem_map_of_mem hy))
    have hbs : ∀ x ∈ fl, x.m < b.size := fun x hx => (Array.getElem?_eq_some_iff.1 (hun x hx)).1
    have hinj : ∀ x ∈ fl, ∀ y ∈ fl, x.m = y.m → x = y := fun x hx y hy e => nodup_inj _ hnd x hx y hy e
    have hndR : ∀ R1 x R2, R = R1 ++ x :: R2 → ∀ y ∈ R1 ++ R2, y.m ≠ x.m := by
      intro R1 x R2 e y hy hyx
      have hn : fl.Nodup := nodup_map _ hnd
      have hn2 : (D.map (·.1) ++ R).Nodup := hp.nodup_iff.2 hn
      have hn3 : R.Nodup := (List.nodup_append.1 hn2).2.1
      rw [e] at hn3
      have hn4 : (x :: (R1 ++ R2)).Nodup := List.perm_middle.nodup_iff.1 hn3
      have : y = x := hinj y (hRfl y (by rw [e]; simp only [List.mem_append, List.mem_cons] at hy ⊢; rcases hy with h | h <;> simp [h])) x (hRfl x (by rw [e]; simp)) hyx
      rw [this] at hy
      exact (List.nodup_cons.1 hn4).1 hy
    -- one more block, whatever is left of the schedule
    have hlay : ∀ x ∈ R, wpOp P ops Q x.m (fun a' w' => (x.m < n → S w → S w') ∧ hW P md ops Q S n (k + g) (B.setIfInBounds x.m true) a' w') (puts a D) w := by
      intro x hx
      obtain ⟨R1, R2, e⟩ := List.append_of_mem hx
      refine lay_step (hfl x (hRfl x hx)) ⟨fun _ hs => hS _ _ hs (Ext.alloc w x.o), ?_⟩
      have := ih s (R1 ++ R2) (D ++ [(x, w.heap.size)]) b (B.setIfInBounds x.m true) a (w.alloc x.o) (by rw [e] at hk; simp at hk ⊢; omega) hc hbe (by rw [e] at sd; exact sd.lay (hRfl x hx) (hndR R1 x R2 e)) hun
        (by
          rw [e] at hp
          rw [List.map_append, List.append_assoc]
          exact ((List.perm_middle (a := x) (l₁ := R1) (l₂ := R2)).symm.append_left (D.map (·.1))).trans hp) (hS _ _ hw (Ext.alloc w x.o)) (he.trans (Ext.alloc w x.o)) (hd.more x he.size) (Ph.ext s _ _ _ h (Ext.alloc w x.o))
      unfold puts at this ⊢
      rwa [List.foldl_append] at this
    -- what is listed in truth is listed, blocks apart
    have hlow : ∀ j, B.getD j true = false → b.getD j true = false := by
      intro j hj
      by_cases hx : ∃ x ∈ fl, x.m = j
      · obtain ⟨x, hx, rfl⟩ := hx
        rw [Array.getD_eq_getD_getElem?, hun x hx]; rfl
      · rw [Array.getD_eq_getD_getElem?, ← sd.same j fun x hx1 hx2 => hx ⟨x, hx1, hx2⟩, ← Array.getD_eq_getD_getElem?]; exact hj
    have hup : ∀ i, (∀ x ∈ fl, x.m ≠ i) → i ∈ Region.ready md ops b → i ∈ Region.ready md ops B := by
      intro i hi hr
      obtain ⟨h1, o, ho, hall⟩ := mem_ready.1 hr
      refine mem_ready.2 ⟨?_, o, ho, fun e he hb => ?_⟩
      · rw [Array.getD_eq_getD_getElem?, sd.same i hi, ← Array.getD_eq_getD_getElem?]; exact h1
      · have h2 := hall e he hb
        by_cases hx : ∃ x ∈ fl, x.m = e.on
        · obtain ⟨x, hx, hxe⟩ := hx
          rw [← hxe, Array.getD_eq_getD_getElem?, hun x hx] at h2
          cases h2
        · rw [Array.getD_eq_getD_getElem?, sd.same e.on fun x hx1 hx2 => hx ⟨x, hx1, hx2⟩, ← Array.getD_eq_getD_getElem?]; exact h2
    have hpend : ∀ x ∈ fl, x.m ∈ Region.ready md ops B → x ∈ R := by
      intro x hx hr
      have h1 := (mem_ready.1 hr).1
      refine Classical.byContradiction fun hc => ?_
      rw [Array.getD_eq_getD_getElem?, sd.shut x hx fun y hy e => hc (hinj y (hRfl y hy) x hx e ▸ hy)] at h1
      cases h1
    have hset : ∀ i, (∀ x ∈ fl, x.m ≠ i) → ∀ x ∈ fl, (b.setIfInBounds i true)[x.m]? = some false := fun i hi x hx => by
      rw [Array.getElem?_setIfInBounds_ne (Ne.symm (hi x hx))]; exact hun x hx
    rw [Nat.add_right_comm]
    match s, hk, hc, hbe, h, hlay with
    | [], hk, hc, hbe, h, hlay =>
      simp only [chkB, List.all_eq_true, decide_eq_true_eq] at hc
      obtain ⟨x, R', rfl⟩ : ∃ x R', R = x :: R' := by
        cases R with
        | nil => simp at hk
        | cons x R' => exact ⟨x, R', rfl⟩
      have hx := hRfl x List.mem_cons_self
      have hsub : ∀ j ∈ Region.ready md ops B, ∃ y ∈ x :: R', y.m = j := by
        intro j hj
        by_cases hm : j ∈ (fl.filter fun y => y.m != x.m).map (·.m)
        · obtain ⟨y, hy, rfl⟩ := List.mem_map.1 hm
          exact ⟨y, hpend y (List.mem_filter.1 hy).1 hj, rfl⟩
        · have := sd.ready _ (fun z hz hn => List.mem_map.2 ⟨z, List.mem_filter.2 ⟨hz, by simpa using fun e : z.m = x.m => hn x List.mem_cons_self e.symm⟩, rfl⟩) hbs hj hm
            (fun m hm => by obtain ⟨y, hy, rfl⟩ := List.mem_map.1 hm; exact ⟨y, (List.mem_filter.1 hy).1, rfl⟩) (fun y hy => .inl (hun y (hRfl y hy)))
          rw [hc x hx] at this
          exact ⟨x, List.mem_cons_self, (List.mem_singleton.1 this).symm⟩
      have hrx : x.m ∈ Region.ready md ops B := by
        obtain ⟨om, h1, h2, h3, h4, h5⟩ := hfl x hx
        refine mem_ready.2 ⟨?_, om, h1, fun e he hb => absurd hb (by rw [h5 md e he]; decide)⟩
        rw [Array.getD_eq_getD_getElem?, sd.open' x List.mem_cons_self]; rfl
      refine ⟨fun e => (by rw [e] at hrx; cases hrx), fun j hj => ?_⟩
      obtain ⟨y, hy, rfl⟩ := hsub j hj
      exact hlay y hy
    | (0, i) :: s, hk, hc, hbe, h, hlay =>
      simp only [chkB, Bool.and_eq_true] at hc
      obtain ⟨⟨⟨⟨hfr, hr⟩, hwt⟩, hap⟩, hc⟩ := hc
      obtain ⟨o, v, ho, hwn, hy, hn⟩ := h
      obtain ⟨ha1, ha2⟩ := apartAll_spec ho hap hfl
      obtain ⟨e1, e2, e3⟩ := puts_same (ops := ops) (nosel i o · · ho) D a (fun y hy => ha1 y.1 (hDfl y hy))
      have hr' := hup i ha2 (by simpa using hr)
      refine hW_first (T := S) ho hsel (fun c a w h => (hQ _ _ _ _ _).1 h) ?_ (k + g) B (puts a D) w (fun j oj hj hne hun2 hno => Region.free_spec ho hfr j oj hj hne (hlow j hun2) hno) hr' (.inl ⟨by rw [e2]; exact hwn, fun w hw => by rw [e1]; exact hy ⟨w, hw⟩⟩) hw ?_
      · intro b2 j w1 w2 hi2 hj2 hs2 hh
        refine hh ?_ hs2
        obtain ⟨hjun, oj, hoj, hall⟩ := mem_ready.1 hj2
        rw [List.all_eq_true] at hwt
        have := hwt j (List.mem_range.2 (Array.getElem?_eq_some_iff.1 hoj).1)
        simp only [Bool.or_eq_true, decide_eq_true_eq] at this
        refine this.resolve_right fun hwf => ?_
        obtain ⟨o', ho', e, he, hb, hon⟩ := Region.waitsFor_spec hwf
        rw [hoj] at ho'
        cases ho'
        have h1 := hall e he hb
        rw [hon, getD_both (mem_ready.1 hi2).1] at h1
        cases h1
      · rw [e3]
        exact ih s R D _ _ _ w (by simp at hk; omega) hc hbe (sd.set i ha2 hRfl) (hset i ha2) hp hw he hd hn
    | (1, i) :: s, hk, hc, hbe, h, hlay =>
      simp only [chkB, Bool.and_eq_true] at hc
      obtain ⟨⟨⟨hfr, hr⟩, hap⟩, hc⟩ := hc
      obtain ⟨o, v, ho, hwn, hy, hn⟩ := h
      obtain ⟨ha1, ha2⟩ := apartAll_spec ho hap hfl
      obtain ⟨e1, e2, e3⟩ := puts_same (ops := ops) (nosel i o · · ho) D a (fun y hy => ha1 y.1 (hDfl y hy))
      have hr' := hup i ha2 (by simpa using hr)
      refine hW_first (T := fun _ => True) ho hsel (fun c a w h => (hQ _ _ _ _ _).1 h) (fun _ _ _ _ _ _ _ _ => trivial) (k + g) B (puts a D) w (fun j oj hj hne hun2 hno => Region.free_spec ho hfr j oj hj hne (hlow j hun2) hno) hr' (.inl ⟨by rw [e2]; exact hwn, fun w _ => by rw [e1]; exact hy w⟩) trivial ?_
      rw [e3]
      exact ih s R D _ _ _ w (by simp at hk; omega) hc hbe (sd.set i ha2 hRfl) (hset i ha2) hp hw he hd hn
    | (q + 2, i) :: s, hk, hc, hbe, h, hlay =>
      simp only [chkB, Bool.and_eq_true, decide_eq_true_eq] at hc
      obtain ⟨⟨⟨hrd, hr⟩, hap⟩, hc⟩ := hc
      obtain ⟨o, ho, hwn, hwp⟩ := h w Ext.rfl
      obtain ⟨ha1, ha2⟩ := apartAll_spec ho hap hfl
      obtain ⟨e1, e2, e3⟩ := puts_same (ops := ops) (nosel i o · · ho) D a (fun y hy => ha1 y.1 (hDfl y hy))
      have hr' := hup i ha2 (by simpa using hr)
      refine ⟨fun e => (by rw [e] at hr'; cases hr'), fun j hj => ?_⟩
      have hsub : j = i ∨ ∃ y ∈ R, y.m = j := by
        by_cases hm : j ∈ fl.map (·.m)
        · obtain ⟨y, hy, rfl⟩ := List.mem_map.1 hm
          exact .inr ⟨y, hpend y hy hj, rfl⟩
        · have := sd.ready _ (fun z hz hn => List.mem_map.2 ⟨z, hz, rfl⟩) hbs hj hm (fun m hm => by obtain ⟨y, hy, rfl⟩ := List.mem_map.1 hm; exact ⟨y, hy, rfl⟩) (fun y hy => .inl (hun y (hRfl y hy)))
          rw [hrd] at this
          exact .inl (List.mem_singleton.1 this)
      rcases hsub with rfl | ⟨y, hy, rfl⟩
      · unfold wpOp
        simp only [ho]
        rw [if_pos (by rw [e2]; exact hwn)]
        refine .inl (Oper.wp_mono ?_ (wp_puts (nosel j o · · ho) hQ D a w _ (fun y hy => ha1 y.1 (hDfl y hy)) hwp))
        rintro a' w' ⟨a0, rfl, hx, hn⟩
        have hs' := hS _ _ hw hx
        exact ⟨fun _ _ => hs', ih s R D _ _ _ w' (by simp at hk; omega) hc hbe (sd.set j ha2 hRfl) (hset j ha2) hp hs' (he.trans hx) (hd.ext hx) hn⟩
      · exact hlay y hy

theorem hW_seq : ∀ (l : List Oper) (k : Nat) (b : Array Bool) (a : Act) (w : World), n ≤ k → (∀ j, l[j]? = ops[k + j]?) → Region.seqB md ops l.length k b = true → wpList P ops Q l a w → hW P md ops Q S n l.length b a w
  | [], _, _, _, _, _, _, hB, h => ⟨by simpa [Region.seqB] using hB, h⟩
  | o :: l, k, b, a, w, hk, hl, hB, h => by
    have h0 : ops[k]? = some o := by simpa using (hl 0).symm
    simp only [List.length_cons, Region.seqB, Bool.and_eq_true, decide_eq_true_eq] at hB
    refine ⟨fun h1 => (by rw [hB.1] at h1; cases h1), fun i hi => ?_⟩
    rw [hB.1] at hi
    have hik : i = k := by simpa using hi
    subst hik
    have hw : wpOp P ops Q i (wpList P ops Q l) a w := by unfold wpOp; simp only [h0]; exact h
    exact wpOp_mono (fun a' w' h' => ⟨fun hin => absurd hin (by omega), hW_seq l (i + 1) _ a' w' (by omega) (fun j => by have := hl (j + 1); simpa [Nat.add_assoc, Nat.add_comm 1 j] using this) hB.2 h'⟩) hw

/-- What is looked at ahead of the walk. -/
def floatB (ops : Array Oper) (n : Nat) (fl : List Flt) (sched : List (Nat × Nat)) : Bool :=
  Region.noSelect ops && decide (n ≤ ops.size) && decide (sched.length + fl.length = n) && decide ((fl.map (·.m)).Nodup) && (fl.all fun x => decide (x.m < ops.size)) && chkB .any ops n fl sched (Array.replicate ops.size false)
    && Region.seqB .any ops (ops.size - n) n (marks (sched.foldl (fun b x => b.setIfInBounds x.2 true) (Array.replicate ops.size false)) (fl.map (·.m)))

theorem region_float {id : Nat} {a : Act} {w : World} {l : List Oper} (S : World → Prop) (n : Nat) (fl : List Flt) (sched : List (Nat × Nat)) (hm : P.follows .mixedOrders = true) (hB : floatB l.toArray n fl sched = true) (hfl : ∀ x ∈ fl, FltOk P l.toArray x)
    (hQ : ∀ c (a : Act) d v w, Q (.panic c) (a.put d v) w ↔ Q (.panic c) a w) (hS : Stays S) (hs : S { w with drawn := w.drawn + 1 })
    (h : ∀ W, S W → Ext w W → Ph P l.toArray Q S (fun a' w' => ∀ D, (D.map (·.1)).Perm fl → Held W D w' → wpList P l.toArray Q (l.drop n) (puts a' D) w') sched a W) : (Code.region id l.toArray true).wp P Q a w := by
  refine wp_region_any hm ?_
  simp only [floatB, Bool.and_eq_true, decide_eq_true_eq, List.all_eq_true] at hB
  obtain ⟨⟨⟨⟨⟨⟨h1, h2⟩, h3⟩, h4⟩, h5⟩, h6⟩, h7⟩ := hB
  have hdl : (l.drop n).length = l.toArray.size - n := by simp
  have h0 := h _ hs (below_drew w)
  have key := ph_sound (P := P) (md := .any) (ops := l.toArray) (Q := Q) (S := S) (n := n) (g := l.toArray.size - n) (W0 := { w with drawn := w.drawn + 1 }) hfl h4 h1 hQ hS
    (L := fun a' w' => ∀ D, (D.map (·.1)).Perm fl → Held { w with drawn := w.drawn + 1 } D w' → wpList P l.toArray Q (l.drop n) (puts a' D) w') (bE := marks (sched.foldl (fun b x => b.setIfInBounds x.2 true) (Array.replicate l.toArray.size false)) (fl.map (·.m)))
    (fun B a w D hp hd hL hb => by
      subst hb
      have := hW_seq (P := P) (Q := Q) (S := S) (md := .any) (ops := l.toArray) (l.drop n) n _ (puts a D) w (Nat.le_refl n) (fun j => by simp [List.getElem?_drop]) (by rw [hdl]; exact h7) (hL D hp hd)
      rwa [hdl] at this)
    n sched fl [] _ (Array.replicate l.toArray.size false) a _ h3 h6 rfl
    ⟨rfl, fun _ _ => rfl, fun x hx => by rw [Array.getElem?_replicate, if_pos (h5 x hx)], fun x hx hn => absurd rfl (hn x hx)⟩ (fun x hx => by rw [Array.getElem?_replicate, if_pos (h5 x hx)]) (by simp) hs Ext.rfl ⟨by simp, by simp⟩ h0
  rw [show n + (l.toArray.size - n) = l.toArray.size by omega] at key
  exact hW_any _ _ _ _ key

theorem region_float1 {id : Nat} {a : Act} {w : World} {l : List Oper} (S : World → Prop) (n : Nat) (x : Flt) (sched : List (Nat × Nat)) (hm : P.follows .mixedOrders = true) (hB : floatB l.toArray n [x] sched = true) (hx : FltOk P l.toArray x)
    (hQ : ∀ c (a : Act) d v w, Q (.panic c) (a.put d v) w ↔ Q (.panic c) a w) (hS : Stays S) (hs : S { w with drawn := w.drawn + 1 })
    (h : ∀ W, S W → Ext w W → Ph P l.toArray Q S (fun a' w' => ∀ g, w'.heap[g]? = some x.o → W.heap.size ≤ g → wpList P l.toArray Q (l.drop n) (a'.put (some x.d) (ptr g)) w') sched a W) : (Code.region id l.toArray true).wp P Q a w := by
  refine region_float S n [x] sched hm hB (fun y hy => by obtain rfl := List.mem_singleton.1 hy; exact hx) hQ hS hs fun W hW he => ?_
  refine Ph.mono (fun a' w' hL D hp hd => ?_) _ _ _ (h W hW he)
  match D, hp, hd with
  | [], hp, hd => exact absurd hp.length_eq (by simp)
  | y :: z :: D, hp, hd => exact absurd hp.length_eq (by simp)
  | [y], hp, hd =>
    have : y.1 = x := by simpa using hp
    obtain ⟨y1, g⟩ := y
    subst this
    exact hL g (hd.1 _ List.mem_cons_self).1 (hd.1 _ List.mem_cons_self).2

theorem region_float2 {id : Nat} {a : Act} {w : World} {l : List Oper} (S : World → Prop) (n : Nat) (x y : Flt) (sched : List (Nat × Nat)) (hm : P.follows .mixedOrders = true) (hB : floatB l.toArray n [x, y] sched = true) (hx : FltOk P l.toArray x) (hy : FltOk P l.toArray y) (hd : x.d ≠ y.d)
    (hQ : ∀ c (a : Act) d v w, Q (.panic c) (a.put d v) w ↔ Q (.panic c) a w) (hS : Stays S) (hs : S { w with drawn := w.drawn + 1 })
    (h : ∀ W, S W → Ext w W → Ph P l.toArray Q S (fun a' w' => ∀ g k, w'.heap[g]? = some x.o → w'.heap[k]? = some y.o → W.heap.size ≤ g → W.heap.size ≤ k → g ≠ k → wpList P l.toArray Q (l.drop n) ((a'.put (some x.d) (ptr g)).put (some y.d) (ptr k)) w') sched a W) : (Code.region id l.toArray true).wp P Q a w := by
  refine region_float S n [x, y] sched hm hB (fun z hz => by rcases List.mem_cons.1 hz with rfl | hz; exact hx; obtain rfl := List.mem_singleton.1 hz; exact hy) hQ hS hs fun W hW he => ?_
  refine Ph.mono (fun a' w' hL D hp hD => ?_) _ _ _ (h W hW he)
  match D, hp, hD with
  | [], hp, hD => exact absurd hp.length_eq (by simp)
  | [z], hp, hD => exact absurd hp.length_eq (by simp)
  | z :: z2 :: z3 :: D, hp, hD => exact absurd hp.length_eq (by simp)
  | [(p, g), (q, k)], hp, hD =>
    have h1 := hD.1 (p, g) (by simp)
    have h2 := hD.1 (q, k) (by simp)
    have h3 : g ≠ k := by have := hD.2; simp at this; exact this
    have hne : x ≠ y := fun e => hd (by rw [e])
    have hpm : p ∈ [x, y] := hp.subset (by simp)
    have hqm : q ∈ [x, y] := hp.subset (by simp)
    have hpq : p ≠ q := by
      have : [x, y].Nodup := by simp [hne]
      have := hp.nodup_iff.2 this
      simp at this
      exact this
    rcases List.mem_cons.1 hpm with rfl | hpm
    · rcases List.mem_cons.1 hqm with rfl | hqm
      · exact absurd rfl hpq
      · obtain rfl := List.mem_singleton.1 hqm
        exact hL g k h1.1 h2.1 h1.2 h2.2 h3
    · obtain rfl := List.mem_singleton.1 hpm
      rcases List.mem_cons.1 hqm with rfl | hqm
      · have := hL k g h2.1 h1.1 h2.2 h1.2 (Ne.symm h3)
        rw [Act.put_comm a' (ptr k) (ptr g) (fun e he hd2 => by first | exact hd (Option.some.inj (hd2.trans he.symm)) | exact hd (Option.some.inj (he.trans hd2.symm)))] at this
        exact this
      · obtain rfl := List.mem_singleton.1 hqm
        exact absurd rfl hpq

theorem Ph.read {L : Act → World → Prop} {s : List (Nat × Nat)} {i : Nat} {a : Act} {w : World} {o : Oper} (hi : ops.toList[i]? = some o) (hw : Region.wanted o (yielded ops a.tmps) = true)
    (h : ∃ v, (∀ p : At S, (execOp a.eval o).run P p.w = .ok (.value v) p.w) ∧ Ph P ops Q S L s (a.put o.dst v) w) : Ph P ops Q S L ((0, i) :: s) a w := by
  obtain ⟨v, h1, h2⟩ := h
  exact ⟨o, v, by simpa using hi, hw, h1, h2⟩

theorem Ph.pure {L : Act → World → Prop} {s : List (Nat × Nat)} {i : Nat} {a : Act} {w : World} {o : Oper} (hi : ops.toList[i]? = some o) (hw : Region.wanted o (yielded ops a.tmps) = true)
    (h : ∃ v, (∀ w, (execOp a.eval o).run P w = .ok (.value v) w) ∧ Ph P ops Q S L s (a.put o.dst v) w) : Ph P ops Q S L ((1, i) :: s) a w := by
  obtain ⟨v, h1, h2⟩ := h
  exact ⟨o, v, by simpa using hi, hw, h1, h2⟩

theorem Ph.call {L : Act → World → Prop} {s : List (Nat × Nat)} {i : Nat} {a : Act} {w : World} {o : Oper} {f : FuncId} {args : Array Value} (hi : ops.toList[i]? = some o) (hw : Region.wanted o (yielded ops a.tmps) = true) (hrun : ∀ w, (execOp a.eval o).run P w = .ok (.enter f args) w)
    (h : ∀ w', Ext w w' → Calls P f args w' fun e w'' => ∃ v, e = .returned v ∧ Ext w' w'' ∧ Ph P ops Q S L s (a.put o.dst v) w'') : Ph P ops Q S L ((2, i) :: s) a w := by
  intro w' he
  refine ⟨o, by simpa using hi, hw, ?_⟩
  unfold Oper.wp
  rw [hrun]
  refine (h w' he).mono ?_
  rintro e w'' ⟨v, rfl, h1, h2⟩
  exact ⟨h1, h2⟩
end

theorem Keep.held {w0 W w : World} {l : List (Nat × Obj)} {g : Nat} {o : Obj} (K0 : Keep w0 l W) (K : Keep w0 l w) (h : w.heap[g]? = some o) (hg : W.heap.size ≤ g) : Keep w0 ((g, o) :: l) w := by
  refine ⟨fun p hp => ?_, fun p hp => ?_, ?_, K.B⟩
  · rcases List.mem_cons.1 hp with rfl | hp
    · exact h
    · exact K.box p hp
  · rcases List.mem_cons.1 hp with rfl | hp
    · exact Nat.le_trans K0.B.size hg
    · exact K.own p hp
  · rw [List.map_cons, List.nodup_cons]
    refine ⟨fun hm => ?_, K.one⟩
    obtain ⟨p, hp, e⟩ := List.mem_map.1 hm
    have := K0.lt hp
    omega
theorem Keep.held2 {w0 W w : World} {l : List (Nat × Obj)} {g k : Nat} {o o' : Obj} (K0 : Keep w0 l W) (K : Keep w0 l w) (h : w.heap[g]? = some o) (h' : w.heap[k]? = some o') (hg : W.heap.size ≤ g) (hk : W.heap.size ≤ k) (hne : g ≠ k) : Keep w0 ((k, o') :: (g, o) :: l) w := by
  have K1 := K0.held K h hg
  refine ⟨fun p hp => ?_, fun p hp => ?_, ?_, K.B⟩
  · rcases List.mem_cons.1 hp with rfl | hp
    · exact h'
    · exact K1.box p hp
  · rcases List.mem_cons.1 hp with rfl | hp
    · exact Nat.le_trans K0.B.size hk
    · exact K1.own p hp
  · rw [List.map_cons, List.nodup_cons]
    refine ⟨fun hm => ?_, K1.one⟩
    rw [List.map_cons, List.mem_cons] at hm
    rcases hm with e | hm
    · exact hne e.symm
    · obtain ⟨p, hp, e⟩ := List.mem_map.1 hm
      have := K0.lt hp
      simp only at e
      omega
theorem Keep.alloc2 {w0 w : World} {l : List (Nat × Obj)} (K : Keep w0 l w) (o o' : Obj) : Keep w0 ((w.heap.size + 1, o') :: (w.heap.size, o) :: l) ((w.alloc o).alloc o') := by
  have := (K.alloc o).alloc o'
  rwa [show (w.alloc o).heap.size = w.heap.size + 1 from Array.size_push _] at this
theorem below_two (w : World) (o o' : Obj) : Below w.heap.size w ((w.alloc o).alloc o') := (Ext.alloc w o).trans (Ext.alloc _ o')

end Go.Proofs.YtmidifgnpjlgcaaGreat
