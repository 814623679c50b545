/- Walks of package span: each function by its plain answer. -/
import Derived.Test.YtehjfjdopeadfaaSp
import Derived.WalkKit
import Derived.WalkSpells
import Derived.WalkLawsBesides
import Derived.Lib.Hide
import Derived.Below
import Derived.Deep.RegionWith
import Derived.Deep.QuietTactic
import Derived.Laws.Rows
set_option linter.unusedVariables false
set_option linter.unusedSimpArgs false
namespace Go.Proofs.Ytehjfjdopeadfaa
open Go.RowKit SpMath

@[reducible] def Sp.v (s : Sp) : Value := .agg #[.int .i64 s.lo, .int .i64 s.hi, .bool s.all]
attribute [go_sem] Sp.v

theorem below_then {B : Nat} {w w1 w2 : World} (h : Below B w w1) (hB : B ≤ w1.heap.size) (h2 : Below w1.heap.size w1 w2) : Below B w w2 := h.trans (h2.mono hB)

/-- A span in a box. -/
def BoxS (w : World) (b : Nat) (s : Sp) : Prop := w.heap[b]? = some (.cells #[.int .i64 s.lo, .int .i64 s.hi, .bool s.all] 23)

theorem BoxS.cell0 {w : World} {b : Nat} {s : Sp} (h : BoxS w b s) : w.cell? ⟨b, 0, none⟩ = some (.int .i64 s.lo) := by
  unfold BoxS at h; simp [World.cell?, h]
theorem BoxS.cell1 {w : World} {b : Nat} {s : Sp} (h : BoxS w b s) : w.cell? ⟨b, 1, none⟩ = some (.int .i64 s.hi) := by
  unfold BoxS at h; simp [World.cell?, h]
theorem BoxS.cell2 {w : World} {b : Nat} {s : Sp} (h : BoxS w b s) : w.cell? ⟨b, 2, none⟩ = some (.bool s.all) := by
  unfold BoxS at h; simp [World.cell?, h]
theorem BoxS.warm {w : World} {b : Nat} {s : Sp} (h : BoxS w b s) (o : Nat) : w.frozen? ⟨b, o, none⟩ = false := by
  unfold BoxS at h; simp [World.frozen?, h]
theorem BoxS.lt {w : World} {b : Nat} {s : Sp} (h : BoxS w b s) : b < w.heap.size := (Array.getElem?_eq_some_iff.1 h).1
theorem BoxS.new (w : World) (s : Sp) : BoxS (w.alloc (.cells #[.int .i64 s.lo, .int .i64 s.hi, .bool s.all] 23)) w.heap.size s := by
  unfold BoxS World.alloc; simp
theorem BoxS.alloc {w : World} {b : Nat} {s : Sp} (h : BoxS w b s) (o : Obj) : BoxS (w.alloc o) b s := by
  have := h.lt
  unfold BoxS at *
  rw [Below.heap_alloc _ _ _ this]; exact h
theorem BoxS.below {w w1 w2 : World} {b : Nat} {s : Sp} (h : BoxS w b s) (hb : Below w1.heap.size w1 w2) (e : w1.heap = w.heap) : BoxS w2 b s := by
  have hl := h.lt
  unfold BoxS at *
  rw [hb.block b (by rw [e]; exact hl), e]; exact h
theorem BoxS.other {w : World} {b : Nat} {s : Sp} (h : BoxS w b s) {a : Addr} (hne : b ≠ a.block) (u : Value) : BoxS (w.setCell a u) b s := by
  unfold BoxS at *
  rw [Below.heap_setCell _ _ _ _ hne]; exact h
theorem BoxS.put {w : World} {b : Nat} {s : Sp} (h : BoxS w b s) (t : Sp) : BoxS (((w.setCell ⟨b, 0, none⟩ (.int .i64 t.lo)).setCell ⟨b, 1, none⟩ (.int .i64 t.hi)).setCell ⟨b, 2, none⟩ (.bool t.all)) b t := by
  unfold BoxS at *
  simp [World.setCell, Array.getElem?_modify, h]

theorem below_go {B : Nat} {w w1 w1' w2 : World} (h : Below B w w1) (hB : B ≤ w1.heap.size) (hb : Below w1'.heap.size w1' w2) (e1 : w1'.os = w1.os) (e2 : w1'.tape = w1.tape) (e3 : w1'.output = w1.output) (e4 : w1'.heap = w1.heap) : Below B w w2 :=
  h.trans ⟨hb.os.trans e1, hb.tape.trans e2, hb.output.trans e3, by have := hb.size; rw [e4] at this; exact this, fun k hk => by rw [hb.block k (by rw [e4]; omega), e4]⟩

def Obj.box (s : Sp) : Obj := .cells #[.int .i64 s.lo, .int .i64 s.hi, .bool s.all] 23
theorem one_box (w : World) (x : Sp) : BoxS (w.alloc (Obj.box x)) w.heap.size x ∧ Below w.heap.size w (w.alloc (Obj.box x)) :=
  ⟨BoxS.new w x, (Below.refl _ _).alloc (Nat.le_refl _) _⟩
theorem two_boxes (w : World) (x y : Sp) : BoxS ((w.alloc (Obj.box x)).alloc (Obj.box y)) w.heap.size x ∧ BoxS ((w.alloc (Obj.box x)).alloc (Obj.box y)) (w.heap.size + 1) y ∧ Below w.heap.size w ((w.alloc (Obj.box x)).alloc (Obj.box y)) := by
  have h := BoxS.new (w.alloc (Obj.box x)) y
  rw [World.size_alloc] at h
  exact ⟨(BoxS.new w x).alloc _, h, ((Below.refl _ _).alloc (Nat.le_refl _) _).alloc (by simp) _⟩
theorem three_boxes (w : World) (x y z : Sp) : BoxS (((w.alloc (Obj.box x)).alloc (Obj.box y)).alloc (Obj.box z)) w.heap.size x ∧ BoxS (((w.alloc (Obj.box x)).alloc (Obj.box y)).alloc (Obj.box z)) (w.heap.size + 1) y ∧ BoxS (((w.alloc (Obj.box x)).alloc (Obj.box y)).alloc (Obj.box z)) (w.heap.size + 1 + 1) z ∧ Below w.heap.size w (((w.alloc (Obj.box x)).alloc (Obj.box y)).alloc (Obj.box z)) := by
  have h := BoxS.new ((w.alloc (Obj.box x)).alloc (Obj.box y)) z
  rw [World.size_alloc, World.size_alloc] at h
  obtain ⟨h1, h2, h3⟩ := two_boxes w x y
  exact ⟨h1.alloc _, h2.alloc _, h, h3.alloc (by simp; omega) _⟩

theorem min2_both (ats : Array TypeId) (ty : TypeId) (k : IntKind) (a b : Int) : Builtin.min_ ats ty #[.int k a, .int k b] = pure (.int k (min a b)) := by
  have h2 : ∀ x y : Int, Builtin.min2 (.int k x) (.int k y) = pure (.int k (min x y)) := by
    intro x y
    simp only [Builtin.min2]
    by_cases h : y < x
    · rw [if_pos h, show min x y = y by omega]
    · rw [if_neg h, show min x y = x by omega]
  simp only [Builtin.min_, List.foldlM_cons, List.foldlM_nil, h2, pure_bind]
theorem max2_both (ats : Array TypeId) (ty : TypeId) (k : IntKind) (a b : Int) : Builtin.max_ ats ty #[.int k a, .int k b] = pure (.int k (max a b)) := by
  have h2 : ∀ x y : Int, Builtin.max2 (.int k x) (.int k y) = pure (.int k (max x y)) := by
    intro x y
    simp only [Builtin.max2]
    by_cases h : x < y
    · rw [if_pos h, show max x y = y by omega]
    · rw [if_neg h, show max x y = x by omega]
  simp only [Builtin.max_, List.foldlM_cons, List.foldlM_nil, h2, pure_bind]
attribute [go_sem] min2_both max2_both

theorem below_put {B : Nat} {w w1 : World} {b : Nat} (h : Below B w w1) (hB : B ≤ b) (u0 u1 u2 : Value) : Below B w (((w1.setCell ⟨b, 0, none⟩ u0).setCell ⟨b, 1, none⟩ u1).setCell ⟨b, 2, none⟩ u2) :=
  ((h.setCell (p := ⟨b, 0, none⟩) hB u0).setCell (p := ⟨b, 1, none⟩) hB u1).setCell (p := ⟨b, 2, none⟩) hB u2
theorem BoxS.others {w : World} {b b2 : Nat} {s : Sp} (h : BoxS w b s) (hne : b ≠ b2) (u0 u1 u2 : Value) : BoxS (((w.setCell ⟨b2, 0, none⟩ u0).setCell ⟨b2, 1, none⟩ u1).setCell ⟨b2, 2, none⟩ u2) b s :=
  ((h.other (a := ⟨b2, 0, none⟩) hne u0).other (a := ⟨b2, 1, none⟩) hne u1).other (a := ⟨b2, 2, none⟩) hne u2
theorem size_put (w1 : World) (b : Nat) (u0 u1 u2 : Value) : (((w1.setCell ⟨b, 0, none⟩ u0).setCell ⟨b, 1, none⟩ u1).setCell ⟨b, 2, none⟩ u2).heap.size = w1.heap.size := by simp [World.setCell]

theorem ret_sp {fn : Func} {p g : Nat} {tmps : Array Value} {w : World} {s : Sp} {R : Ending → World → Prop} (h : fn.results = #[.cell p 23]) (hp : tmps.getD p undef = .pointer (some ⟨g, 0, none⟩)) (hb : BoxS w g s) (hR : R (.returned s.v) w) : bodyPost Try.prog fn R .ret { tmps := tmps, defers := [] } w := by
  obtain ⟨x, hx⟩ : ∃ x, Try.prog.underlying 23 = some (.struct x) := ⟨_, Try.underlying23⟩
  exact bodyPost_ret (v := s.v) (results_cell_row h tmps w g 23 _ _ _ hp hb hx rfl (by kernel_rfl)) rfl hR

theorem whole_any (w : World) : Calls Try.prog 73 #[] w fun e w' => e = .returned whole.v ∧ Below w.heap.size w w' := by
  go_enter Try.func73, Try.ntmps73
  go_wp2_with fail
  exact bodyPost_ret (v := whole.v) (by simp [results, Try.results73, go_sem, whole, Sp.v]) rfl ⟨rfl, (Below.refl _ _).alloc (Nat.le_refl _) _⟩

theorem fixed_any (n : Int) (w : World) : Calls Try.prog 92 #[.int .i64 n] w fun e w' => e = .returned (.bool (decide (fixed n))) ∧ w = w' := by
  by_cases h1 : -2147483647 ≤ n
  · by_cases h2 : n ≤ 2147483647
    · have e : decide (fixed n) = true := by simp [fixed, h1, h2]
      rw [e]
      go_enter Try.func92, Try.ntmps92
      go_wp2_with fail
      go_ret
      exact ⟨rfl, rfl⟩
    · have e : decide (fixed n) = false := by simp [fixed, h1, h2]
      rw [e]
      go_enter Try.func92, Try.ntmps92
      go_wp2_with fail
      go_ret
      exact ⟨rfl, rfl⟩
  · have e : decide (fixed n) = false := by simp [fixed, h1]
    rw [e]
    go_enter Try.func92, Try.ntmps92
    go_wp2_with fail
    go_ret
    exact ⟨rfl, rfl⟩

set_option maxHeartbeats 1000000 in
theorem right_any (s : Sp) (w : World) : Calls Try.prog 71 #[s.v] w fun e w' => e = .returned (right s).v ∧ Below w.heap.size w w' := by
  obtain ⟨lo, hi, all⟩ := s
  simp only [Sp.v]
  by_cases hf : Fin ⟨lo, hi, all⟩
  · rw [right_fin hf]
    obtain ⟨h0, h1, h2, h3⟩ := hf
    simp only at h0 h1 h2 h3
    subst h0
    have e1 : decide (fixed lo) = true := decide_eq_true ⟨by omega, by omega⟩
    have e2 : decide (fixed hi) = true := decide_eq_true ⟨by omega, by omega⟩
    go_enter Try.func71, Try.ntmps71
    go_wp2_with fail
    refine (fixed_any lo _).mono ?_; rintro e w2 ⟨rfl, rfl⟩
    rw [e1]
    go_wp2_with fail
    refine (fixed_any hi _).mono ?_; rintro e w2 ⟨rfl, rfl⟩
    rw [e2]
    go_wp2_with fail
    exact bodyPost_ret (v := .agg #[.int .i64 lo, .int .i64 hi, .bool false]) (by simp [results, Try.results71, go_sem]) rfl ⟨rfl, ((Below.refl _ _).alloc (Nat.le_refl _) _).alloc (by simp) _⟩
  · rw [right_not hf]
    obtain ⟨hx, hy, hb⟩ := two_boxes w ⟨lo, hi, all⟩ ⟨0, 0, false⟩
    have HX := Lib.hid hx; have HY := Lib.hid hy; have HB := Lib.hid hb
    clear hx hy hb
    cases all with
    | true =>
      go_enter Try.func71, Try.ntmps71
      go_wp2_with fail
      refine (whole_any _).mono ?_; rintro e w2 ⟨rfl, hb⟩
      have HB2 := Lib.hid (below_go HB.out HB.out.size hb rfl rfl rfl rfl)
      have HY2 := Lib.hid (HY.out.below hb rfl)
      have f := HY2.out.warm; have c0 := HY2.out.cell0; have c1 := HY2.out.cell1; have c2 := HY2.out.cell2
      clear hb
      go_wp2_with fail
      exact ret_sp Try.results71 rfl (HY2.out.put whole) ⟨rfl, below_put HB2.out (by omega) _ _ _⟩
    | false =>
      by_cases h1 : fixed lo
      · have e1 : decide (fixed lo) = true := decide_eq_true h1
        by_cases h2 : fixed hi
        · have e2 : decide (fixed hi) = true := decide_eq_true h2
          have h3 : hi < lo := by
            apply Classical.byContradiction
            intro h
            exact hf ⟨rfl, h1.1, by show lo ≤ hi; omega, h2.2⟩
          go_enter Try.func71, Try.ntmps71
          go_wp2_with fail
          refine (fixed_any lo _).mono ?_; rintro e w2 ⟨rfl, rfl⟩
          rw [e1]
          go_wp2_with fail
          refine (fixed_any hi _).mono ?_; rintro e w2 ⟨rfl, rfl⟩
          rw [e2]
          go_wp2_with fail
          refine (whole_any _).mono ?_; rintro e w2 ⟨rfl, hb⟩
          have HB2 := Lib.hid (below_go HB.out HB.out.size hb rfl rfl rfl rfl)
          have HY2 := Lib.hid (HY.out.below hb rfl)
          have f := HY2.out.warm; have c0 := HY2.out.cell0; have c1 := HY2.out.cell1; have c2 := HY2.out.cell2
          clear hb
          go_wp2_with fail
          exact ret_sp Try.results71 rfl (HY2.out.put whole) ⟨rfl, below_put HB2.out (by omega) _ _ _⟩
        · have e2 : decide (fixed hi) = false := decide_eq_false h2
          go_enter Try.func71, Try.ntmps71
          go_wp2_with fail
          refine (fixed_any lo _).mono ?_; rintro e w2 ⟨rfl, rfl⟩
          rw [e1]
          go_wp2_with fail
          refine (fixed_any hi _).mono ?_; rintro e w2 ⟨rfl, rfl⟩
          rw [e2]
          go_wp2_with fail
          refine (whole_any _).mono ?_; rintro e w2 ⟨rfl, hb⟩
          have HB2 := Lib.hid (below_go HB.out HB.out.size hb rfl rfl rfl rfl)
          have HY2 := Lib.hid (HY.out.below hb rfl)
          have f := HY2.out.warm; have c0 := HY2.out.cell0; have c1 := HY2.out.cell1; have c2 := HY2.out.cell2
          clear hb
          go_wp2_with fail
          exact ret_sp Try.results71 rfl (HY2.out.put whole) ⟨rfl, below_put HB2.out (by omega) _ _ _⟩
      · have e1 : decide (fixed lo) = false := decide_eq_false h1
        go_enter Try.func71, Try.ntmps71
        go_wp2_with fail
        refine (fixed_any lo _).mono ?_; rintro e w2 ⟨rfl, rfl⟩
        rw [e1]
        go_wp2_with fail
        refine (whole_any _).mono ?_; rintro e w2 ⟨rfl, hb⟩
        have HB2 := Lib.hid (below_go HB.out HB.out.size hb rfl rfl rfl rfl)
        have HY2 := Lib.hid (HY.out.below hb rfl)
        have f := HY2.out.warm; have c0 := HY2.out.cell0; have c1 := HY2.out.cell1; have c2 := HY2.out.cell2
        clear hb
        go_wp2_with fail
        exact ret_sp Try.results71 rfl (HY2.out.put whole) ⟨rfl, below_put HB2.out (by omega) _ _ _⟩

theorem made_any (lo hi : Int) (w : World) : Calls Try.prog 74 #[.int .i64 lo, .int .i64 hi] w fun e w' => e = .returned (made lo hi).v ∧ Below w.heap.size w w' := by
  obtain ⟨hy, hb⟩ := one_box w ⟨0, 0, false⟩
  have HY := Lib.hid hy; have HB := Lib.hid hb
  clear hy hb
  go_enter Try.func74, Try.ntmps74
  go_wp2_with fail
  refine (right_any ⟨lo, hi, false⟩ _).mono ?_; rintro e w2 ⟨rfl, hb⟩
  have HB2 := Lib.hid (below_go HB.out HB.out.size hb rfl rfl rfl rfl)
  have HY2 := Lib.hid (HY.out.below hb rfl)
  have f := HY2.out.warm; have c0 := HY2.out.cell0; have c1 := HY2.out.cell1; have c2 := HY2.out.cell2
  clear hb
  go_wp2_with fail
  exact ret_sp Try.results74 rfl (HY2.out.put (made lo hi)) ⟨rfl, below_put HB2.out (by omega) _ _ _⟩

theorem of_any (a b : Int) (w : World) : Calls Try.prog 42 #[.int .i64 a, .int .i64 b] w fun e w' => e = .returned (of a b).v ∧ Below w.heap.size w w' := by
  obtain ⟨hy, hb⟩ := one_box w ⟨0, 0, false⟩
  have HY := Lib.hid hy; have HB := Lib.hid hb
  clear hy hb
  go_enter Try.func42, Try.ntmps42
  go_wp2_with fail
  refine (made_any (min a b) (max a b) _).mono ?_; rintro e w2 ⟨rfl, hb⟩
  have HB2 := Lib.hid (below_go HB.out HB.out.size hb rfl rfl rfl rfl)
  have HY2 := Lib.hid (HY.out.below hb rfl)
  have f := HY2.out.warm; have c0 := HY2.out.cell0; have c1 := HY2.out.cell1; have c2 := HY2.out.cell2
  clear hb
  go_wp2_with fail
  exact ret_sp Try.results42 rfl (HY2.out.put (of a b)) ⟨rfl, below_put HB2.out (by omega) _ _ _⟩
end Go.Proofs.Ytehjfjdopeadfaa
