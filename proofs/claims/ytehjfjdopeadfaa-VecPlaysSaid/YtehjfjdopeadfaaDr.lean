/- Rows of digits that are made whole and stored into. -/
import Derived.Test.YtehjfjdopeadfaaDm
import Derived.Laws.MakeOwn
set_option linter.unusedVariables false
set_option linter.unusedSimpArgs false
namespace Go.Proofs.Ytehjfjdopeadfaa
open Go.RowKit

def Obj.row (ds : List Int) : Obj := .cells (ds.map (Value.int .i64)).toArray 3

theorem mk_row (N : Nat) (hN : N ≤ 1000000) (x : Int) (hx : x = (N : Int)) (w : World) : (Instr.makeSlice 77 (.int .i64 x) (.int .i64 x)).run Try.prog w = .ok (.slice (some ⟨w.heap.size, 0, none⟩) N N) (w.alloc (Obj.row (List.replicate N 0))) := by
  obtain ⟨i0, hi, hx0⟩ := Option.map_eq_some_iff.1 info3
  simp only [Prod.mk.injEq] at hx0
  obtain ⟨hz0, hz1, hz2⟩ := hx0
  subst hx
  have := run_make (P := Try.prog) w 77 3 i0 (.int .i64 0) Try.underlying77 hi hz0 .i64 .i64 (N : Int) (N : Int) (by omega) (Int.le_refl _) (by rw [hz2]; omega) (by omega)
  rw [this, hz1]
  have e : madeCells (Value.int .i64 0).cells ((N : Int).toNat * 1) = ((List.replicate N (0 : Int)).map (Value.int .i64)).toArray := by
    apply Array.ext
    · simp [madeCells]
    · intro j h1 h2
      simp [madeCells, Value.cells, Nat.mod_one]
  rw [e]
  simp [Obj.row]

variable {w0 w : World} {l l2 : List (Nat × Obj)}
theorem Keep.rowc {b : Nat} {ds : List Int} (K : Keep w0 l w) (m : (b, Obj.row ds) ∈ l) (j : Nat) (hj : j < ds.length) : w.cell? ⟨b, j, none⟩ = some (.int .i64 (ds.getD j 0)) :=
  K.cell m (by simp [hj])
theorem Keep.roww {b : Nat} {ds : List Int} (K : Keep w0 l w) (m : (b, Obj.row ds) ∈ l) (o : Nat) : w.frozen? ⟨b, o, none⟩ = false := K.warm m o
theorem Keep.setr {b : Nat} {ds : List Int} (l1 : List (Nat × Obj)) (K : Keep w0 (l1 ++ (b, Obj.row ds) :: l2) w) (j : Nat) (v : Int) : Keep w0 (l1 ++ (b, Obj.row (ds.set j v)) :: l2) (w.setCell ⟨b, j, none⟩ (.int .i64 v)) := by
  have := K.set l1 j (.int .i64 v)
  have e : (ds.map (Value.int .i64)).toArray.setIfInBounds j (.int .i64 v) = ((ds.set j v).map (Value.int .i64)).toArray := by
    rw [List.map_set]; simp
  rw [e] at this
  exact this
theorem Keep.setr_0 {b : Nat} {ds : List Int} (K : Keep w0 ((b, Obj.row ds) :: l2) w) (j : Nat) (v : Int) : Keep w0 ((b, Obj.row (ds.set j v)) :: l2) (w.setCell ⟨b, j, none⟩ (.int .i64 v)) := K.setr [] j v
theorem Keep.rowd {b : Nat} {ds : List Int} {c : Nat} (K : Keep w0 l w) (m : (b, Obj.row ds) ∈ l) (hc : ds.length ≤ c) : Dg w (.slice (some ⟨b, 0, none⟩) ds.length c) ds :=
  .inr ⟨b, c, rfl, hc, K.lt m, fun j hj => K.rowc m j hj⟩

theorem val_set (ds : List Int) (d : Int) : ∀ j, j < ds.length → val (ds.set j d) = val ds + p10 j * (d - ds.getD j 0) := by
  induction ds with
  | nil => intro j h; simp at h
  | cons x l ih =>
    intro j h
    cases j with
    | zero => show d + 10 * val l = x + 10 * val l + 1 * (d - x); omega
    | succ j =>
      show x + 10 * val (l.set j d) = x + 10 * val l + 10 * p10 j * (d - l.getD j 0)
      rw [ih j (by simpa using h), Int.mul_add, ← Int.mul_assoc]; omega
theorem digits_set {ds : List Int} (h : digits ds) (j : Nat) {d : Int} (hd : 0 ≤ d ∧ d ≤ 9) : digits (ds.set j d) := by
  intro x hx
  rcases List.mem_or_eq_of_mem_set hx with h1 | h1
  · exact h x h1
  · rw [h1]; exact hd
theorem digits_zero (n : Nat) : digits (List.replicate n 0) := by
  intro x hx
  rw [(List.mem_replicate.1 hx).2]; decide
theorem val_zero (n : Nat) : val (List.replicate n 0) = 0 := by
  induction n with
  | zero => rfl
  | succ n ih => show 0 + 10 * val (List.replicate n 0) = 0; rw [ih]; rfl
theorem getD_set_at {ds : List Int} {j : Nat} (h : j < ds.length) (d : Int) : (ds.set j d).getD j 0 = d := by simp [h]

/-- The product so far: i whole rows, and k digits of the next. -/
def Muled (x y : List Int) (N i k : Nat) (o : Int) (out : List Int) : Prop :=
  out.length = N ∧ digits out ∧ (0 ≤ o ∧ o ≤ 9) ∧ val out + p10 (i + k) * o = val (x.take i) * val y + p10 i * x.getD i 0 * val (y.take k)

theorem Muled.start {x y : List Int} {N i : Nat} {out : List Int} (h1 : out.length = N) (h2 : digits out) (h3 : val out = val (x.take i) * val y) : Muled x y N i 0 0 out :=
  ⟨h1, h2, by omega, by rw [h3]; simp [val]⟩
theorem Muled.stop {x y : List Int} {N i k : Nat} {out : List Int} (h : Muled x y N i k 0 out) (hk : ¬ k < y.length) : out.length = N ∧ digits out ∧ val out = val (x.take (i + 1)) * val y := by
  refine ⟨h.1, h.2.1, ?_⟩
  have e := h.2.2.2
  rw [List.take_of_length_le (l := y) (by omega), Int.mul_zero, Int.add_zero] at e
  rw [e, val_take_succ', Int.add_mul]
theorem p10_add (a b : Nat) : p10 (a + b) = p10 a * p10 b := by
  induction a with
  | zero => rw [Nat.zero_add]; show _ = 1 * _; omega
  | succ a ih => rw [Nat.succ_add]; show 10 * p10 (a + b) = 10 * p10 a * p10 b; rw [ih, Int.mul_assoc]

theorem Muled.room {x y : List Int} {N i k : Nat} {o : Int} {out : List Int} (h : Muled x y N i k o out) (dx : digits x) (dy : digits y) (hi : i < x.length) (hk : k < y.length ∨ 0 < o) (hN : N = x.length + y.length + 1) : i + k < N := by
  rcases hk with hk | ho
  · omega
  · apply Classical.byContradiction
    intro hn
    have e := h.2.2.2
    have b := (val_bounds out h.2.1).1
    -- the whole is less than 10 ^ (i + 1 + y.length)
    have vx := val_bounds _ (digits_take dx (i + 1))
    have vy := val_bounds y dy
    rw [show (x.take (i + 1)).length = i + 1 by simp; omega] at vx
    have e2 : val (x.take i) * val y + p10 i * x.getD i 0 * val (y.take k) = val (x.take (i + 1)) * val y := by
      rw [List.take_of_length_le (l := y) (by omega), val_take_succ', Int.add_mul]
    rw [e2] at e
    have m1 : val (x.take (i + 1)) * val y ≤ p10 (i + 1) * p10 y.length := Int.mul_le_mul (by omega) (by omega) vy.1 (by omega)
    have m2 := p10_mono (show i + 1 + y.length + 1 ≤ i + k by omega)
    have m3 : p10 (i + 1 + y.length + 1) = 10 * (p10 (i + 1) * p10 y.length) := by show 10 * p10 (i + 1 + y.length) = _; rw [p10_add]
    have m4 : 0 < p10 (i + 1) * p10 y.length := Int.mul_pos (p10_pos _) (p10_pos _)
    have m5 := Int.mul_le_mul_of_nonneg_left (show 1 ≤ o by omega) (show 0 ≤ p10 (i + k) by have := p10_pos (i + k); omega)
    omega

theorem Muled.step {x y : List Int} {N i k : Nat} {o : Int} {out : List Int} (h : Muled x y N i k o out) (dx : digits x) (dy : digits y) (hr : i + k < N) (s : Int) (e : s = out.getD (i + k) 0 + o + x.getD i 0 * y.getD k 0) :
    Muled x y N i (k + 1) (s / 10) (out.set (i + k) (s % 10)) := by
  obtain ⟨h1, h2, h3, h4⟩ := h
  have g1 := getD_mem dx i
  have g2 := getD_mem dy k
  have g3 := getD_mem h2 (i + k)
  have p1 : 0 ≤ x.getD i 0 * y.getD k 0 := Int.mul_nonneg g1.1 g2.1
  have p2 : x.getD i 0 * y.getD k 0 ≤ 9 * 9 := Int.mul_le_mul g1.2 g2.2 g2.1 (by omega)
  refine ⟨by simp [h1], digits_set h2 _ (by omega), by omega, ?_⟩
  rw [val_set _ _ _ (by omega), val_take_succ']
  show _ + 10 * p10 (i + k) * (s / 10) = _
  rw [p10_add] at h4 ⊢
  have e2 : s = s % 10 + 10 * (s / 10) := by omega
  generalize s % 10 = r at *
  generalize s / 10 = q at *
  generalize p10 i = t at *
  generalize p10 k = u at *
  generalize out.getD (i + k) 0 = z at *
  generalize x.getD i 0 = a at *
  generalize y.getD k 0 = c at *
  generalize val out = vo at *
  generalize val (y.take k) = vy at *
  generalize val (x.take i) * val y = vv at *
  grind
end Go.Proofs.Ytehjfjdopeadfaa
