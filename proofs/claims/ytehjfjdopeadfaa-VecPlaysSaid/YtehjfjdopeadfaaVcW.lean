/- Vectors of three spans: how they lie in memory. -/
import Derived.Test.YtehjfjdopeadfaaSpRf
import Derived.Deep.LoopGhost
set_option linter.unusedVariables false
set_option linter.unusedSimpArgs false
namespace Go.Proofs.Ytehjfjdopeadfaa
open Go.RowKit SpMath

/-- A vector. -/
structure Vc where
  x : Sp
  y : Sp
  z : Sp
deriving DecidableEq, Inhabited

@[reducible] def Vc.v (s : Vc) : Value := .agg #[.int .i64 s.x.lo, .int .i64 s.x.hi, .bool s.x.all, .int .i64 s.y.lo, .int .i64 s.y.hi, .bool s.y.all, .int .i64 s.z.lo, .int .i64 s.z.hi, .bool s.z.all]
attribute [go_sem] Vc.v

def Obj.vec (t : TypeId) (s : Vc) : Obj := .cells #[.int .i64 s.x.lo, .int .i64 s.x.hi, .bool s.x.all, .int .i64 s.y.lo, .int .i64 s.y.hi, .bool s.y.all, .int .i64 s.z.lo, .int .i64 s.z.hi, .bool s.z.all] t
/-- A vector in a box. -/
def BoxV (t : TypeId) (w : World) (b : Nat) (s : Vc) : Prop := w.heap[b]? = some (Obj.vec t s)

variable {w0 w : World} {l l1 l2 : List (Nat × Obj)} {b : Nat} {t : TypeId}
theorem BoxV.warm {s : Vc} (h : BoxV t w b s) (o : Nat) : w.frozen? ⟨b, o, none⟩ = false := by
  unfold BoxV Obj.vec at h; simp [World.frozen?, h]
theorem Keep.vc {s : Vc} (K : Keep w0 l w) (h : (b, Obj.vec t s) ∈ l) : BoxV t w b s := K.box _ h
theorem BoxV.cell0 {s : Vc} (h : BoxV t w b s) : w.cell? ⟨b, 0, none⟩ = some (.int .i64 s.x.lo) := by
  unfold BoxV Obj.vec at h; simp [World.cell?, h]
theorem Keep.av0 {s : Vc} (K : Hid (Keep w0 l w)) (m : (b, Obj.vec t s) ∈ l) (p : At (Keep w0 l)) : p.w.cell? ⟨b, 0, none⟩ = some (.int .i64 s.x.lo) := (p.h.vc m).cell0
theorem BoxV.cell1 {s : Vc} (h : BoxV t w b s) : w.cell? ⟨b, 1, none⟩ = some (.int .i64 s.x.hi) := by
  unfold BoxV Obj.vec at h; simp [World.cell?, h]
theorem Keep.av1 {s : Vc} (K : Hid (Keep w0 l w)) (m : (b, Obj.vec t s) ∈ l) (p : At (Keep w0 l)) : p.w.cell? ⟨b, 1, none⟩ = some (.int .i64 s.x.hi) := (p.h.vc m).cell1
theorem BoxV.cell2 {s : Vc} (h : BoxV t w b s) : w.cell? ⟨b, 2, none⟩ = some (.bool s.x.all) := by
  unfold BoxV Obj.vec at h; simp [World.cell?, h]
theorem Keep.av2 {s : Vc} (K : Hid (Keep w0 l w)) (m : (b, Obj.vec t s) ∈ l) (p : At (Keep w0 l)) : p.w.cell? ⟨b, 2, none⟩ = some (.bool s.x.all) := (p.h.vc m).cell2
theorem BoxV.cell3 {s : Vc} (h : BoxV t w b s) : w.cell? ⟨b, 3, none⟩ = some (.int .i64 s.y.lo) := by
  unfold BoxV Obj.vec at h; simp [World.cell?, h]
theorem Keep.av3 {s : Vc} (K : Hid (Keep w0 l w)) (m : (b, Obj.vec t s) ∈ l) (p : At (Keep w0 l)) : p.w.cell? ⟨b, 3, none⟩ = some (.int .i64 s.y.lo) := (p.h.vc m).cell3
theorem BoxV.cell4 {s : Vc} (h : BoxV t w b s) : w.cell? ⟨b, 4, none⟩ = some (.int .i64 s.y.hi) := by
  unfold BoxV Obj.vec at h; simp [World.cell?, h]
theorem Keep.av4 {s : Vc} (K : Hid (Keep w0 l w)) (m : (b, Obj.vec t s) ∈ l) (p : At (Keep w0 l)) : p.w.cell? ⟨b, 4, none⟩ = some (.int .i64 s.y.hi) := (p.h.vc m).cell4
theorem BoxV.cell5 {s : Vc} (h : BoxV t w b s) : w.cell? ⟨b, 5, none⟩ = some (.bool s.y.all) := by
  unfold BoxV Obj.vec at h; simp [World.cell?, h]
theorem Keep.av5 {s : Vc} (K : Hid (Keep w0 l w)) (m : (b, Obj.vec t s) ∈ l) (p : At (Keep w0 l)) : p.w.cell? ⟨b, 5, none⟩ = some (.bool s.y.all) := (p.h.vc m).cell5
theorem BoxV.cell6 {s : Vc} (h : BoxV t w b s) : w.cell? ⟨b, 6, none⟩ = some (.int .i64 s.z.lo) := by
  unfold BoxV Obj.vec at h; simp [World.cell?, h]
theorem Keep.av6 {s : Vc} (K : Hid (Keep w0 l w)) (m : (b, Obj.vec t s) ∈ l) (p : At (Keep w0 l)) : p.w.cell? ⟨b, 6, none⟩ = some (.int .i64 s.z.lo) := (p.h.vc m).cell6
theorem BoxV.cell7 {s : Vc} (h : BoxV t w b s) : w.cell? ⟨b, 7, none⟩ = some (.int .i64 s.z.hi) := by
  unfold BoxV Obj.vec at h; simp [World.cell?, h]
theorem Keep.av7 {s : Vc} (K : Hid (Keep w0 l w)) (m : (b, Obj.vec t s) ∈ l) (p : At (Keep w0 l)) : p.w.cell? ⟨b, 7, none⟩ = some (.int .i64 s.z.hi) := (p.h.vc m).cell7
theorem BoxV.cell8 {s : Vc} (h : BoxV t w b s) : w.cell? ⟨b, 8, none⟩ = some (.bool s.z.all) := by
  unfold BoxV Obj.vec at h; simp [World.cell?, h]
theorem Keep.av8 {s : Vc} (K : Hid (Keep w0 l w)) (m : (b, Obj.vec t s) ∈ l) (p : At (Keep w0 l)) : p.w.cell? ⟨b, 8, none⟩ = some (.bool s.z.all) := (p.h.vc m).cell8
set_option maxRecDepth 10000 in
theorem Keep.putv {s : Vc} (l1 : List (Nat × Obj)) (K : Keep w0 (l1 ++ (b, Obj.vec t s) :: l2) w) (u : Vc) : Keep w0 (l1 ++ (b, Obj.vec t u) :: l2) (((((((((w.setCell ⟨b, 0, none⟩ (.int .i64 u.x.lo)).setCell ⟨b, 1, none⟩ (.int .i64 u.x.hi)).setCell ⟨b, 2, none⟩ (.bool u.x.all)).setCell ⟨b, 3, none⟩ (.int .i64 u.y.lo)).setCell ⟨b, 4, none⟩ (.int .i64 u.y.hi)).setCell ⟨b, 5, none⟩ (.bool u.y.all)).setCell ⟨b, 6, none⟩ (.int .i64 u.z.lo)).setCell ⟨b, 7, none⟩ (.int .i64 u.z.hi)).setCell ⟨b, 8, none⟩ (.bool u.z.all)) := by
  have := (((((((((K.set l1 0 (.int .i64 u.x.lo)).set l1 1 (.int .i64 u.x.hi)).set l1 2 (.bool u.x.all)).set l1 3 (.int .i64 u.y.lo)).set l1 4 (.int .i64 u.y.hi)).set l1 5 (.bool u.y.all)).set l1 6 (.int .i64 u.z.lo)).set l1 7 (.int .i64 u.z.hi)).set l1 8 (.bool u.z.all))
  simp at this
  exact this
theorem Keep.puti0 {s : Vc} (l1 : List (Nat × Obj)) (K : Keep w0 (l1 ++ (b, Obj.vec t s) :: l2) w) (u : Sp) : Keep w0 (l1 ++ (b, Obj.vec t ⟨u, s.y, s.z⟩) :: l2) (((w.setCell ⟨b, 0, none⟩ (.int .i64 u.lo)).setCell ⟨b, 1, none⟩ (.int .i64 u.hi)).setCell ⟨b, 2, none⟩ (.bool u.all)) := by
  have := (((K.set l1 0 (.int .i64 u.lo)).set l1 1 (.int .i64 u.hi)).set l1 2 (.bool u.all))
  simp at this
  exact this
theorem Keep.puti1 {s : Vc} (l1 : List (Nat × Obj)) (K : Keep w0 (l1 ++ (b, Obj.vec t s) :: l2) w) (u : Sp) : Keep w0 (l1 ++ (b, Obj.vec t ⟨s.x, u, s.z⟩) :: l2) (((w.setCell ⟨b, 3, none⟩ (.int .i64 u.lo)).setCell ⟨b, 4, none⟩ (.int .i64 u.hi)).setCell ⟨b, 5, none⟩ (.bool u.all)) := by
  have := (((K.set l1 3 (.int .i64 u.lo)).set l1 4 (.int .i64 u.hi)).set l1 5 (.bool u.all))
  simp at this
  exact this
theorem Keep.puti2 {s : Vc} (l1 : List (Nat × Obj)) (K : Keep w0 (l1 ++ (b, Obj.vec t s) :: l2) w) (u : Sp) : Keep w0 (l1 ++ (b, Obj.vec t ⟨s.x, s.y, u⟩) :: l2) (((w.setCell ⟨b, 6, none⟩ (.int .i64 u.lo)).setCell ⟨b, 7, none⟩ (.int .i64 u.hi)).setCell ⟨b, 8, none⟩ (.bool u.all)) := by
  have := (((K.set l1 6 (.int .i64 u.lo)).set l1 7 (.int .i64 u.hi)).set l1 8 (.bool u.all))
  simp at this
  exact this
theorem Keep.putv_0 {s : Vc} (K : Keep w0 ((b, Obj.vec t s) :: l2) w) (u : Vc) : Keep w0 ((b, Obj.vec t u) :: l2) (((((((((w.setCell ⟨b, 0, none⟩ (.int .i64 u.x.lo)).setCell ⟨b, 1, none⟩ (.int .i64 u.x.hi)).setCell ⟨b, 2, none⟩ (.bool u.x.all)).setCell ⟨b, 3, none⟩ (.int .i64 u.y.lo)).setCell ⟨b, 4, none⟩ (.int .i64 u.y.hi)).setCell ⟨b, 5, none⟩ (.bool u.y.all)).setCell ⟨b, 6, none⟩ (.int .i64 u.z.lo)).setCell ⟨b, 7, none⟩ (.int .i64 u.z.hi)).setCell ⟨b, 8, none⟩ (.bool u.z.all)) := K.putv [] u
theorem Keep.puti0_0 {s : Vc} (K : Keep w0 ((b, Obj.vec t s) :: l2) w) (u : Sp) : Keep w0 ((b, Obj.vec t ⟨u, s.y, s.z⟩) :: l2) (((w.setCell ⟨b, 0, none⟩ (.int .i64 u.lo)).setCell ⟨b, 1, none⟩ (.int .i64 u.hi)).setCell ⟨b, 2, none⟩ (.bool u.all)) := K.puti0 [] u
theorem Keep.puti1_0 {s : Vc} (K : Keep w0 ((b, Obj.vec t s) :: l2) w) (u : Sp) : Keep w0 ((b, Obj.vec t ⟨s.x, u, s.z⟩) :: l2) (((w.setCell ⟨b, 3, none⟩ (.int .i64 u.lo)).setCell ⟨b, 4, none⟩ (.int .i64 u.hi)).setCell ⟨b, 5, none⟩ (.bool u.all)) := K.puti1 [] u
theorem Keep.puti2_0 {s : Vc} (K : Keep w0 ((b, Obj.vec t s) :: l2) w) (u : Sp) : Keep w0 ((b, Obj.vec t ⟨s.x, s.y, u⟩) :: l2) (((w.setCell ⟨b, 6, none⟩ (.int .i64 u.lo)).setCell ⟨b, 7, none⟩ (.int .i64 u.hi)).setCell ⟨b, 8, none⟩ (.bool u.all)) := K.puti2 [] u
theorem Keep.putv_1 {s : Vc} {p0 : Nat × Obj} (K : Keep w0 (p0 :: (b, Obj.vec t s) :: l2) w) (u : Vc) : Keep w0 (p0 :: (b, Obj.vec t u) :: l2) (((((((((w.setCell ⟨b, 0, none⟩ (.int .i64 u.x.lo)).setCell ⟨b, 1, none⟩ (.int .i64 u.x.hi)).setCell ⟨b, 2, none⟩ (.bool u.x.all)).setCell ⟨b, 3, none⟩ (.int .i64 u.y.lo)).setCell ⟨b, 4, none⟩ (.int .i64 u.y.hi)).setCell ⟨b, 5, none⟩ (.bool u.y.all)).setCell ⟨b, 6, none⟩ (.int .i64 u.z.lo)).setCell ⟨b, 7, none⟩ (.int .i64 u.z.hi)).setCell ⟨b, 8, none⟩ (.bool u.z.all)) := K.putv [p0] u
theorem Keep.puti0_1 {s : Vc} {p0 : Nat × Obj} (K : Keep w0 (p0 :: (b, Obj.vec t s) :: l2) w) (u : Sp) : Keep w0 (p0 :: (b, Obj.vec t ⟨u, s.y, s.z⟩) :: l2) (((w.setCell ⟨b, 0, none⟩ (.int .i64 u.lo)).setCell ⟨b, 1, none⟩ (.int .i64 u.hi)).setCell ⟨b, 2, none⟩ (.bool u.all)) := K.puti0 [p0] u
theorem Keep.puti1_1 {s : Vc} {p0 : Nat × Obj} (K : Keep w0 (p0 :: (b, Obj.vec t s) :: l2) w) (u : Sp) : Keep w0 (p0 :: (b, Obj.vec t ⟨s.x, u, s.z⟩) :: l2) (((w.setCell ⟨b, 3, none⟩ (.int .i64 u.lo)).setCell ⟨b, 4, none⟩ (.int .i64 u.hi)).setCell ⟨b, 5, none⟩ (.bool u.all)) := K.puti1 [p0] u
theorem Keep.puti2_1 {s : Vc} {p0 : Nat × Obj} (K : Keep w0 (p0 :: (b, Obj.vec t s) :: l2) w) (u : Sp) : Keep w0 (p0 :: (b, Obj.vec t ⟨s.x, s.y, u⟩) :: l2) (((w.setCell ⟨b, 6, none⟩ (.int .i64 u.lo)).setCell ⟨b, 7, none⟩ (.int .i64 u.hi)).setCell ⟨b, 8, none⟩ (.bool u.all)) := K.puti2 [p0] u
theorem Keep.putv_2 {s : Vc} {p0 p1 : Nat × Obj} (K : Keep w0 (p0 :: p1 :: (b, Obj.vec t s) :: l2) w) (u : Vc) : Keep w0 (p0 :: p1 :: (b, Obj.vec t u) :: l2) (((((((((w.setCell ⟨b, 0, none⟩ (.int .i64 u.x.lo)).setCell ⟨b, 1, none⟩ (.int .i64 u.x.hi)).setCell ⟨b, 2, none⟩ (.bool u.x.all)).setCell ⟨b, 3, none⟩ (.int .i64 u.y.lo)).setCell ⟨b, 4, none⟩ (.int .i64 u.y.hi)).setCell ⟨b, 5, none⟩ (.bool u.y.all)).setCell ⟨b, 6, none⟩ (.int .i64 u.z.lo)).setCell ⟨b, 7, none⟩ (.int .i64 u.z.hi)).setCell ⟨b, 8, none⟩ (.bool u.z.all)) := K.putv [p0, p1] u
theorem Keep.puti0_2 {s : Vc} {p0 p1 : Nat × Obj} (K : Keep w0 (p0 :: p1 :: (b, Obj.vec t s) :: l2) w) (u : Sp) : Keep w0 (p0 :: p1 :: (b, Obj.vec t ⟨u, s.y, s.z⟩) :: l2) (((w.setCell ⟨b, 0, none⟩ (.int .i64 u.lo)).setCell ⟨b, 1, none⟩ (.int .i64 u.hi)).setCell ⟨b, 2, none⟩ (.bool u.all)) := K.puti0 [p0, p1] u
theorem Keep.puti1_2 {s : Vc} {p0 p1 : Nat × Obj} (K : Keep w0 (p0 :: p1 :: (b, Obj.vec t s) :: l2) w) (u : Sp) : Keep w0 (p0 :: p1 :: (b, Obj.vec t ⟨s.x, u, s.z⟩) :: l2) (((w.setCell ⟨b, 3, none⟩ (.int .i64 u.lo)).setCell ⟨b, 4, none⟩ (.int .i64 u.hi)).setCell ⟨b, 5, none⟩ (.bool u.all)) := K.puti1 [p0, p1] u
theorem Keep.puti2_2 {s : Vc} {p0 p1 : Nat × Obj} (K : Keep w0 (p0 :: p1 :: (b, Obj.vec t s) :: l2) w) (u : Sp) : Keep w0 (p0 :: p1 :: (b, Obj.vec t ⟨s.x, s.y, u⟩) :: l2) (((w.setCell ⟨b, 6, none⟩ (.int .i64 u.lo)).setCell ⟨b, 7, none⟩ (.int .i64 u.hi)).setCell ⟨b, 8, none⟩ (.bool u.all)) := K.puti2 [p0, p1] u
theorem Keep.putv_3 {s : Vc} {p0 p1 p2 : Nat × Obj} (K : Keep w0 (p0 :: p1 :: p2 :: (b, Obj.vec t s) :: l2) w) (u : Vc) : Keep w0 (p0 :: p1 :: p2 :: (b, Obj.vec t u) :: l2) (((((((((w.setCell ⟨b, 0, none⟩ (.int .i64 u.x.lo)).setCell ⟨b, 1, none⟩ (.int .i64 u.x.hi)).setCell ⟨b, 2, none⟩ (.bool u.x.all)).setCell ⟨b, 3, none⟩ (.int .i64 u.y.lo)).setCell ⟨b, 4, none⟩ (.int .i64 u.y.hi)).setCell ⟨b, 5, none⟩ (.bool u.y.all)).setCell ⟨b, 6, none⟩ (.int .i64 u.z.lo)).setCell ⟨b, 7, none⟩ (.int .i64 u.z.hi)).setCell ⟨b, 8, none⟩ (.bool u.z.all)) := K.putv [p0, p1, p2] u
theorem Keep.puti0_3 {s : Vc} {p0 p1 p2 : Nat × Obj} (K : Keep w0 (p0 :: p1 :: p2 :: (b, Obj.vec t s) :: l2) w) (u : Sp) : Keep w0 (p0 :: p1 :: p2 :: (b, Obj.vec t ⟨u, s.y, s.z⟩) :: l2) (((w.setCell ⟨b, 0, none⟩ (.int .i64 u.lo)).setCell ⟨b, 1, none⟩ (.int .i64 u.hi)).setCell ⟨b, 2, none⟩ (.bool u.all)) := K.puti0 [p0, p1, p2] u
theorem Keep.puti1_3 {s : Vc} {p0 p1 p2 : Nat × Obj} (K : Keep w0 (p0 :: p1 :: p2 :: (b, Obj.vec t s) :: l2) w) (u : Sp) : Keep w0 (p0 :: p1 :: p2 :: (b, Obj.vec t ⟨s.x, u, s.z⟩) :: l2) (((w.setCell ⟨b, 3, none⟩ (.int .i64 u.lo)).setCell ⟨b, 4, none⟩ (.int .i64 u.hi)).setCell ⟨b, 5, none⟩ (.bool u.all)) := K.puti1 [p0, p1, p2] u
theorem Keep.puti2_3 {s : Vc} {p0 p1 p2 : Nat × Obj} (K : Keep w0 (p0 :: p1 :: p2 :: (b, Obj.vec t s) :: l2) w) (u : Sp) : Keep w0 (p0 :: p1 :: p2 :: (b, Obj.vec t ⟨s.x, s.y, u⟩) :: l2) (((w.setCell ⟨b, 6, none⟩ (.int .i64 u.lo)).setCell ⟨b, 7, none⟩ (.int .i64 u.hi)).setCell ⟨b, 8, none⟩ (.bool u.all)) := K.puti2 [p0, p1, p2] u
theorem Keep.putv_4 {s : Vc} {p0 p1 p2 p3 : Nat × Obj} (K : Keep w0 (p0 :: p1 :: p2 :: p3 :: (b, Obj.vec t s) :: l2) w) (u : Vc) : Keep w0 (p0 :: p1 :: p2 :: p3 :: (b, Obj.vec t u) :: l2) (((((((((w.setCell ⟨b, 0, none⟩ (.int .i64 u.x.lo)).setCell ⟨b, 1, none⟩ (.int .i64 u.x.hi)).setCell ⟨b, 2, none⟩ (.bool u.x.all)).setCell ⟨b, 3, none⟩ (.int .i64 u.y.lo)).setCell ⟨b, 4, none⟩ (.int .i64 u.y.hi)).setCell ⟨b, 5, none⟩ (.bool u.y.all)).setCell ⟨b, 6, none⟩ (.int .i64 u.z.lo)).setCell ⟨b, 7, none⟩ (.int .i64 u.z.hi)).setCell ⟨b, 8, none⟩ (.bool u.z.all)) := K.putv [p0, p1, p2, p3] u
theorem Keep.puti0_4 {s : Vc} {p0 p1 p2 p3 : Nat × Obj} (K : Keep w0 (p0 :: p1 :: p2 :: p3 :: (b, Obj.vec t s) :: l2) w) (u : Sp) : Keep w0 (p0 :: p1 :: p2 :: p3 :: (b, Obj.vec t ⟨u, s.y, s.z⟩) :: l2) (((w.setCell ⟨b, 0, none⟩ (.int .i64 u.lo)).setCell ⟨b, 1, none⟩ (.int .i64 u.hi)).setCell ⟨b, 2, none⟩ (.bool u.all)) := K.puti0 [p0, p1, p2, p3] u
theorem Keep.puti1_4 {s : Vc} {p0 p1 p2 p3 : Nat × Obj} (K : Keep w0 (p0 :: p1 :: p2 :: p3 :: (b, Obj.vec t s) :: l2) w) (u : Sp) : Keep w0 (p0 :: p1 :: p2 :: p3 :: (b, Obj.vec t ⟨s.x, u, s.z⟩) :: l2) (((w.setCell ⟨b, 3, none⟩ (.int .i64 u.lo)).setCell ⟨b, 4, none⟩ (.int .i64 u.hi)).setCell ⟨b, 5, none⟩ (.bool u.all)) := K.puti1 [p0, p1, p2, p3] u
theorem Keep.puti2_4 {s : Vc} {p0 p1 p2 p3 : Nat × Obj} (K : Keep w0 (p0 :: p1 :: p2 :: p3 :: (b, Obj.vec t s) :: l2) w) (u : Sp) : Keep w0 (p0 :: p1 :: p2 :: p3 :: (b, Obj.vec t ⟨s.x, s.y, u⟩) :: l2) (((w.setCell ⟨b, 6, none⟩ (.int .i64 u.lo)).setCell ⟨b, 7, none⟩ (.int .i64 u.hi)).setCell ⟨b, 8, none⟩ (.bool u.all)) := K.puti2 [p0, p1, p2, p3] u
theorem ret_vc {fn : Func} {p g : Nat} {tmps : Array Value} {w : World} {s : Vc} {R : Ending → World → Prop} (h : fn.results = #[.cell p 25]) (hp : tmps.getD p undef = .pointer (some ⟨g, 0, none⟩)) (hb : BoxV 25 w g s) (hR : R (.returned s.v) w) : bodyPost Try.prog fn R .ret { tmps := tmps, defers := [] } w :=
  bodyPost_ret (v := s.v) (results_cell_row h tmps w g 25 _ _ _ hp hb Try.underlying25 rfl (by kernel_rfl)) rfl hR
theorem ret_rv {fn : Func} {p g : Nat} {tmps : Array Value} {w : World} {s : Vc} {R : Ending → World → Prop} (h : fn.results = #[.cell p 36]) (hp : tmps.getD p undef = .pointer (some ⟨g, 0, none⟩)) (hb : BoxV 36 w g s) (hR : R (.returned s.v) w) : bodyPost Try.prog fn R .ret { tmps := tmps, defers := [] } w :=
  bodyPost_ret (v := s.v) (results_cell_row h tmps w g 36 _ _ _ hp hb Try.underlying36 rfl (by kernel_rfl)) rfl hR

def vz : Sp := ⟨0, 0, false⟩
end Go.Proofs.Ytehjfjdopeadfaa
