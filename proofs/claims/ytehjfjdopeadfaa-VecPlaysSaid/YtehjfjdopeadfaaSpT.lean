/- One, two, three spans in boxes of a call's own, and that what was there before is as it was: kept by calls that only lay blocks. -/
import Derived.Test.YtehjfjdopeadfaaSpW2
import Derived.Test.YtehjfjdopeadfaaSpQ
set_option linter.unusedVariables false
set_option linter.unusedSimpArgs false
namespace Go.Proofs.Ytehjfjdopeadfaa
open Go.RowKit SpMath

structure One (w0 : World) (x : Sp) (w : World) : Prop where
  X : BoxS w w0.heap.size x
  B : Below w0.heap.size w0 w
structure Two (w0 : World) (x y : Sp) (w : World) : Prop where
  X : BoxS w w0.heap.size x
  Y : BoxS w (w0.heap.size + 1) y
  B : Below w0.heap.size w0 w
structure Three (w0 : World) (x y z : Sp) (w : World) : Prop where
  X : BoxS w w0.heap.size x
  Y : BoxS w (w0.heap.size + 1) y
  Z : BoxS w (w0.heap.size + 1 + 1) z
  B : Below w0.heap.size w0 w

/-- What is true of a world stays so where blocks are laid. -/
def Stays (I : World → Prop) : Prop := ∀ w w', I w → Below w.heap.size w w' → I w'

theorem Below.onto {w0 w w' : World} (h : Below w0.heap.size w0 w) (k : Below w.heap.size w w') : Below w0.heap.size w0 w' := below_then h h.size k

theorem One.stays {w0 : World} {x : Sp} : Stays (One w0 x) := fun _ _ h k => ⟨h.X.below k rfl, Below.onto h.B k⟩
theorem Two.stays {w0 : World} {x y : Sp} : Stays (Two w0 x y) := fun _ _ h k => ⟨h.X.below k rfl, h.Y.below k rfl, Below.onto h.B k⟩
theorem Three.stays {w0 : World} {x y z : Sp} : Stays (Three w0 x y z) := fun _ _ h k => ⟨h.X.below k rfl, h.Y.below k rfl, h.Z.below k rfl, Below.onto h.B k⟩

theorem One.begin (w : World) (x : Sp) : One w x (w.alloc (Obj.box x)) := ⟨(one_box w x).1, (one_box w x).2⟩
theorem Two.begin (w : World) (x y : Sp) : Two w x y ((w.alloc (Obj.box x)).alloc (Obj.box y)) := ⟨(two_boxes w x y).1, (two_boxes w x y).2.1, (two_boxes w x y).2.2⟩
theorem Three.begin (w : World) (x y z : Sp) : Three w x y z (((w.alloc (Obj.box x)).alloc (Obj.box y)).alloc (Obj.box z)) :=
  ⟨(three_boxes w x y z).1, (three_boxes w x y z).2.1, (three_boxes w x y z).2.2.1, (three_boxes w x y z).2.2.2⟩

/-- A world as it is but for how often the tape was asked, and the same heap. -/
theorem Stays.alike {I : World → Prop} (h : Stays I) {w w' : World} (hw : I w) (e1 : w'.os = w.os) (e2 : w'.tape = w.tape) (e3 : w'.output = w.output) (e4 : w'.heap = w.heap) : I w' :=
  h w w' hw ⟨e1, e2, e3, by rw [e4]; exact Nat.le_refl _, fun k _ => by rw [e4]⟩
theorem Stays.drew {I : World → Prop} (h : Stays I) {w : World} (hw : I w) : I { w with drawn := w.drawn + 1 } := h.alike hw rfl rfl rfl rfl

/-- A call that lays blocks, at a place that draws. -/
theorem At.call {P : Program} {I : World → Prop} (hS : Stays I) {f : FuncId} {args : Array Value} {v : Value} {p : At I} (h : Calls P f args p.w fun e w' => e = .returned v ∧ Below p.w.heap.size p.w w') :
    Calls P f args p.w fun e w'' => e = .returned v ∧ Cls I w'' :=
  h.mono fun _ w'' ⟨he, hb⟩ => ⟨he, ⟨w'', hS _ _ p.h hb⟩, rfl⟩
/-- A call that leaves the world. -/
theorem At.same {P : Program} {I : World → Prop} {f : FuncId} {args : Array Value} {v : Value} {p : At I} (h : Calls P f args p.w fun e w' => e = .returned v ∧ p.w = w') :
    Calls P f args p.w fun e w'' => e = .returned v ∧ Cls I w'' :=
  h.mono fun _ w'' ⟨he, hb⟩ => ⟨he, p, hb.symm⟩

/-- A box's cells in each world of the class. -/
theorem At.cell0 {I : World → Prop} {b : Nat} {s : Sp} (h : ∀ w, I w → BoxS w b s) (p : At I) : p.w.cell? ⟨b, 0, none⟩ = some (.int .i64 s.lo) := (h _ p.h).cell0
theorem At.cell1 {I : World → Prop} {b : Nat} {s : Sp} (h : ∀ w, I w → BoxS w b s) (p : At I) : p.w.cell? ⟨b, 1, none⟩ = some (.int .i64 s.hi) := (h _ p.h).cell1
theorem At.cell2 {I : World → Prop} {b : Nat} {s : Sp} (h : ∀ w, I w → BoxS w b s) (p : At I) : p.w.cell? ⟨b, 2, none⟩ = some (.bool s.all) := (h _ p.h).cell2

/-- Both of them stored anew. -/
theorem Two.puts {w0 : World} {x y : Sp} {w : World} (h : Two w0 x y w) (s t : Sp) :
    Two w0 s t ((((((w.setCell ⟨w0.heap.size, 0, none⟩ (.int .i64 s.lo)).setCell ⟨w0.heap.size, 1, none⟩ (.int .i64 s.hi)).setCell ⟨w0.heap.size, 2, none⟩ (.bool s.all)).setCell ⟨w0.heap.size + 1, 0, none⟩ (.int .i64 t.lo)).setCell ⟨w0.heap.size + 1, 1, none⟩ (.int .i64 t.hi)).setCell ⟨w0.heap.size + 1, 2, none⟩ (.bool t.all)) :=
  ⟨BoxS.others (BoxS.put h.X s) (by omega) _ _ _, BoxS.put (BoxS.others h.Y (by omega) _ _ _) t, below_put (below_put h.B (by omega) _ _ _) (by omega) _ _ _⟩
theorem Three.puts {w0 : World} {x y z : Sp} {w : World} (h : Three w0 x y z w) (s t : Sp) :
    Three w0 s t z ((((((w.setCell ⟨w0.heap.size, 0, none⟩ (.int .i64 s.lo)).setCell ⟨w0.heap.size, 1, none⟩ (.int .i64 s.hi)).setCell ⟨w0.heap.size, 2, none⟩ (.bool s.all)).setCell ⟨w0.heap.size + 1, 0, none⟩ (.int .i64 t.lo)).setCell ⟨w0.heap.size + 1, 1, none⟩ (.int .i64 t.hi)).setCell ⟨w0.heap.size + 1, 2, none⟩ (.bool t.all)) :=
  ⟨BoxS.others (BoxS.put h.X s) (by omega) _ _ _, BoxS.put (BoxS.others h.Y (by omega) _ _ _) t, BoxS.others (BoxS.others h.Z (by omega) _ _ _) (by omega) _ _ _, below_put (below_put h.B (by omega) _ _ _) (by omega) _ _ _⟩
/-- The last one stored: the result. -/
theorem Three.put {w0 : World} {x y z : Sp} {w : World} (h : Three w0 x y z w) (t : Sp) :
    Three w0 x y t (((w.setCell ⟨w0.heap.size + 1 + 1, 0, none⟩ (.int .i64 t.lo)).setCell ⟨w0.heap.size + 1 + 1, 1, none⟩ (.int .i64 t.hi)).setCell ⟨w0.heap.size + 1 + 1, 2, none⟩ (.bool t.all)) :=
  ⟨BoxS.others h.X (by omega) _ _ _, BoxS.others h.Y (by omega) _ _ _, BoxS.put h.Z t, below_put h.B (by omega) _ _ _⟩
end Go.Proofs.Ytehjfjdopeadfaa
