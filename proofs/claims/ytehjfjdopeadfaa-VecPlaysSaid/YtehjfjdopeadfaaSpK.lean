/- Blocks of a call's own, as a list; what was there before is as it was: kept by calls that only lay blocks. -/
import Derived.Test.YtehjfjdopeadfaaSpT
import Derived.Deep.Cut
set_option linter.unusedVariables false
set_option linter.unusedSimpArgs false
namespace Go.Proofs.Ytehjfjdopeadfaa
open Go.RowKit SpMath

structure Keep (w0 : World) (l : List (Nat × Obj)) (w : World) : Prop where
  box : ∀ p ∈ l, w.heap[p.1]? = some p.2
  own : ∀ p ∈ l, w0.heap.size ≤ p.1
  one : (l.map Prod.fst).Nodup
  B : Below w0.heap.size w0 w

variable {w0 w w' : World} {l l1 l2 : List (Nat × Obj)}

theorem Keep.lt (K : Keep w0 l w) {p : Nat × Obj} (h : p ∈ l) : p.1 < w.heap.size := (Array.getElem?_eq_some_iff.1 (K.box p h)).1

theorem Keep.start (w : World) : Keep w [] w := ⟨fun _ h => (by cases h), fun _ h => (by cases h), List.nodup_nil, Below.refl _ _⟩

theorem Keep.stays : Stays (Keep w0 l) := fun w w' K hb =>
  ⟨fun p h => by rw [hb.block p.1 (K.lt h)]; exact K.box p h, K.own, K.one, Below.onto K.B hb⟩

theorem Keep.drew (K : Keep w0 l w) : Keep w0 l { w with drawn := w.drawn + 1 } := Keep.stays.drew K

theorem Keep.alloc (K : Keep w0 l w) (o : Obj) : Keep w0 ((w.heap.size, o) :: l) (w.alloc o) := by
  refine ⟨fun p h => ?_, fun p h => ?_, ?_, K.B.alloc K.B.size _⟩
  · rcases List.mem_cons.1 h with rfl | h
    · show (w.heap.push o)[w.heap.size]? = some o; exact Array.getElem?_push_size
    · rw [Below.heap_alloc _ _ _ (K.lt h)]; exact K.box p h
  · rcases List.mem_cons.1 h with rfl | h
    · exact K.B.size
    · exact K.own p h
  · rw [List.map_cons, List.nodup_cons]
    refine ⟨fun h => ?_, K.one⟩
    obtain ⟨p, hp, e⟩ := List.mem_map.1 h
    have := K.lt hp
    omega

/-- One block turned. -/
theorem Keep.turn {b : Nat} {o o' : Obj} (K : Keep w0 (l1 ++ (b, o) :: l2) w) (hb : Below b w w') (hs : w'.heap[b]? = some o') (ho : ∀ k, k ≠ b → w'.heap[k]? = w.heap[k]?) : Keep w0 (l1 ++ (b, o') :: l2) w' := by
  have hn : ((l1.map Prod.fst) ++ b :: (l2.map Prod.fst)).Nodup := by have := K.one; simpa using this
  have hne : ∀ p, p ∈ l1 ∨ p ∈ l2 → p.1 ≠ b := by
    intro p hp e
    rw [List.nodup_append] at hn
    obtain ⟨_, h2, h3⟩ := hn
    rcases hp with hp | hp
    · exact h3 p.1 (List.mem_map_of_mem hp) b (List.mem_cons_self) e
    · exact (List.nodup_cons.1 h2).1 (e ▸ List.mem_map_of_mem hp)
  have hob : w0.heap.size ≤ b := K.own (b, o) (by simp)
  refine ⟨fun p h => ?_, fun p h => ?_, by simpa using hn, ⟨hb.os.trans K.B.os, hb.tape.trans K.B.tape, hb.output.trans K.B.output, Nat.le_trans K.B.size hb.size, fun k hk => (hb.block k (by omega)).trans (K.B.block k hk)⟩⟩
  · rcases List.mem_append.1 h with h | h
    · rw [ho _ (hne p (.inl h))]; exact K.box p (by simp [h])
    · rcases List.mem_cons.1 h with rfl | h
      · exact hs
      · rw [ho _ (hne p (.inr h))]; exact K.box p (by simp [h])
  · rcases List.mem_append.1 h with h | h
    · exact K.own p (by simp [h])
    · rcases List.mem_cons.1 h with rfl | h
      · exact hob
      · exact K.own p (by simp [h])

theorem setCell_block (w : World) (b k : Nat) (v : Value) (vs : Array Value) (t : TypeId) (h : w.heap[b]? = some (.cells vs t)) : (w.setCell ⟨b, k, none⟩ v).heap[b]? = some (.cells (vs.setIfInBounds k v) t) := by
  simp [World.setCell, Array.getElem?_modify, h]

/-- A cell of a block stored. -/
theorem Keep.set {b : Nat} {vs : Array Value} {t : TypeId} (l1 : List (Nat × Obj)) (K : Keep w0 (l1 ++ (b, .cells vs t) :: l2) w) (k : Nat) (v : Value) : Keep w0 (l1 ++ (b, .cells (vs.setIfInBounds k v) t) :: l2) (w.setCell ⟨b, k, none⟩ v) := by
  have hw := K.box (b, .cells vs t) (by simp)
  refine K.turn ?_ (setCell_block w b k v vs t hw) (fun j hj => Below.heap_setCell _ _ _ _ hj)
  exact (Below.refl b w).setCell (p := ⟨b, k, none⟩) (Nat.le_refl _) v

def Obj.ref (s : Sp) : Obj := .cells #[.int .i64 s.lo, .int .i64 s.hi, .bool s.all] 34

theorem Keep.put3 {b : Nat} {a0 a1 a2 : Value} {t : TypeId} (l1 : List (Nat × Obj)) (K : Keep w0 (l1 ++ (b, .cells #[a0, a1, a2] t) :: l2) w) (u0 u1 u2 : Value) :
    Keep w0 (l1 ++ (b, .cells #[u0, u1, u2] t) :: l2) (((w.setCell ⟨b, 0, none⟩ u0).setCell ⟨b, 1, none⟩ u1).setCell ⟨b, 2, none⟩ u2) := by
  have := ((K.set l1 0 u0).set l1 1 u1).set l1 2 u2
  simpa using this

theorem Keep.put {b : Nat} {s : Sp} (l1 : List (Nat × Obj)) (K : Keep w0 (l1 ++ (b, Obj.box s) :: l2) w) (t : Sp) :
    Keep w0 (l1 ++ (b, Obj.box t) :: l2) (((w.setCell ⟨b, 0, none⟩ (.int .i64 t.lo)).setCell ⟨b, 1, none⟩ (.int .i64 t.hi)).setCell ⟨b, 2, none⟩ (.bool t.all)) := K.put3 l1 _ _ _
theorem Keep.putr {b : Nat} {s : Sp} (l1 : List (Nat × Obj)) (K : Keep w0 (l1 ++ (b, Obj.ref s) :: l2) w) (t : Sp) :
    Keep w0 (l1 ++ (b, Obj.ref t) :: l2) (((w.setCell ⟨b, 0, none⟩ (.int .i64 t.lo)).setCell ⟨b, 1, none⟩ (.int .i64 t.hi)).setCell ⟨b, 2, none⟩ (.bool t.all)) := K.put3 l1 _ _ _

theorem Keep.put_0 {b : Nat} {s : Sp} (K : Keep w0 ((b, Obj.box s) :: l2) w) (t : Sp) : Keep w0 ((b, Obj.box t) :: l2) (((w.setCell ⟨b, 0, none⟩ (.int .i64 t.lo)).setCell ⟨b, 1, none⟩ (.int .i64 t.hi)).setCell ⟨b, 2, none⟩ (.bool t.all)) := K.put [] t
theorem Keep.putr_0 {b : Nat} {s : Sp} (K : Keep w0 ((b, Obj.ref s) :: l2) w) (t : Sp) : Keep w0 ((b, Obj.ref t) :: l2) (((w.setCell ⟨b, 0, none⟩ (.int .i64 t.lo)).setCell ⟨b, 1, none⟩ (.int .i64 t.hi)).setCell ⟨b, 2, none⟩ (.bool t.all)) := K.putr [] t
theorem Keep.set_0 {b : Nat} {vs : Array Value} {t : TypeId} (K : Keep w0 ((b, .cells vs t) :: l2) w) (k : Nat) (v : Value) : Keep w0 ((b, .cells (vs.setIfInBounds k v) t) :: l2) (w.setCell ⟨b, k, none⟩ v) := K.set [] k v
theorem Keep.put_1 {b : Nat} {s : Sp} {p0 : Nat × Obj} (K : Keep w0 (p0 :: (b, Obj.box s) :: l2) w) (t : Sp) : Keep w0 (p0 :: (b, Obj.box t) :: l2) (((w.setCell ⟨b, 0, none⟩ (.int .i64 t.lo)).setCell ⟨b, 1, none⟩ (.int .i64 t.hi)).setCell ⟨b, 2, none⟩ (.bool t.all)) := K.put [p0] t
theorem Keep.putr_1 {b : Nat} {s : Sp} {p0 : Nat × Obj} (K : Keep w0 (p0 :: (b, Obj.ref s) :: l2) w) (t : Sp) : Keep w0 (p0 :: (b, Obj.ref t) :: l2) (((w.setCell ⟨b, 0, none⟩ (.int .i64 t.lo)).setCell ⟨b, 1, none⟩ (.int .i64 t.hi)).setCell ⟨b, 2, none⟩ (.bool t.all)) := K.putr [p0] t
theorem Keep.set_1 {b : Nat} {vs : Array Value} {t : TypeId} {p0 : Nat × Obj} (K : Keep w0 (p0 :: (b, .cells vs t) :: l2) w) (k : Nat) (v : Value) : Keep w0 (p0 :: (b, .cells (vs.setIfInBounds k v) t) :: l2) (w.setCell ⟨b, k, none⟩ v) := K.set [p0] k v
theorem Keep.put_2 {b : Nat} {s : Sp} {p0 p1 : Nat × Obj} (K : Keep w0 (p0 :: p1 :: (b, Obj.box s) :: l2) w) (t : Sp) : Keep w0 (p0 :: p1 :: (b, Obj.box t) :: l2) (((w.setCell ⟨b, 0, none⟩ (.int .i64 t.lo)).setCell ⟨b, 1, none⟩ (.int .i64 t.hi)).setCell ⟨b, 2, none⟩ (.bool t.all)) := K.put [p0, p1] t
theorem Keep.putr_2 {b : Nat} {s : Sp} {p0 p1 : Nat × Obj} (K : Keep w0 (p0 :: p1 :: (b, Obj.ref s) :: l2) w) (t : Sp) : Keep w0 (p0 :: p1 :: (b, Obj.ref t) :: l2) (((w.setCell ⟨b, 0, none⟩ (.int .i64 t.lo)).setCell ⟨b, 1, none⟩ (.int .i64 t.hi)).setCell ⟨b, 2, none⟩ (.bool t.all)) := K.putr [p0, p1] t
theorem Keep.set_2 {b : Nat} {vs : Array Value} {t : TypeId} {p0 p1 : Nat × Obj} (K : Keep w0 (p0 :: p1 :: (b, .cells vs t) :: l2) w) (k : Nat) (v : Value) : Keep w0 (p0 :: p1 :: (b, .cells (vs.setIfInBounds k v) t) :: l2) (w.setCell ⟨b, k, none⟩ v) := K.set [p0, p1] k v
theorem Keep.put_3 {b : Nat} {s : Sp} {p0 p1 p2 : Nat × Obj} (K : Keep w0 (p0 :: p1 :: p2 :: (b, Obj.box s) :: l2) w) (t : Sp) : Keep w0 (p0 :: p1 :: p2 :: (b, Obj.box t) :: l2) (((w.setCell ⟨b, 0, none⟩ (.int .i64 t.lo)).setCell ⟨b, 1, none⟩ (.int .i64 t.hi)).setCell ⟨b, 2, none⟩ (.bool t.all)) := K.put [p0, p1, p2] t
theorem Keep.putr_3 {b : Nat} {s : Sp} {p0 p1 p2 : Nat × Obj} (K : Keep w0 (p0 :: p1 :: p2 :: (b, Obj.ref s) :: l2) w) (t : Sp) : Keep w0 (p0 :: p1 :: p2 :: (b, Obj.ref t) :: l2) (((w.setCell ⟨b, 0, none⟩ (.int .i64 t.lo)).setCell ⟨b, 1, none⟩ (.int .i64 t.hi)).setCell ⟨b, 2, none⟩ (.bool t.all)) := K.putr [p0, p1, p2] t
theorem Keep.set_3 {b : Nat} {vs : Array Value} {t : TypeId} {p0 p1 p2 : Nat × Obj} (K : Keep w0 (p0 :: p1 :: p2 :: (b, .cells vs t) :: l2) w) (k : Nat) (v : Value) : Keep w0 (p0 :: p1 :: p2 :: (b, .cells (vs.setIfInBounds k v) t) :: l2) (w.setCell ⟨b, k, none⟩ v) := K.set [p0, p1, p2] k v
theorem Keep.put_4 {b : Nat} {s : Sp} {p0 p1 p2 p3 : Nat × Obj} (K : Keep w0 (p0 :: p1 :: p2 :: p3 :: (b, Obj.box s) :: l2) w) (t : Sp) : Keep w0 (p0 :: p1 :: p2 :: p3 :: (b, Obj.box t) :: l2) (((w.setCell ⟨b, 0, none⟩ (.int .i64 t.lo)).setCell ⟨b, 1, none⟩ (.int .i64 t.hi)).setCell ⟨b, 2, none⟩ (.bool t.all)) := K.put [p0, p1, p2, p3] t
theorem Keep.putr_4 {b : Nat} {s : Sp} {p0 p1 p2 p3 : Nat × Obj} (K : Keep w0 (p0 :: p1 :: p2 :: p3 :: (b, Obj.ref s) :: l2) w) (t : Sp) : Keep w0 (p0 :: p1 :: p2 :: p3 :: (b, Obj.ref t) :: l2) (((w.setCell ⟨b, 0, none⟩ (.int .i64 t.lo)).setCell ⟨b, 1, none⟩ (.int .i64 t.hi)).setCell ⟨b, 2, none⟩ (.bool t.all)) := K.putr [p0, p1, p2, p3] t
theorem Keep.set_4 {b : Nat} {vs : Array Value} {t : TypeId} {p0 p1 p2 p3 : Nat × Obj} (K : Keep w0 (p0 :: p1 :: p2 :: p3 :: (b, .cells vs t) :: l2) w) (k : Nat) (v : Value) : Keep w0 (p0 :: p1 :: p2 :: p3 :: (b, .cells (vs.setIfInBounds k v) t) :: l2) (w.setCell ⟨b, k, none⟩ v) := K.set [p0, p1, p2, p3] k v
theorem Keep.sp {b : Nat} {s : Sp} (K : Keep w0 l w) (h : (b, Obj.box s) ∈ l) : BoxS w b s := K.box _ h
theorem Keep.cell {b k : Nat} {vs : Array Value} {t : TypeId} {v : Value} (K : Keep w0 l w) (h : (b, Obj.cells vs t) ∈ l) (hk : vs[k]? = some v) : w.cell? ⟨b, k, none⟩ = some v := by
  have := K.box _ h
  simp only at this
  simp [World.cell?, this, hk]
theorem Keep.warm {b : Nat} {vs : Array Value} {t : TypeId} (K : Keep w0 l w) (h : (b, Obj.cells vs t) ∈ l) (o : Nat) : w.frozen? ⟨b, o, none⟩ = false := by
  have := K.box _ h
  simp only at this
  simp [World.frozen?, this]

/-- The first field of a span stored. -/
theorem Keep.put0 {b : Nat} {s : Sp} (K : Keep w0 ((b, Obj.box s) :: l2) w) (n : Int) :
    Keep w0 ((b, Obj.box ⟨n, s.hi, s.all⟩) :: l2) (w.setCell ⟨b, 0, none⟩ (.int .i64 n)) := by
  have := K.set_0 0 (.int .i64 n)
  simp at this
  exact this

theorem Keep.begin1 (w : World) (o : Obj) : Keep w [(w.heap.size, o)] (w.alloc o) := (Keep.start w).alloc o
theorem Keep.begin2 (w : World) (o p : Obj) : Keep w [(w.heap.size + 1, p), (w.heap.size, o)] ((w.alloc o).alloc p) := by
  have := (Keep.begin1 w o).alloc p
  rwa [World.size_alloc] at this
theorem Keep.begin3 (w : World) (o p q : Obj) : Keep w [(w.heap.size + 1 + 1, q), (w.heap.size + 1, p), (w.heap.size, o)] (((w.alloc o).alloc p).alloc q) := by
  have := (Keep.begin2 w o p).alloc q
  rwa [World.size_alloc, World.size_alloc] at this
theorem Keep.begin4 (w : World) (o p q r : Obj) : Keep w [(w.heap.size + 1 + 1 + 1, r), (w.heap.size + 1 + 1, q), (w.heap.size + 1, p), (w.heap.size, o)] ((((w.alloc o).alloc p).alloc q).alloc r) := by
  have := (Keep.begin3 w o p q).alloc r
  rwa [World.size_alloc, World.size_alloc, World.size_alloc] at this

/-- The world a variable, of which the fact is known. -/
theorem out_keep {I f : World → Prop} {w : World} (h : I w) (g : ∀ W, I W → f W) : f w := g w h

theorem Keep.ne (K : Hid (Keep w0 l w)) : Nonempty (At (Keep w0 l)) := ⟨⟨_, K.out⟩⟩
theorem Keep.at0 {b : Nat} {s : Sp} (K : Hid (Keep w0 l w)) (m : (b, Obj.box s) ∈ l) (p : At (Keep w0 l)) : p.w.cell? ⟨b, 0, none⟩ = some (.int .i64 s.lo) := (p.h.sp m).cell0
theorem Keep.at1 {b : Nat} {s : Sp} (K : Hid (Keep w0 l w)) (m : (b, Obj.box s) ∈ l) (p : At (Keep w0 l)) : p.w.cell? ⟨b, 1, none⟩ = some (.int .i64 s.hi) := (p.h.sp m).cell1
theorem Keep.at2 {b : Nat} {s : Sp} (K : Hid (Keep w0 l w)) (m : (b, Obj.box s) ∈ l) (p : At (Keep w0 l)) : p.w.cell? ⟨b, 2, none⟩ = some (.bool s.all) := (p.h.sp m).cell2
end Go.Proofs.Ytehjfjdopeadfaa
