/- Digits appended one by one: the walk of Of. -/
import Derived.Test.YtehjfjdopeadfaaDc
import Derived.Test.YtehjfjdopeadfaaSpA
import Derived.Laws.AppendOwn
import Derived.Laws.AppendOwnNone
import Derived.Maps.AppendAt
set_option linter.unusedVariables false
set_option linter.unusedSimpArgs false
namespace Go.Proofs.Ytehjfjdopeadfaa
open Go.RowKit

theorem info3 : (Try.prog.info? 3).map (fun i => (i.zero, i.size, i.bytes)) = some (some (.int .i64 0), 1, 8) := by kernel_rfl

/-- Digits in a row of the call's own. -/
def Own (w : World) (base : Nat) (v : Value) (ds : List Int) : Prop := w.ownsRow base 3 1 v ds.length (ds.map (Value.int .i64))

theorem Own.nil (w : World) (base : Nat) : Own w base (.slice none 0 0) [] := ⟨rfl, .inl ⟨rfl, rfl⟩⟩
theorem Own.base {w : World} {base : Nat} {v : Value} {ds : List Int} (h : Own w base v ds) (k : Nat) (hk : v.ownBlock = some k) : base ≤ k := by
  rcases h.2 with ⟨rfl, _⟩ | ⟨g, cap, cur, rfl, hb, _⟩
  · simp [Value.ownBlock] at hk
  · have : g = k := by simpa [Value.ownBlock] using hk
    omega
theorem Own.below {w w1 : World} {base : Nat} {v : Value} {ds : List Int} (h : Own w base v ds) (hb : Below w.heap.size w w1) : Own w1 base v ds :=
  World.ownsRow.kept h (row := none) ⟨hb.os, hb.tape, hb.output, hb.size, fun i hi _ => hb.block i hi⟩ (by cases v.ownBlock <;> simp)
theorem Own.dg {w : World} {base : Nat} {v : Value} {ds : List Int} (h : Own w base v ds) : Dg w v ds := by
  rcases h.2 with ⟨rfl, h0⟩ | ⟨g, cap, cur, rfl, hb, hh, hn, _, hcur, htake⟩
  · exact .inl ⟨rfl, List.length_eq_zero_iff.1 h0⟩
  · refine .inr ⟨g, cap, rfl, hn, (Array.getElem?_eq_some_iff.1 hh).1, fun j hj => ?_⟩
    have e : (cur.toList.take (ds.length * 1))[j]? = (ds.map (Value.int .i64))[j]? := by rw [htake]
    rw [List.getElem?_take, if_pos (by omega), List.getElem?_map, List.getElem?_eq_getElem hj] at e
    simp only [World.cell?, hh]
    rw [← Array.getElem?_toList, e]
    simp [hj]

/-- One digit more. -/
theorem app1 {ops : Array Oper} {rest : List Oper} {o : Oper} {a : Act} {Q : Exit → Act → World → Prop} {w : World} (hgd : o.guard = none) (s x : Operand)
    (ho : o.op = .call { callee := .builtin .append, args := #[s, x], argTypes := #[77, 77] }) (base : Nat) (v : Value) (ds : List Int) (c : Int) (hs : a.eval s = v) (hown : Own w base v ds) (hx : a.eval x = .slice (some ⟨w.heap.size, 0, none⟩) 1 1)
    (hlen : ds.length ≤ 1000000) (hbase : base ≤ w.heap.size)
    (h : ∀ v' w', Own w' base v' (ds ++ [c]) → (∀ w0 l, Keep w0 l w → (∀ p ∈ l, p.1 < base) → w0.heap.size ≤ base → Keep w0 l w') → wpList Try.prog ops Q rest (a.put o.dst v') w') :
    wpList Try.prog ops Q (o :: rest) a (w.alloc (.cells #[.int .i64 c] 3)) := by
  obtain ⟨i0, hi, hx0⟩ := Option.map_eq_some_iff.1 info3
  simp only [Prod.mk.injEq] at hx0
  obtain ⟨hz0, hz1, hz2⟩ := hx0
  refine wpList_append_own _ hgd s x 77 ho base 3 i0 (.int .i64 0) 1 8 Try.underlying77 hi hz0 hz1 hz2 rfl (by decide) v ds.length _ hs (World.ownsRow.alloc hown _) ⟨w.heap.size, 0, none⟩ 1 1 [.int .i64 c] hx rfl (cell_one_new _ _ _) ?_ (by unfold maxLen; omega) (by omega) (by simp; omega) ?_
  · intro u hu
    simp only [List.mem_singleton] at hu
    rw [hu]; rfl
  · intro v' w' hown' hgrow _
    refine h v' w' ?_ fun w0 l K hl h0 => ?_
    · have e : (ds ++ [c]).map (Value.int .i64) = ds.map (Value.int .i64) ++ [.int .i64 c] := by simp
      unfold Own
      rw [e, List.length_append]
      exact hown'
    · have Ka := (K.alloc (.cells #[.int .i64 c] 3)).rest
      have hg : ∀ k, k < base → w'.heap[k]? = (w.alloc (.cells #[.int .i64 c] 3)).heap[k]? := fun k hk => hgrow.block k (by simp; omega) (fun e => by have := hown.base k e.symm; omega)
      refine ⟨fun p hp => ?_, Ka.own, Ka.one, ⟨hgrow.os.trans Ka.B.os, hgrow.tape.trans Ka.B.tape, hgrow.output.trans Ka.B.output, Nat.le_trans Ka.B.size hgrow.size, fun k hk => (hg k (by omega)).trans (Ka.B.block k hk)⟩⟩
      rw [hg p.1 (hl p hp)]
      exact Ka.box p hp
end Go.Proofs.Ytehjfjdopeadfaa
