/- Vectors and arrays of three numbers that come in as arguments: what they are. -/
import Derived.Test.YtehjfjdopeadfaaVcW
import Derived.Deep.Strs
import Derived.OpenShut
import Derived.Lib.SmallJoins
set_option linter.unusedVariables false
set_option linter.unusedSimpArgs false
namespace Go.Proofs.Ytehjfjdopeadfaa
open Go.RowKit SpMath

variable {H : Type} {enc : TypeId × Value → H} {w : World} {base b0 : Nat} {spare : Nat → Bool} {held : Bool} {r : Reach} {v : Value} {d : DataW H} {p : List MemPlace}

theorem array9 {α : Type} {cs : Array α} (h : cs.size = 9) : ∃ c0 c1 c2 c3 c4 c5 c6 c7 c8, cs = #[c0, c1, c2, c3, c4, c5, c6, c7, c8] := by
  obtain ⟨l⟩ := cs
  match l, h with
  | [c0, c1, c2, c3, c4, c5, c6, c7, c8], _ => exact ⟨c0, c1, c2, c3, c4, c5, c6, c7, c8, rfl⟩

theorem okWide_arr {P : Program} {t e : TypeId} {n : Nat} (hu : P.underlying t = some (.array n e)) (h : Value.okWide P w r b0 t v) : ∃ cs, v = .agg cs ∧ cs.size = P.cellsOf t := by
  unfold Value.okWide at h
  simp only [hu] at h
  obtain ⟨cs, h1, h2, _⟩ := h
  exact ⟨cs, h1, h2⟩

theorem cells23 : Try.prog.cellsOf 23 = 3 := by kernel_rfl
theorem cells25 : Try.prog.cellsOf 25 = 9 := by kernel_rfl
theorem cells26 : Try.prog.cellsOf 26 = 3 := by kernel_rfl
theorem cells2 : Try.prog.cellsOf 2 = 1 := by kernel_rfl
theorem cells4 : Try.prog.cellsOf 4 = 1 := by kernel_rfl

theorem trod_span {m : Nat} {c0 c1 c2 : Value} {x : DataW H × List MemPlace} (h : DataW.trod enc Try.prog w base spare held m 23 [c0, c1, c2] = some x) : ∃ s : Sp, c0 = .int .i64 s.lo ∧ c1 = .int .i64 s.hi ∧ c2 = .bool s.all := by
  obtain ⟨y0, y1, y2, n, _, _, h0, h1, h2⟩ := Go.Deep.trod_struct3 Try.underlying23 h
  simp only [cells2, cells4, List.drop_zero, List.take_succ_cons, List.take_zero, List.drop_succ_cons] at h0 h1 h2
  obtain ⟨a, e0, _⟩ := DataW.trod_int Try.underlying2 h0
  obtain ⟨b, e1, _⟩ := DataW.trod_int Try.underlying2 h1
  obtain ⟨c, e2, _⟩ := DataW.trod_bool Try.underlying4 h2
  exact ⟨⟨a, b, c⟩, by simpa using e0, by simpa using e1, by simpa using e2⟩

theorem open_vec (hv : Value.okWide Try.prog w r b0 25 v) (h : DataW.Trod enc Try.prog w base spare held 25 v d p) : ∃ s : Vc, v = s.v := by
  obtain ⟨cs, rfl, hsz⟩ := okWide_arr Try.underlying25 hv
  rw [cells25] at hsz
  obtain ⟨c0, c1, c2, c3, c4, c5, c6, c7, c8, rfl⟩ := array9 hsz
  obtain ⟨fuel, hf⟩ := h
  obtain ⟨xs, m, _, _, _, hxs, hall⟩ := DataW.trod_array Try.underlying25 hf
  rw [cells23] at hall
  have k0 := hall 0 (by omega)
  have k1 := hall 1 (by omega)
  have k2 := hall 2 (by omega)
  simp only [Value.cells, List.drop_zero, List.take_succ_cons, List.take_zero, List.drop_succ_cons, Nat.zero_mul, Nat.one_mul, Nat.reduceMul] at k0 k1 k2
  rw [List.getElem?_eq_getElem (by omega)] at k0 k1 k2
  obtain ⟨s0, rfl, rfl, rfl⟩ := trod_span k0
  obtain ⟨s1, rfl, rfl, rfl⟩ := trod_span k1
  obtain ⟨s2, rfl, rfl, rfl⟩ := trod_span k2
  exact ⟨⟨s0, s1, s2⟩, rfl⟩

theorem open_arr (hv : Value.okWide Try.prog w r b0 26 v) (h : DataW.Trod enc Try.prog w base spare held 26 v d p) : ∃ a b c : Int, v = .agg #[.int .i64 a, .int .i64 b, .int .i64 c] ∧ (Lit.int .i64 a).wf = true ∧ (Lit.int .i64 b).wf = true ∧ (Lit.int .i64 c).wf = true := by
  obtain ⟨cs, rfl, hsz⟩ := okWide_arr Try.underlying26 hv
  rw [cells26] at hsz
  obtain ⟨c0, c1, c2, rfl⟩ := Go.Joins.array3 hsz
  obtain ⟨fuel, hf⟩ := h
  obtain ⟨xs, m, _, _, _, hxs, hall⟩ := DataW.trod_array Try.underlying26 hf
  rw [cells2] at hall
  have k0 := hall 0 (by omega)
  have k1 := hall 1 (by omega)
  have k2 := hall 2 (by omega)
  simp only [Value.cells, List.drop_zero, List.take_succ_cons, List.take_zero, List.drop_succ_cons, Nat.zero_mul, Nat.one_mul, Nat.reduceMul] at k0 k1 k2
  rw [List.getElem?_eq_getElem (by omega)] at k0 k1 k2
  obtain ⟨a, e0, _, w0⟩ := DataW.trod_int Try.underlying2 k0
  obtain ⟨b, e1, _, w1⟩ := DataW.trod_int Try.underlying2 k1
  obtain ⟨c, e2, _, w2⟩ := DataW.trod_int Try.underlying2 k2
  obtain rfl : c0 = .int .i64 a := by simpa using e0
  obtain rfl : c1 = .int .i64 b := by simpa using e1
  obtain rfl : c2 = .int .i64 c := by simpa using e2
  exact ⟨a, b, c, rfl, w0, w1, w2⟩
end Go.Proofs.Ytehjfjdopeadfaa
