/- The texts Rx, Ry of the walk of the law and of all that it calls, in one file. No condition. -/
import Derived.Test.YtmidifgnpjlgcaaGreatY7
import Derived.SizedLaws
import Derived.ProofKit
import Derived.Deep.Slices
import Derived.Deep.Fields
import Derived.ChangeSame
import Derived.Test.YtmidifgnpjlgcaaGreatY20
/- Opening what came in: a list of numbers, rows. -/
set_option linter.unusedVariables false
set_option linter.unusedSimpArgs false
namespace Go.Proofs.YtmidifgnpjlgcaaGreat
open Go.ChangeShapes Go.WideShapes Go.Deep Go.RowKit

theorem weightsAll_mem {H : Type} {P : Program} {e : TypeId} : ∀ {ds : List (DataW H)} {d : DataW H}, d ∈ ds → ∀ n ∈ d.weights P e, n ∈ DataW.weightsAll P e ds
  | d0 :: ds, d, h, n, hn => by
    rw [DataW.weightsAll, List.mem_append]
    rcases List.mem_cons.1 h with rfl | h
    · exact .inl hn
    · exact .inr (weightsAll_mem h n hn)
theorem sized_elem {H : Type} {P : Program} {ts : List TypeId} {ds : List (DataW H)} (h : (DataW.weightsEach P ts ds).all (· ≤ reachBytes) = true) {j : Nat} {t e : TypeId} {elems spare : List (DataW H)} (ht : ts[j]? = some t) (hd : ds[j]? = some (.slice elems spare)) (hu : P.underlying t = some (.slice e)) {d : DataW H} (hm : d ∈ elems) : ∀ n ∈ d.weights P e, n ≤ reachBytes := by
  intro n hn
  have := List.all_eq_true.1 h n (DataW.weights_mem_each ht hd n (by
    simp only [DataW.weights, hu, List.mem_cons, List.mem_append]
    exact .inr (.inl (weightsAll_mem hm n hn))))
  simpa using this
theorem list_of {α : Type} (d : α) (p : Nat → α → Prop) : ∀ n, (∀ i, i < n → ∃ f, p i f) → ∃ fs : List α, fs.length = n ∧ ∀ i, i < n → p i (fs.getD i d)
  | 0, _ => ⟨[], rfl, fun i h => absurd h (by omega)⟩
  | n + 1, h => by
    obtain ⟨fs, hl, hp⟩ := list_of d p n (fun i hi => h i (by omega))
    obtain ⟨f, hf⟩ := h n (by omega)
    refine ⟨fs ++ [f], by simp [hl], fun i hi => ?_⟩
    by_cases hn : i < n
    · rw [List.getD_eq_getElem?_getD, List.getElem?_append_left (by omega), ← List.getD_eq_getElem?_getD]
      exact hp i hn
    · obtain rfl : i = n := by omega
      rw [List.getD_eq_getElem?_getD, List.getElem?_append_right (by omega), hl]
      simpa using hf

section
variable {H : Type} {enc : TypeId × Value → H} {P : Program} {w : World} {base : Nat} {spare : Nat → Bool} {held : Bool}
theorem open_slice_fields {t e : TypeId} {fs : Array Field} {fuel : Nat} {cs : List Value} {x : DataW H × List MemPlace} (ht : P.underlying t = some (.slice e)) (he : P.underlying e = some (.struct fs))
    (hone : oneCellFields P fs = true) (hC : P.cellsOf e = fs.size) (h : DataW.trod enc P w base spare held fuel t cs = some x) :
    (cs = [.slice none 0 0] ∧ x = (.nil, [])) ∨
    ∃ (a : Addr) (len cap m : Nat) (D : Nat → DataW H) (Pl : Nat → List MemPlace), cs = [.slice (some a) len cap] ∧ base ≤ a.block ∧ len ≤ cap ∧ cap ≤ maxLen ∧ m = (if spare a.block then cap else len) ∧
      x = (.slice ((List.range len).map D) ((List.range (m - len)).map fun j => D (len + j)), MemPlace.row a (m * fs.size) ++ (List.range m).flatMap Pl) ∧
      ∀ i, i < m → ∃ (ys : List (DataW H × List MemPlace)) (n : Nat), D i = .agg (ys.map (·.1)) ∧ Pl i = ys.flatMap (·.2) ∧ ys.length = fs.size ∧
        ∀ (j : Nat) (f : Field), fs[j]? = some f → ∃ (v : Value) (y : DataW H × List MemPlace), w.cell? (a.add (i * fs.size + j)) = some v ∧ ys[j]? = some y ∧ DataW.trod enc P w base spare held n f.type [v] = some y := by
  rcases open_slice ht h with h0 | ⟨a, len, cap, m, n, D, Pl, hcs, hb, hl, hm, hmm, hx, hi⟩
  · exact .inl h0
  · refine .inr ⟨a, len, cap, m, D, Pl, hcs, hb, hl, hm, hmm, by rw [hC] at hx; exact hx, fun i him => ?_⟩
    obtain ⟨cs', hc, ht'⟩ := hi i him
    rw [hC] at hc
    obtain ⟨ys, n', hn', hy, hlen, hyl, hf⟩ := DataW.trod_struct he ht'
    obtain ⟨_, hcl, hat⟩ := World.cells?_some hc
    simp only [Prod.mk.injEq] at hy
    refine ⟨ys, n', hy.1, hy.2, hyl, fun j f hj => ?_⟩
    obtain ⟨ho, hk⟩ := hone_of hone j f hj
    have hjl : j < fs.size := (Array.getElem?_eq_some_iff.1 hj).1
    have hcell := hat j hjl
    have hv : cs'[j]? = some (cs'[j]'(by omega)) := List.getElem?_eq_getElem (by omega)
    have h1 := hf j f hj
    rw [ho, hk] at h1
    have hone' : (cs'.drop j).take 1 = [cs'[j]'(by omega)] := by
      rw [List.drop_eq_getElem_cons (by omega)]
      rfl
    rw [hone'] at h1
    have hys : ys[j]? = some (ys[j]'(by omega)) := List.getElem?_eq_getElem (by omega)
    refine ⟨_, _, ?_, hys, h1.trans hys⟩
    rw [← Go.Deep.add_add, hcell, hv]

/-- A list of numbers that came in. -/
theorem iv_trod {t u : TypeId} {v : Value} {x : DataW H × List MemPlace} {fuel : Nat} (hu : P.underlying t = some (.slice u)) (hk : P.underlying u = some (.int .i64)) (hc : P.cellsOf u = 1)
    (h : DataW.trod enc P w base spare held fuel t [v] = some x) : ∃ xs, Iv w v xs ∧ (xs.length = 0 ∨ ∃ el sp, x.1 = .slice el sp ∧ el.length = xs.length) := by
  rcases open_slice1 hu hc h with ⟨hcs, rfl⟩ | ⟨a, len, cap, m, n, V, D, Pl, hcs, hb, hl, hm, hmm, rfl, hx⟩
  · obtain rfl : v = .slice none 0 0 := by simpa using hcs
    exact ⟨[], ⟨none, 0, rfl, fun _ => rfl, fun j hj => absurd hj (by simp)⟩, .inl rfl⟩
  · obtain rfl : v = .slice (some a) len cap := by simpa using hcs
    have hll : len ≤ m := by
      rw [hmm]
      split
      · exact hl
      · exact Nat.le_refl _
    obtain ⟨xs, hxl, hxs⟩ := list_of (0 : Int) (fun i k => w.cell? (a.add i) = some (.int .i64 k) ∧ i64 k) len (fun i hi => by
      obtain ⟨h1, h2⟩ := hx i (by omega)
      obtain ⟨k, e, -, hw⟩ := DataW.trod_int hk h2
      have e2 : V i = .int .i64 k := by simpa using e
      rw [e2] at h1
      exact ⟨k, h1, bounds_i64 hw⟩)
    subst hxl
    refine ⟨xs, ⟨some a, cap, rfl, fun h => (by cases h), fun j hj => ⟨(hxs j hj).2, a, rfl, ?_, (hxs j hj).1⟩⟩, .inr ⟨_, _, rfl, by simp⟩⟩
    have := World.block_lt_of_cell? w _ (hxs j hj).1
    rwa [add_block] at this
theorem iv_open {t u : TypeId} {a : Option Addr} {len cap : Nat} {d : DataW H} {ps : List MemPlace} (hu : P.underlying t = some (.slice u)) (hk : P.underlying u = some (.int .i64)) (hc : P.cellsOf u = 1)
    (h : DataW.Trod enc P w base spare held t (.slice a len cap) d ps) : ∃ xs, xs.length = len ∧ Iv w (.slice a len cap) xs := by
  obtain ⟨fuel, hf⟩ := h
  obtain ⟨xs, hI, -⟩ := iv_trod hu hk hc (v := .slice a len cap) (by simpa [Value.cells] using hf)
  obtain ⟨A, c, e, -⟩ := id hI
  injection e with _ e2 _
  exact ⟨xs, e2.symm, hI⟩
/-- Rows that came in. -/
theorem rws_open {t e tc u : TypeId} {f0 f1 f2 f3 : Field} {a : Option Addr} {len cap : Nat} {d : DataW H} {ps : List MemPlace} {ts : List TypeId} {ds : List (DataW H)} {j : Nat}
    (hsz : (DataW.weightsEach P ts ds).all (· ≤ reachBytes) = true) (ht : ts[j]? = some t) (hd : ds[j]? = some d) (hu : P.underlying t = some (.slice e)) (he : P.underlying e = some (.struct #[f0, f1, f2, f3]))
    (h0 : f0.type = tc) (h1 : f1.type = u) (h2 : f2.type = u) (h3 : f3.type = u) (hkc : P.underlying tc = some (.slice u)) (hku : P.underlying u = some (.int .i64)) (hcu : P.cellsOf u = 1)
    (hone : oneCellFields P #[f0, f1, f2, f3] = true) (hc : P.cellsOf e = 4) (hB : P.bytesOf u = 8)
    (h : DataW.Trod enc P w base spare held t (.slice a len cap) d ps) : ∃ rs, rs.length = len ∧ Rws w (.slice a len cap) rs ∧ ∀ r ∈ rs, r.coef.length ≤ 4611686018427387904 := by
  obtain ⟨fuel, hf⟩ := h
  rcases open_slice_fields hu he hone hc hf with ⟨hcs, hx⟩ | ⟨x, l, c, m, D, Pl, hcs, _, hl, hm, hmm, hx, hD⟩
  · simp [Value.cells] at hcs
    obtain ⟨rfl, rfl, rfl⟩ := hcs
    exact ⟨[], rfl, ⟨none, 0, rfl, fun _ => rfl, fun j h => absurd h (by simp)⟩, fun r h => by cases h⟩
  · simp [Value.cells] at hcs
    obtain ⟨rfl, rfl, rfl⟩ := hcs
    obtain ⟨hx, _⟩ := Prod.mk.inj hx
    subst hx
    have hll : len ≤ m := by
      rw [hmm]
      split
      · exact hl
      · exact Nat.le_refl _
    obtain ⟨rs, hrl, hrs⟩ := list_of Rw.zero (fun i r => ∃ v, Iv w v r.coef ∧ w.cell? (x.add (i * 4 + 0)) = some v ∧ w.cell? (x.add (i * 4 + 1)) = some (.int .i64 r.z) ∧ w.cell? (x.add (i * 4 + 2)) = some (.int .i64 r.knee) ∧ w.cell? (x.add (i * 4 + 3)) = some (.int .i64 r.weight) ∧ r.coef.length ≤ 4611686018427387904) len (by
      intro i hi
      obtain ⟨ys, n, hDi, _, hyl, hf⟩ := hD i (by omega)
      obtain ⟨v0, y0, hc0, hy0, ht0⟩ := hf 0 f0 rfl
      obtain ⟨v1, y1, hc1, hy1, ht1⟩ := hf 1 f1 rfl
      obtain ⟨v2, y2, hc2, hy2, ht2⟩ := hf 2 f2 rfl
      obtain ⟨v3, y3, hc3, hy3, ht3⟩ := hf 3 f3 rfl
      rw [h0] at ht0
      rw [h1] at ht1
      rw [h2] at ht2
      rw [h3] at ht3
      obtain ⟨xs, hI, hsl⟩ := iv_trod hkc hku hcu ht0
      obtain ⟨k1, e1, -, -⟩ := DataW.trod_int hku ht1
      obtain ⟨k2, e2, -, -⟩ := DataW.trod_int hku ht2
      obtain ⟨k3, e3, -, -⟩ := DataW.trod_int hku ht3
      obtain rfl : v1 = .int .i64 k1 := by simpa using e1
      obtain rfl : v2 = .int .i64 k2 := by simpa using e2
      obtain rfl : v3 = .int .i64 k3 := by simpa using e3
      refine ⟨⟨xs, k1, k2, k3⟩, v0, hI, hc0, hc1, hc2, hc3, ?_⟩
      rcases hsl with hz | ⟨el, sp, hel, hlen⟩
      · show xs.length ≤ _
        omega
      · have hmem : D i ∈ (List.range len).map D := List.mem_map.2 ⟨i, List.mem_range.2 hi, rfl⟩
        match ys, hyl, hy0 with
        | [z0, z1, z2, z3], _, hy0 =>
          simp only [List.getElem?_cons_zero, Option.some.injEq] at hy0
          subst hy0
          have := sized_elem hsz ht hd hu hmem ((el.length + sp.length) * 8) (by
            rw [hDi]
            simp only [DataW.weights, he, List.map_cons, List.map_nil, h0, hel, hkc, hB, DataW.weightsEach, Array.toList, List.mem_append, List.mem_cons]
            exact .inl (.inl trivial))
          rw [show reachBytes = 140737488351232 by decide] at this
          show xs.length ≤ _
          omega)
    subst hrl
    refine ⟨rs, rfl, ⟨some x, cap, rfl, fun h => (by cases h), fun j hj => ?_⟩, fun r hr => ?_⟩
    · obtain ⟨v, hI, c0, c1, c2, c3, -⟩ := hrs j hj
      obtain ⟨v', -, c0', -⟩ := hrs 0 (by omega)
      obtain ⟨b, off, spot⟩ := x
      have hspot : spot = none := by simpa [Addr.add] using World.cell?_spot c0'
      subst hspot
      have hadd : ∀ j, (⟨b, off, none⟩ : Addr).add j = ⟨b, off + j, none⟩ := fun j => by unfold Addr.add; split <;> simp_all
      rw [hadd] at c0 c1 c2 c3
      obtain ⟨B, d, rfl, hB0, hb⟩ := hI
      refine ⟨b, off, B, d, rfl, World.block_lt_of_cell? w _ c0, ⟨B, d, rfl, hB0, hb⟩, c0, c1, c2, c3⟩
    · obtain ⟨k, hk, rfl⟩ := List.mem_iff_getElem.1 hr
      obtain ⟨v, -, -, -, -, -, hle⟩ := hrs k hk
      rw [List.getD_eq_getElem?_getD, List.getElem?_eq_getElem hk, Option.getD_some] at hle
      exact hle
end
end Go.Proofs.YtmidifgnpjlgcaaGreat
/- Opening rows that came in, with the lists' room. -/
set_option linter.unusedVariables false
set_option linter.unusedSimpArgs false
namespace Go.Proofs.YtmidifgnpjlgcaaGreat
open Go.ChangeShapes Go.WideShapes Go.Deep Go.RowKit

section
variable {H : Type} {enc : TypeId × Value → H} {P : Program} {w : World} {base : Nat} {spare : Nat → Bool} {held : Bool}
/-- A list of numbers that came in. -/
theorem iv_trod2 {t u : TypeId} {v : Value} {x : DataW H × List MemPlace} {fuel : Nat} (hu : P.underlying t = some (.slice u)) (hk : P.underlying u = some (.int .i64)) (hc : P.cellsOf u = 1)
    (h : DataW.trod enc P w base spare held fuel t [v] = some x) : ∃ xs, Iv w v xs ∧ (xs.length = 0 ∨ ∃ el sp, x.1 = .slice el sp ∧ el.length = xs.length) ∧ ∃ A c, v = .slice A xs.length c ∧ xs.length ≤ c := by
  rcases open_slice1 hu hc h with ⟨hcs, rfl⟩ | ⟨a, len, cap, m, n, V, D, Pl, hcs, hb, hl, hm, hmm, rfl, hx⟩
  · obtain rfl : v = .slice none 0 0 := by simpa using hcs
    exact ⟨[], ⟨none, 0, rfl, fun _ => rfl, fun j hj => absurd hj (by simp)⟩, .inl rfl, none, 0, rfl, Nat.le_refl _⟩
  · obtain rfl : v = .slice (some a) len cap := by simpa using hcs
    have hll : len ≤ m := by
      rw [hmm]
      split
      · exact hl
      · exact Nat.le_refl _
    obtain ⟨xs, hxl, hxs⟩ := list_of (0 : Int) (fun i k => w.cell? (a.add i) = some (.int .i64 k) ∧ i64 k) len (fun i hi => by
      obtain ⟨h1, h2⟩ := hx i (by omega)
      obtain ⟨k, e, -, hw⟩ := DataW.trod_int hk h2
      have e2 : V i = .int .i64 k := by simpa using e
      rw [e2] at h1
      exact ⟨k, h1, bounds_i64 hw⟩)
    subst hxl
    refine ⟨xs, ⟨some a, cap, rfl, fun h => (by cases h), fun j hj => ⟨(hxs j hj).2, a, rfl, ?_, (hxs j hj).1⟩⟩, .inr ⟨_, _, rfl, by simp⟩, some a, cap, rfl, hl⟩
    have := World.block_lt_of_cell? w _ (hxs j hj).1
    rwa [add_block] at this
/-- Rows that came in. -/
theorem rws_open2 {t e tc u : TypeId} {f0 f1 f2 f3 : Field} {a : Option Addr} {len cap : Nat} {d : DataW H} {ps : List MemPlace} {ts : List TypeId} {ds : List (DataW H)} {j : Nat}
    (hsz : (DataW.weightsEach P ts ds).all (· ≤ reachBytes) = true) (ht : ts[j]? = some t) (hd : ds[j]? = some d) (hu : P.underlying t = some (.slice e)) (he : P.underlying e = some (.struct #[f0, f1, f2, f3]))
    (h0 : f0.type = tc) (h1 : f1.type = u) (h2 : f2.type = u) (h3 : f3.type = u) (hkc : P.underlying tc = some (.slice u)) (hku : P.underlying u = some (.int .i64)) (hcu : P.cellsOf u = 1)
    (hone : oneCellFields P #[f0, f1, f2, f3] = true) (hc : P.cellsOf e = 4) (hB : P.bytesOf u = 8)
    (h : DataW.Trod enc P w base spare held t (.slice a len cap) d ps) : ∃ rs, rs.length = len ∧ (Rws w (.slice a len cap) rs ∧ ∀ r ∈ rs, r.coef.length ≤ 4611686018427387904) ∧ Caps w (.slice a len cap) rs := by
  obtain ⟨fuel, hf⟩ := h
  rcases open_slice_fields hu he hone hc hf with ⟨hcs, hx⟩ | ⟨x, l, c, m, D, Pl, hcs, _, hl, hm, hmm, hx, hD⟩
  · simp [Value.cells] at hcs
    obtain ⟨rfl, rfl, rfl⟩ := hcs
    exact ⟨[], rfl, ⟨⟨none, 0, rfl, fun _ => rfl, fun j h => absurd h (by simp)⟩, fun r h => by cases h⟩, fun b off c _ j hj => absurd hj (by simp)⟩
  · simp [Value.cells] at hcs
    obtain ⟨rfl, rfl, rfl⟩ := hcs
    obtain ⟨hx, _⟩ := Prod.mk.inj hx
    subst hx
    have hll : len ≤ m := by
      rw [hmm]
      split
      · exact hl
      · exact Nat.le_refl _
    obtain ⟨rs, hrl, hrs⟩ := list_of Rw.zero (fun i r => ∃ v, (Iv w v r.coef ∧ ∃ A c, v = .slice A r.coef.length c ∧ r.coef.length ≤ c) ∧ w.cell? (x.add (i * 4 + 0)) = some v ∧ w.cell? (x.add (i * 4 + 1)) = some (.int .i64 r.z) ∧ w.cell? (x.add (i * 4 + 2)) = some (.int .i64 r.knee) ∧ w.cell? (x.add (i * 4 + 3)) = some (.int .i64 r.weight) ∧ r.coef.length ≤ 4611686018427387904) len (by
      intro i hi
      obtain ⟨ys, n, hDi, _, hyl, hf⟩ := hD i (by omega)
      obtain ⟨v0, y0, hc0, hy0, ht0⟩ := hf 0 f0 rfl
      obtain ⟨v1, y1, hc1, hy1, ht1⟩ := hf 1 f1 rfl
      obtain ⟨v2, y2, hc2, hy2, ht2⟩ := hf 2 f2 rfl
      obtain ⟨v3, y3, hc3, hy3, ht3⟩ := hf 3 f3 rfl
      rw [h0] at ht0
      rw [h1] at ht1
      rw [h2] at ht2
      rw [h3] at ht3
      obtain ⟨xs, hI, hsl, hcp⟩ := iv_trod2 hkc hku hcu ht0
      obtain ⟨k1, e1, -, -⟩ := DataW.trod_int hku ht1
      obtain ⟨k2, e2, -, -⟩ := DataW.trod_int hku ht2
      obtain ⟨k3, e3, -, -⟩ := DataW.trod_int hku ht3
      obtain rfl : v1 = .int .i64 k1 := by simpa using e1
      obtain rfl : v2 = .int .i64 k2 := by simpa using e2
      obtain rfl : v3 = .int .i64 k3 := by simpa using e3
      refine ⟨⟨xs, k1, k2, k3⟩, v0, ⟨hI, hcp⟩, hc0, hc1, hc2, hc3, ?_⟩
      rcases hsl with hz | ⟨el, sp, hel, hlen⟩
      · show xs.length ≤ _
        omega
      · have hmem : D i ∈ (List.range len).map D := List.mem_map.2 ⟨i, List.mem_range.2 hi, rfl⟩
        match ys, hyl, hy0 with
        | [z0, z1, z2, z3], _, hy0 =>
          simp only [List.getElem?_cons_zero, Option.some.injEq] at hy0
          subst hy0
          have := sized_elem hsz ht hd hu hmem ((el.length + sp.length) * 8) (by
            rw [hDi]
            simp only [DataW.weights, he, List.map_cons, List.map_nil, h0, hel, hkc, hB, DataW.weightsEach, Array.toList, List.mem_append, List.mem_cons]
            exact .inl (.inl trivial))
          rw [show reachBytes = 140737488351232 by decide] at this
          show xs.length ≤ _
          omega)
    subst hrl
    refine ⟨rs, rfl, ⟨⟨some x, cap, rfl, fun h => (by cases h), fun j hj => ?_⟩, fun r hr => ?_⟩, fun b off c hv j hj => ?_⟩
    · obtain ⟨v, ⟨hI, -⟩, c0, c1, c2, c3, -⟩ := hrs j hj
      obtain ⟨v', -, c0', -⟩ := hrs 0 (by omega)
      obtain ⟨b, off, spot⟩ := x
      have hspot : spot = none := by simpa [Addr.add] using World.cell?_spot c0'
      subst hspot
      have hadd : ∀ j, (⟨b, off, none⟩ : Addr).add j = ⟨b, off + j, none⟩ := fun j => by unfold Addr.add; split <;> simp_all
      rw [hadd] at c0 c1 c2 c3
      obtain ⟨B, d, rfl, hB0, hb⟩ := hI
      refine ⟨b, off, B, d, rfl, World.block_lt_of_cell? w _ c0, ⟨B, d, rfl, hB0, hb⟩, c0, c1, c2, c3⟩
    · obtain ⟨k, hk, rfl⟩ := List.mem_iff_getElem.1 hr
      obtain ⟨v, -, -, -, -, -, hle⟩ := hrs k hk
      rw [List.getD_eq_getElem?_getD, List.getElem?_eq_getElem hk, Option.getD_some] at hle
      exact hle
    · obtain ⟨v, ⟨-, A, c', rfl, hcl⟩, c0, -⟩ := hrs j hj
      injection hv with e1 _ _
      injection e1 with e1
      subst e1
      have hadd : ∀ j, (⟨b, off, none⟩ : Addr).add j = ⟨b, off + j, none⟩ := fun j => by unfold Addr.add; split <;> simp_all
      rw [hadd] at c0
      exact ⟨A, c', c0, hcl⟩
end
end Go.Proofs.YtmidifgnpjlgcaaGreat
